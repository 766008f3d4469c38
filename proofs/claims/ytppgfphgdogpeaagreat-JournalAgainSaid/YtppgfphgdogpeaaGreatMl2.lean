/-
  The library of the decompiler, as far as it is needed here. Conditions: none.
-/
import Derived.Maps.RangeRun
import Derived.Shelf.SlSortCmp.NoneTotal
import Derived.Lib.QuietBelow
import Derived.Test.YtppgfphgdogpeaaGreatMl1
import Derived.Test.YtppgfphgdogpeaaGreatMl0
set_option linter.unusedVariables false
set_option linter.unusedSimpArgs false
namespace Gv
open Go
def FZ (p:Prop)[Decidable p]:Option Unit:=if p then some () else none
theorem ag.alY {β:Type}{p:Prop}[Decidable p]{k:Unit→ag β}{R:β→Prop}(h:ag.bind (ag.of (FZ p)) k R):p:=by
 obtain⟨r,h1,_⟩:=h;unfold FZ at h1;split at h1
 ·assumption
 cases h1
theorem ag.ajD {β:Type}{p:Prop}[Decidable p]{k:Unit→ag β}{R:β→Prop}(h:ag.bind (ag.of (FZ p)) k R):k () R:=by
 obtain⟨r,_,ab⟩:=h;exact ab
section
variable {c:cF} {E:List (Nat×I)} {L:List aF} {ops:Array Oper} {Q:Exit→Act→World→Prop}
theorem adI {n:Nat}(aH:n≤ops.size)(Yf:∀ i o,i<n→ops[i]? =some o→ ∀ e∈o.after,Region.binds .any e=true→e.on<i)
 (Fe:n=ops.size∨ (Region.sinkB .any ops n=true∧Region.chainB .any ops n=true))
 (zm:Region.seqB .any ops (ops.size - n) n ((List.range n).foldl (fun l i=>l.setIfInBounds i true) (Array.replicate ops.size false))=true)
 (S:Array Bool→Act→World→Prop)
 (vf:∀ (bs:Array Bool) (i:Nat) (o:Oper) (a:Act) (W:World),HeadInv .any ops n bs→i<n→ops[i]? =some o→bs.getD i false=false→ (∀ e∈o.after,Region.binds .any e=true→bs.getD e.on false=true)→S bs a W→
  wpOpIn c.F 9 c.P ops Q i (fun gv W'=>S (bs.setIfInBounds i true) gv W') a W)
 (oR:∀ (bs:Array Bool) (a:Act) (W:World),(∀ i,i<n→bs.getD i false=true)→S bs a W→c.s3 ops Q (ops.toList.drop n) a W):
 ∀ m (bs:Array Bool) (a:Act) (W:World),((List.range n).filter fun i=> !bs.getD i true).length≤m→HeadInv .any ops n bs→S bs a W→wpAnyIn c.F 9 c.P .any ops Q (m+(ops.size - n)) bs a W:=by
 have qi:∀ i,i<n→ ∃ o,ops[i]? =some o:=fun i ao=>⟨ops[i],by simp⟩
 have sL:∀ (bs:Array Bool) (a:Act) (W:World),(∀ i,i<n→bs.getD i true=true)→HeadInv .any ops n bs→S bs a W→wpAnyIn c.F 9 c.P .any ops Q (ops.size - n) bs a W:=by
  intro bs a W w7 inv st;have ak:=RN inv aH w7;have xF:=zm;rw [← ak] at xF;have Jo:(ops.toList.drop n).length=ops.size - n:=by simp
  rw [← Jo] at xF ⊢;exact HL (ops.toList.drop n) n bs a W (fun j=>by simp) xF (oR bs a W (fun i ao=>by
   have h1:=w7 i ao;have ab:i<bs.size:=by rw [inv.size];omega
   simpa [ab] using h1) st)
 have more:∀ f (bs:Array Bool) a W,wpAnyIn c.F 9 c.P .any ops Q f bs a W→wpAnyIn c.F 9 c.P .any ops Q (f+1) bs a W:=by
  intro f;induction f with
  | zero=>intro bs a W h;exact⟨fun _=>h.2,fun i ao=>by rw [h.1] at ao;cases ao⟩
  | succ f Pj=>intro bs a W h;exact⟨h.1,fun i ao=>wpOpIn_mono (fun gv qy cL=>Pj _ gv qy cL) (h.2 i ao)⟩
 intro m
 induction m with
 | zero=>
   intro bs a W hm inv st
   rw [Nat.zero_add]
   refine sL bs a W (fun i ao=>?_) inv st
   cases h:bs.getD i true with
   | true=>rfl
   | false=>
     have:i∈ (List.range n).filter fun i=> !bs.getD i true:=List.mem_filter.2 ⟨List.mem_range.2 ao,by rw [h];rfl⟩
     rw [List.length_eq_zero_iff.1 (Nat.le_zero.1 hm)] at this
     cases this
 | succ m b2=>
   intro bs a W hm inv st
   rw [show m+1+(ops.size - n)=(m+(ops.size - n))+1 by omega]
   by_cases Ff:∀ i,i<n→bs.getD i true=true
   ·have h1:=sL bs a W Ff inv st
    have key:∀ k,wpAnyIn c.F 9 c.P .any ops Q (k+(ops.size - n)) bs a W:=by
     intro k;induction k with
     | zero=>rw [Nat.zero_add];exact h1
     | succ k Pk=>rw [show k+1+(ops.size - n)=(k+(ops.size - n))+1 by omega];exact more _ _ _ _ Pk
    exact more _ _ _ _ (key m)
   have hex:∃ i,i<n∧bs.getD i true=false:=by
    false_or_by_contra;rename_i ab;exact Ff fun i ao=>by
     cases h:bs.getD i true with
     | true=>rfl
     | false=>exact absurd ⟨i,ao,h⟩ ab
   have M6:∀ t∈Region.ready .any ops bs,t<n:=by
    intro t zG;rcases Nat.lt_or_ge t n with h | h
    ·exact h
    obtain⟨i,ao,mZ⟩:=hex;have akK:t<ops.size:=by
     obtain⟨_,o,bg,_⟩:=mem_ready.1 zG;exact(Array.getElem?_eq_some_iff.1 bg).1
    rcases Fe with h1 | h1
    ·omega
    exact absurd zG (tail_waits h1.1 h1.2 (by omega) inv _ i rfl ao mZ t h)
   refine⟨fun bq=>?_,fun i ao=>?_⟩
   ·exfalso
    have key:∀ d i,i≤d→i<n→bs.getD i true=true:=by
     intro d;induction d with
     | zero=>
       intro i xE ao
       cases ak:bs.getD i true with
       | true=>rfl
       | false=>
         obtain⟨o,bg⟩:=qi i ao
         have:i∈Region.ready .any ops bs:=mem_ready.2 ⟨ak,o,bg,fun e he hb=>by have:=Yf i o ao bg e he hb;omega⟩
         rw [bq] at this;cases this
     | succ d Pl=>
       intro i xE ao
       cases ak:bs.getD i true with
       | true=>rfl
       | false=>
         obtain⟨o,bg⟩:=qi i ao
         have:i∈Region.ready .any ops bs:=mem_ready.2 ⟨ak,o,bg,fun e he hb=>by
          have h1:=Yf i o ao bg e he hb;have ab:=Pl e.on (by omega) (by omega);have ax:e.on<bs.size:=by rw [inv.size];omega
          simpa [ax] using ab⟩
         rw [bq] at this;cases this
    obtain⟨i,ao,mZ⟩:=hex
    have:=key i i (Nat.le_refl _) ao
    rw [mZ] at this;cases this
   have fT:i<n:=M6 i ao
   obtain⟨mZ,o,bg,EN⟩:=mem_ready.1 ao
   have Cf:i<bs.size:=by rw [inv.size];omega
   have Oy:((List.range n).filter fun j=> !(bs.setIfInBounds i true).getD j true).length≤m:=by
    have:((List.range n).filter fun j=> !(bs.setIfInBounds i true).getD j true).length<((List.range n).filter fun j=> !bs.getD j true).length:=by
     refine Ui (fun j=> !bs.getD j true) (fun j=> !(bs.setIfInBounds i true).getD j true) i (by simp only [mZ];rfl) ?_ (fun j aB=>?_) n fT
     ·simp [Cf]
     by_cases e:i=j
     ·subst e;simp only [mZ];rfl
     rw [getD_set_ne true e] at aB;exact aB
    omega
   exact wpOpIn_mono (fun gv W' rb=>b2 _ gv W' Oy (inv.set ao fT) rb) (vf bs i o a W inv fT bg (getD_both mZ) EN st)
def jy (ls:Nat→Bool)(E:List (Nat×I)):Nat→List (Option (Nat×I))→List (Nat×I)
 | _,[]=>E
 | k,none::r=>jy ls E (k+1) r
 | k,some x::r=>bif ls k then x::jy ls E (k+1) r else jy ls E (k+1) r
def rn (fs:List (Option (Nat×I)))(E:List (Nat×I)):List Nat→List (Nat×I)
 | []=>E
 | i::r=>match fs[i]? with
   | some (some x)=>x::rn fs E r
   | _=>rn fs E r
def kO (fs:List (Option (Nat×I))):List Nat:=fs.filterMap fun x=>x.map (·.1)
theorem M7 {ls:Nat→Bool}{E:List (Nat×I)}{t:Nat}{τ:I} :∀ {fs:List (Option (Nat×I))} {k:Nat},look (jy ls E k fs) t=some τ→ (∃ j,ls (k+j)=true∧fs[j]? =some (some (t,τ)))∨look E t=some τ
 | [],k,h=>.inr h
 | none::r,k,h=>by
   rcases M7 (fs:=r) (k:=k+1) h with⟨j,h1,ab⟩ | h1
   ·exact .inl ⟨j+1,by rw [← h1];congr 1;omega,by simpa using ab⟩
   exact .inr h1
 | some x::r,k,h=>by
   have aA:look (jy ls E (k+1) r) t=some τ→ (∃ j,ls (k+j)=true∧ (some x::r)[j]? =some (some (t,τ)))∨look E t=some τ:=fun h=>by
    rcases M7 (fs:=r) (k:=k+1) h with⟨j,h1,ab⟩ | h1
    ·exact .inl ⟨j+1,by rw [← h1];congr 1;omega,by simpa using ab⟩
    exact .inr h1
   unfold jy at h;cases hk:ls k with
   | false=>rw [hk] at h;exact aA h
   | true=>
     rw [hk] at h
     simp only [cond_true,look] at h
     cases hb:Nat.beq x.1 t with
     | true=>
       rw [hb] at h
       have h1:x.2=τ:=by simpa using h
       have ab:=eS.1 hb
       exact .inl ⟨0,hk,by rw [← h1,← ab];rfl⟩
     | false=>rw [hb] at h;exact aA h
theorem Bx {ls:Nat→Bool}{E:List (Nat×I)}{t:Nat} :∀ {fs:List (Option (Nat×I))} {k:Nat},t ∉ kO fs→look (jy ls E k fs) t=look E t
 | [],k,h=>rfl
 | none::r,k,h=>Bx (fs:=r) (k:=k+1) h
 | some x::r,k,h=>by
   have h1:t≠x.1∧t ∉ kO r:=by simpa [kO] using h
   unfold jy;cases hk:ls k with
   | false=>exact Bx h1.2
   | true=>
     have hb:Nat.beq x.1 t=false:=by
      cases hb:Nat.beq x.1 t with
      | false=>rfl
      | true=>exact absurd (eS.1 hb).symm h1.1
     simp only [cond_true,look,hb,cond_false]
     exact Bx h1.2
theorem H8 {fs:List (Option (Nat×I))}{j:Nat}{x:Nat×I}(h:fs[j]? =some (some x)):x.1∈kO fs:=
 List.mem_filterMap.2 ⟨_,List.mem_of_getElem? h,rfl⟩
theorem IW {ls:Nat→Bool}{E:List (Nat×I)} :∀ {fs:List (Option (Nat×I))} {k j:Nat} {x:Nat×I},(kO fs).Nodup→fs[j]? =some (some x)→ls (k+j)=true→look (jy ls E k fs) x.1=some x.2
 | [],k,j,x,_,h,_=>by simp at h
 | none::r,k,j,x,aH,h,ak=>by
   cases j with
   | zero=>simp at h
   | succ j=>exact IW (fs:=r) (k:=k+1) (j:=j) aH (by simpa using h) (by rw [← ak];congr 1;omega)
 | some y::r,k,j,x,aH,h,ak=>by
   have qp:y.1 ∉ kO r∧ (kO r).Nodup:=by simpa [kO] using aH
   cases j with
   | zero=>
     have:y=x:=by simpa using h
     subst this
     have ak:ls k=true:=ak
     unfold jy
     simp only [ak,cond_true,look,Nat.beq_refl]
   | succ j=>
     have cL:r[j]? =some (some x):=by simpa using h
     have ao:=IW (fs:=r) (k:=k+1) (E:=E) (ls:=ls) qp.2 cL (by rw [← ak];congr 1;omega)
     unfold jy
     cases hk:ls k with
     | false=>exact ao
     | true=>
       have hb:Nat.beq y.1 x.1=false:=by
        cases hb:Nat.beq y.1 x.1 with
        | false=>rfl
        | true=>exact absurd (by rw [eS.1 hb];exact H8 cL) qp.1
       simp only [cond_true,look,hb,cond_false]
       exact ao
theorem Uo {fs:List (Option (Nat×I))}{E:List (Nat×I)}{t:Nat}{τ:I} :∀ {us:List Nat},look (rn fs E us) t=some τ→ (∃ j∈us,fs[j]? =some (some (t,τ)))∨look E t=some τ
 | [],h=>.inr h
 | i::r,h=>by
   have aA:look (rn fs E r) t=some τ→ (∃ j∈i::r,fs[j]? =some (some (t,τ)))∨look E t=some τ:=fun h=>by
    rcases Uo h with⟨j,h1,ab⟩ | h1
    ·exact .inl ⟨j,List.mem_cons_of_mem _ h1,ab⟩
    exact .inr h1
   unfold rn at h;split at h
   ·rename_i x al;simp only [look] at h;cases hb:Nat.beq x.1 t with
    | true=>
      rw [hb] at h
      have h1:x.2=τ:=by simpa using h
      have ab:=eS.1 hb
      exact .inl ⟨i,by simp,by rw [al,← h1,← ab]⟩
    | false=>rw [hb] at h;exact aA h
   exact aA h
theorem ail {fs:List (Option (Nat×I))}{E:List (Nat×I)}{ls:Nat→Bool}{us:List Nat}(aH:(kO fs).Nodup)(aE:∀ t∈kO fs,look E t=none)(hu:∀ j∈us,ls j=true){t:Nat}{τ:I}(h:look (rn fs E us) t=some τ):look (jy ls E 0 fs) t=some τ:=by
 rcases Uo h with⟨j,h1,ab⟩ | h1
 ·exact IW aH ab (by rw [Nat.zero_add];exact hu j h1)
 rw [Bx fun ab=>by rw [aE t ab] at h1;cases h1];exact h1
theorem SP:∀ {E:List (Nat×I)} {t:Nat},(E.map (·.1)).contains t=false→look E t=none
 | [],t,_=>rfl
 | (s,σ)::r,t,h=>by
   have h1: ¬ t=s∧ (r.map (·.1)).contains t=false:=by simpa using h
   have hb:Nat.beq s t=false:=by
    cases hb:Nat.beq s t with
    | false=>rfl
    | true=>exact absurd (eS.1 hb).symm h1.1
   simp only [look,hb,cond_false];exact SP h1.2
def Up (ops:Array Oper)(n w o6 GX:Nat)(eN:List (Option Nat))(sc:List (List Nat))(E:List Nat):Bool:=
 decide (eN.length=n)&&decide (n≤ops.size)&&decide (w<n)&&decide (o6::eN.filterMap id).Nodup&&((o6::eN.filterMap id).all fun s=> !E.contains s&&Nat.blt s GX)&&
 ((List.range n).all fun i=>((ops[i]?).map fun o=>(o.dst==if i=w then some o6 else(eN[i]?).getD none)&&o.guard.isNone&&(decide (i=w)||((eN[i]?).getD none).isSome)&&o.after.all fun e=> !Region.binds .any e||decide (e.on<i)).getD false&&
   ((sc[i]?).getD []).all fun k=>decide (k≠w)&&Region.waitsFor .any ops i k)&&
 decide ((eN[w]?).getD none=none)&&
 (decide (n=ops.size)||(Region.sinkB .any ops n&&Region.chainB .any ops n))&&
 Region.seqB .any ops (ops.size - n) n ((List.range n).foldl (fun l i=>l.setIfInBounds i true) (Array.replicate ops.size false))
def u2 (c:cF)(E:List (Nat×I))(L:List aF){γ:Type}(K:γ→Prop)(eE:γ→List aF)(fs:List (Option (Nat×I))):List Oper→List (Option (Nat×I))→List (List Nat)→Prop
 | o::os,some x::r,u::us=>(bc c (rn fs E u) L o x.2∧ ∀ y,K y→bc c (rn fs E u) (eE y) o x.2)∧u2 c E L K eE fs os r us
 | _::os,none::r,_::us=>u2 c E L K eE fs os r us
 | _,_,_=>True
theorem u2.get {γ:Type}{K:γ→Prop}{eE:γ→List aF}{fs:List (Option (Nat×I))} :∀ {os:List Oper} {rs:List (Option (Nat×I))} {us:List (List Nat)},u2 c E L K eE fs os rs us→ ∀ {i:Nat} {o:Oper} {x:Nat×I} {u:List Nat},os[i]? =some o→rs[i]? =some (some x)→us[i]? =some u→
 bc c (rn fs E u) L o x.2∧ ∀ y,K y→bc c (rn fs E u) (eE y) o x.2
 | o::os,some x::r,u::us,h,0,o',GY,CO,h1,ab,ax=>by
   have ar:o=o':=by simpa using h1
   have aU:x=GY:=by simpa using ab
   have cz:u=CO:=by simpa using ax
   subst ar aU cz;exact h.1
 | o::os,some x::r,u::us,h,i+1,o',GY,CO,h1,ab,ax=>u2.get h.2 (i:=i) (by simpa using h1) (by simpa using ab) (by simpa using ax)
 | o::os,none::r,u::us,h,0,o',GY,CO,h1,ab,ax=>by simp at ab
 | o::os,none::r,u::us,h,i+1,o',GY,CO,h1,ab,ax=>by
   have h:u2 c E L K eE fs os r us:=h;exact u2.get h (i:=i) (by simpa using h1) (by simpa using ab) (by simpa using ax)
 | [],_,_,_,i,_,_,_,h1,_,_=>by simp at h1
 | _::_,[],_,_,i,_,_,_,_,ab,_=>by simp at ab
 | _::_,_::_,[],_,i,_,_,_,_,_,ax=>by simp at ax
theorem IH {ka:Nat}{l:List Oper}(hm:c.P.follows .mixedOrders=true)(n w o6 GX:Nat){γ:Type}{K:γ→Prop}(fs:List (Option (Nat×I)))(eN:List (Option Nat))(sc:List (List Nat))(es:List Nat)(Kd:γ→I)(eE:γ→List aF)
 {fJ:Oper} {Qe:List Nat} (Po:l[w]? =some fJ) (amw:sc[w]? =some Qe) (Pp:c.n=GX) (amx:(fs.map fun x=>x.map (·.1))=eN) (ase:sc.length=n) (kR:E.map (·.1)=es) (fo:Up l.toArray n w o6 GX eN sc es=true)
 (bQ:u2 c E L K eE fs (l.take n) fs sc)
 (hw:∀ (wa:Exit→Act→World→Prop) (E':List (Nat×I)),(∀ {t τ},look (rn fs E Qe) t=some τ→look E' t=some τ)→ (∀ y,K y→aj c wa .normal ((o6,Kd y)::E') (eE y))→J c l.toArray wa [fJ] E' L)
 (bw:∀ y,K y→J c l.toArray Q (l.drop n) ((o6,Kd y)::jy (fun _=>true) E 0 fs) (eE y)):aw c Q (.region ka l.toArray true) E L:=fun a W s=>by
 subst Pp amx kR
 refine wpIn_region_any hm ?_
 simp only [Up,Bool.and_eq_true,decide_eq_true_eq,Bool.or_eq_true] at fo
 obtain⟨⟨⟨⟨⟨⟨⟨⟨hlen,aH⟩,amy⟩,kk⟩,Yg⟩,pB⟩,Pq⟩,Fe⟩,zm⟩:=fo
 have hlen:fs.length=n:=by simpa using hlen
 have amz:(fs.map fun x=>x.map (·.1)).filterMap id=kO fs:=by
  unfold kO;rw [List.filterMap_map];rfl
 rw [amz] at kk Yg
 obtain⟨Yh,kk⟩:=List.nodup_cons.1 kk
 have amA:∀ t,(E.map (·.1)).contains t=false→look E t=none:=fun t h=>SP h
 have aE:∀ t∈o6::kO fs,look E t=none∧Nat.blt t c.n=true:=fun t bw=>by
  have:=List.all_eq_true.1 Yg t bw;simp only [Bool.and_eq_true,Bool.not_eq_true'] at this;exact⟨amA t this.1,this.2⟩
 have Pr:∀ t∈kO fs,look E t=none:=fun t bw=>(aE t (List.mem_cons_of_mem _ bw)).1
 have Cz:∀ i o,i<n→l.toArray[i]? =some o→ (o.dst=if i=w then some o6 else((fs[i]?).getD none).map (·.1))∧o.guard=none∧ (i=w∨ ∃ x,fs[i]? =some (some x))∧ (∀ e∈o.after,Region.binds .any e=true→e.on<i)∧ ∀ k∈ (sc[i]?).getD [],k≠w∧Region.waitsFor .any l.toArray i k=true:=fun i o ao bg=>by
  have h1:=List.all_eq_true.1 pB i (List.mem_range.2 ao);simp only [Bool.and_eq_true] at h1;obtain⟨ab,ax⟩:=h1;simp only [bg,Option.map_some,Option.getD_some,Bool.and_eq_true,beq_iff_eq] at ab;obtain⟨⟨⟨aO,a7⟩,bl⟩,cN⟩:=ab;have amB:((fs.map fun x=>x.map (·.1))[i]?).getD none=((fs[i]?).getD none).map (·.1):=by
   rw [List.getElem?_map];cases fs[i]? with
   | none=>rfl
   | some x=>rfl
  rw [amB] at aO bl;refine⟨aO,by simpa using a7,?_,fun e he hb=>?_,fun k hk=>?_⟩
  ·simp only [Bool.or_eq_true,decide_eq_true_eq] at bl;rcases bl with bl | bl
   ·exact .inl bl
   right;cases al:fs[i]? with
   | none=>rw [al] at bl;cases bl
   | some x=>
     cases x with
     | none=>rw [al] at bl;cases bl
     | some x=>exact⟨x,rfl⟩
  ·have:=Array.all_eq_true_iff_forall_mem.1 cN e he;simp [hb] at this;exact this
  have:=List.all_eq_true.1 ax k hk;simpa using this
 have akO:fs[w]? =some none:=by
  have h1:((fs.map fun x=>x.map (·.1))[w]?).getD none=none:=Pq;rw [List.getElem?_map] at h1;cases al:fs[w]? with
  | none=>have:=List.getElem?_eq_none_iff.1 al;omega
  | some x=>
    cases x with
    | none=>rfl
    | some x=>rw [al] at h1;cases h1
 let S:Array Bool→Act→World→Prop:=fun bs a W=>(bs.getD w false=false→bI c (jy (fun i=>bs.getD i false) E 0 fs) L a W)∧ (bs.getD w false=true→ ∃ y,K y∧bI c ((o6,Kd y)::jy (fun i=>bs.getD i false) E 0 fs) (eE y) a W)
 have h:=adI (c:=c) (ops:=l.toArray) (Q:=Q) aH (fun i o ao bg=>(Cz i o ao bg).2.2.2.1) Fe zm S ?_ ?_ n (Array.replicate l.toArray.size false) a W.drew (Nat.le_trans (List.length_filter_le _ _) (by simp)) ?_ ?_
 ·rw [show n+(l.toArray.size - n)=l.toArray.size by omega] at h
  exact h
 ·
  intro bs i o a W inv ao bg mZ EN cA
  obtain⟨bt,cu,dX,km,kn⟩:=Cz i o ao bg
  have Cf:i<bs.size:=by rw [inv.size];omega
  have Kc:(bs.setIfInBounds i true).getD i false=true:=by simp [Cf]
  have hg:∀ j,j≠i→ (bs.setIfInBounds i true).getD j false=bs.getD j false:=fun j aB=>getD_set_ne false (fun e=>aB e.symm)
  have Ps:i<sc.length:=by omega
  have JK:∀ k∈sc[i],bs.getD k false=true:=fun k hk=>by
   have:=kn k (by rw [List.getElem?_eq_getElem Ps];exact hk);obtain⟨xO,qt,e,he,hb,zM⟩:=Region.waitsFor_spec this.2;rw [bg] at qt;cases qt;rw [← zM];exact EN e he hb
  have Yi:l[i]? =some o:=by simpa using bg
  have Oz:∀ {t τ},look (rn fs E sc[i]) t=some τ→look (jy (fun i=>bs.getD i false) E 0 fs) t=some τ:=fun {t τ} h=>ail kk Pr JK h
  by_cases Ke:i=w
  ·subst Ke
   rw [if_pos rfl] at bt
   have ar:fJ=o:=Option.some.inj (Po.symm.trans Yi)
   have aU:Qe=sc[i]:=Option.some.inj (amw.symm.trans (List.getElem?_eq_getElem Ps))
   subst ar aU
   have Pm:=hw (qD (fun gv W'=>S (bs.setIfInBounds i true) gv W') Q) (jy (fun i=>bs.getD i false) E 0 fs) Oz fun y aR gv W' st=>?_
   ·exact HO bg (Pm a W (cA.1 mZ))
   refine⟨fun h=>(by rw [Kc] at h;cases h),fun _=>⟨y,aR,?_⟩⟩
   have:jy (fun j=>(bs.setIfInBounds i true).getD j false) E 0 fs=jy (fun j=>bs.getD j false) E 0 fs:=by
    have key:∀ (gs:List (Option (Nat×I))) (k:Nat),(∀ j,gs[j]? ≠none→gs[j]? =fs[k+j]?)→jy (fun j=>(bs.setIfInBounds i true).getD j false) E k gs=jy (fun j=>bs.getD j false) E k gs:=by
     intro gs;induction gs with
     | nil=>intro k _;rfl
     | cons x r b2=>
       intro k hk
       have aA:=b2 (k+1) fun j aB=>by
        have:=hk (j+1) (by simpa using aB);rw [List.getElem?_cons_succ] at this;rw [this];congr 1;omega
       cases x with
       | none=>exact aA
       | some x=>
         have bq:=hk 0 (by simp)
         have oX:k≠i:=fun e=>by
          rw [e,Nat.add_zero,akO] at bq;simp at bq
         unfold jy
         simp only [hg k oX,aA]
    exact key fs 0 fun j _=>by rw [Nat.zero_add]
   rw [this];exact st
  obtain⟨x,al⟩:=dX.resolve_left Ke
  rw [if_neg Ke,al] at bt
  have Yj:(bs.setIfInBounds i true).getD w false=bs.getD w false:=hg w fun e=>Ke e.symm
  have bA:=u2.get bQ (i:=i) (by rw [List.getElem?_take,if_pos ao];exact Yi) al (List.getElem?_eq_getElem Ps)
  have Pt:=H8 al
  have arf:∀ (fa:List (Nat×I)),(∀ t τ,look ((x.1,x.2)::fa) t=some τ→True):=fun _ _ _ _=>trivial
  have V0:∀ t τ,look (jy (fun j=>(bs.setIfInBounds i true).getD j false) E 0 fs) t=some τ→look ((x.1,x.2)::jy (fun j=>bs.getD j false) E 0 fs) t=some τ:=fun t τ ak=>by
   rcases M7 ak with⟨j,nd,GZ⟩ | h1
   ·rw [Nat.zero_add] at nd;by_cases kc:j=i
    ·subst kc;rw [al] at GZ;cases GZ;simp only [look,Nat.beq_refl,cond_true]
    rw [hg j kc] at nd;have ab:=IW (E:=E) (ls:=fun j=>bs.getD j false) (k:=0) kk GZ (by rw [Nat.zero_add];exact nd);cases hb:Nat.beq x.1 t with
    | false=>simp only [look,hb,cond_false];exact ab
    | true=>
      exfalso
      have ar:=eS.1 hb
      have uniq:∀ (gs:List (Option (Nat×I))) (p q:Nat) (u v:Nat×I),(kO gs).Nodup→gs[p]? =some (some u)→gs[q]? =some (some v)→u.1=v.1→p=q:=by
       intro gs;induction gs with
       | nil=>intro p q u v _ hp;simp at hp
       | cons z r b2=>
         intro p q u v aH hp hq e
         have aA:(kO r).Nodup:=by
          cases z with
          | none=>exact aH
          | some z=>exact(show z.1 ∉ kO r∧ (kO r).Nodup by simpa [kO] using aH).2
         cases p with
         | zero=>
           have bF:z=some u:=by simpa using hp
           subst bF
           cases q with
           | zero=>rfl
           | succ q=>exact absurd (by rw [e];exact H8 (by simpa using hq)) (show u.1 ∉ kO r∧ (kO r).Nodup by simpa [kO] using aH).1
         | succ p=>
           cases q with
           | zero=>
             have bF:z=some v:=by simpa using hq
             subst bF
             exact absurd (by rw [← e];exact H8 (by simpa using hp)) (show v.1 ∉ kO r∧ (kO r).Nodup by simpa [kO] using aH).1
           | succ q=>rw [b2 p q u v aA (by simpa using hp) (by simpa using hq) e]
      exact kc (uniq fs j i _ _ kk GZ al ar.symm)
   have hb:Nat.beq x.1 t=false:=by
    cases hb:Nat.beq x.1 t with
    | false=>rfl
    | true=>
      have ar:=eS.1 hb
      rw [← ar,Pr x.1 Pt] at h1;cases h1
   simp only [look,hb,cond_false];rw [Bx fun ab=>by rw [Pr t ab] at h1;cases h1];exact h1
  have xz:=(aE x.1 (List.mem_cons_of_mem _ Pt)).2
  refine HO bg ?_
  cases Kf:bs.getD w false with
  | false=>
    refine J.v (τ:=x.2) (d:=x.1) (fun a W st=>bA.1 a W (st.less fun t τ h=>⟨τ,Oz h,fun _ _ _ h=>h⟩)) cu bt xz (J.nil fun gv W' st=>⟨fun _=>st.less fun t τ h=>⟨τ,V0 t τ h,fun _ _ _ h=>h⟩,fun h=>?_⟩) a W (cA.1 Kf)
    rw [Yj,Kf] at h;cases h
  | true=>
    obtain⟨y,aR,amC⟩:=cA.2 Kf
    have amD:∀ {t τ},look (rn fs E sc[i]) t=some τ→look ((o6,Kd y)::jy (fun i=>bs.getD i false) E 0 fs) t=some τ:=fun {t τ} h=>by
     have h1:=Oz h;cases hb:Nat.beq o6 t with
     | false=>simp only [look,hb,cond_false];exact h1
     | true=>
       exfalso
       have ar:=eS.1 hb
       subst ar
       rw [Bx Yh,(aE o6 (by simp)).1] at h1;cases h1
    refine J.v (τ:=x.2) (d:=x.1) (fun a W st=>bA.2 y aR a W (st.less fun t τ h=>⟨τ,amD h,fun _ _ _ h=>h⟩)) cu bt xz (J.nil fun gv W' st=>⟨fun h=>?_,fun _=>⟨y,aR,st.less fun t τ h=>⟨τ,?_,fun _ _ _ h=>h⟩⟩⟩) a W amC
    ·rw [Yj,Kf] at h;cases h
    cases hb:Nat.beq o6 t with
    | true=>
      have ar:=eS.1 hb
      subst ar
      have mB:Nat.beq x.1 o6=false:=by
       cases mB:Nat.beq x.1 o6 with
       | false=>rfl
       | true=>exact absurd (by rw [← eS.1 mB];exact Pt) Yh
      simp only [look,hb,cond_true] at h ⊢
      simp only [mB,cond_false];exact h
    | false=>
      simp only [look,hb,cond_false] at h ⊢
      have:=V0 t τ h
      simp only [look] at this
      exact this
 ·intro bs a W w7 cA
  obtain⟨y,aR,st⟩:=cA.2 (w7 w amy)
  refine bw y aR a W (st.less fun t τ h=>⟨τ,?_,fun _ _ _ h=>h⟩)
  have key:∀ (gs:List (Option (Nat×I))) (k:Nat),k+gs.length≤n→jy (fun j=>bs.getD j false) E k gs=jy (fun _=>true) E k gs:=by
   intro gs;induction gs with
   | nil=>intro k _;rfl
   | cons x r b2=>
     intro k hk
     have aA:=b2 (k+1) (by simp only [List.length_cons] at hk;omega)
     cases x with
     | none=>exact aA
     | some x=>
       unfold jy
       simp only [w7 k (by simp only [List.length_cons] at hk;omega),aA]
  rw [key fs 0 (by omega)];exact h
 ·exact
  {size:=by simp
   closed:=fun j xO _ ak=>by rw [getD_replicate_false] at ak;cases ak
   tail:=fun t _ bw=>by simp at bw;simp [bw] }
 refine⟨fun _=>?_,fun h=>by rw [getD_replicate_false] at h;cases h⟩
 have key:∀ (gs:List (Option (Nat×I))) (k:Nat),jy (fun j=>(Array.replicate l.toArray.size false).getD j false) E k gs=E:=by
  intro gs;induction gs with
  | nil=>intro k;rfl
  | cons x r b2=>
    intro k
    have aA:=b2 (k+1)
    cases x with
    | none=>exact aA
    | some x=>
      unfold jy
      simp only [getD_replicate_false,cond_false] at aA ⊢
      exact aA
 show bI c (jy (fun j=>(Array.replicate l.toArray.size false).getD j false) E 0 fs) L a W.drew
 rw [key]
 exact s.world (Fr.drew W)
end
def z8 (n:Nat)(vis:List Nat):Option Nat→Prop
 | none=> ∀ j,j<n→j∈vis
 | some j=>j<n∧j ∉ vis
def ag.next (n:Nat)(vis:List Nat):ag (Option Nat):=fun R=> ∀ j,z8 n vis j→R j
theorem ag.Sa {β:Type}{n:Nat}{vis:List Nat}{k:Option Nat→ag β}{R:β→Prop}(h:ag.bind (ag.next n vis) k R)(j:Option Nat)(aB:z8 n vis j):k j R:=h j aB
def nu (es:Array MapEntry)(vis:List Nat):Array Nat:=(vis.filterMap fun j=>(es[j]?).map (·.born)).toArray
def mY (an3:Nat)(es:Array MapEntry)(clock:Nat)(vis:List Nat):Obj:= .mapIter (some an3) clock (nu es vis) clock
structure Kz (es:Array MapEntry)(clock n:Nat):Prop where
 size:es.size=n
 born:∀ x∈es.toList,x.born<clock
 nodup:(es.toList.map MapEntry.born).Nodup
def eG.and (cp:eG)(o:Obj):eG where
 holds A W x:=cp.holds A W x∧x=o
 oM:=cp.oM
 mono e h:=⟨cp.mono e h.1,h.2⟩
def vp (b:Nat)(o:Obj)(e:aF):aF:=if e.key=some b then⟨e.key,e.cp.and o⟩ else e
def oU (b:Nat)(o:Obj)(L:List aF):List aF:=L.map (vp b o)
theorem adJ (b:Nat)(o:Obj)(e:aF):(vp b o e).key=e.key:=by unfold vp;split <;> rfl
theorem M8 {b:Nat}{o:Obj} :∀ {L:List aF},aP (oU b o L)=aP L
 | []=>rfl
 | e::L=>by
   have b2:=M8 (b:=b) (o:=o) (L:=L);show aP (vp b o e::oU b o L)=_;unfold aP;rw [adJ,b2]
def I.Yk (b:Bool):I where
 holds _ _ v:= ∃ xs:Array Value,v= .tuple xs∧xs[0]? =some (.bool b)
 mono _ h:=h
section
variable {c:cF} {E:List (Nat×I)} {L:List aF} {ops:Array Oper} {Q:Exit→Act→World→Prop}
variable {d:Option Tmp} {ty:TypeId} {pos:String} {af:Array Edge} {g:Option (Nat×Bool)} {x y z:Operand} {t t2:TypeId}
variable {bC:Type} [dU bC] {hp:aG bC} {loc:List aF}
theorem adu {key:Option Nat}{n m cap:Nat}(aH:n=m)(h:aN c E L x (.eq (aJ key n cap))):aN c E L x (.eq (aJ key m cap)):=aH ▸ h
theorem IL {b:Nat}{o:Obj}{α β:Type}[ah α][ah β]{kv:List (α×β)}{wi:bC}(n:Nat)(aq:L.drop n=Gv.oU b o (aI hp))(hp':pat hp b=some wi)(hk:dU.gp b wi= [⟨some b,.map kv⟩]):(⟨some b,eG.and (.map kv) o⟩:aF)∈L:=by
 have h1:(⟨some b,.map kv⟩:aF)∈aI hp:=iK (n:=0) (hp:=hp) rfl hp' hk;have ab:vp b o ⟨some b,.map kv⟩∈Gv.oU b o (aI hp):=List.mem_map.2 ⟨_,h1,rfl⟩;rw [← aq] at ab;have ax:=List.mem_of_mem_drop ab;unfold vp at ax;rw [if_pos rfl] at ax;exact ax
theorem bI.swap {L':List aF}{a:Act}{W:World}(h:bI c E L a W)(hk:aP L'=aP L)(bg:∀ e∈L',e.ok (aP L++c.bZ) W):bI c E L' a W:=
 {defers:=h.defers
  size:=h.size
  env:=by rw [hk];exact h.env
  dO:=h.dO
  own:=by rw [hk];exact bg
  nodup:=by rw [hk];exact h.nodup
  lt:=by rw [hk];exact h.lt
  gL:=by rw [hk];exact h.gL
  e6:=by rw [hk];exact h.e6 }
theorem bI.oU {a:Act}{W:World}{M:List aF}(h:bI c E (loc++M) a W){b:Nat}{o:Obj}(hb:W.heap[b]? =some o):bI c E (loc++Gv.oU b o M) a W:=by
 refine h.swap (by rw [ff,ff,M8]) fun e he=>?_;rcases List.mem_append.1 he with he | he
 ·exact h.own e (List.mem_append_left _ he)
 obtain⟨hK,bq,rfl⟩:=List.mem_map.1 he;have h1:=h.own hK (List.mem_append_right _ bq);unfold vp;split
 ·rename_i hk;unfold aF.ok at h1 ⊢;simp only [hk] at h1 ⊢;obtain⟨o',g1,g2⟩:=h1;have:o'=o:=by rw [hb] at g1;exact(Option.some.inj g1).symm
  exact⟨o',g1,g2,this⟩
 exact h1
theorem bI.Jg {a:Act}{W:World}{M:List aF}{b:Nat}{o:Obj}(h:bI c E (loc++Gv.oU b o M) a W):bI c E (loc++M) a W:=by
 have hk:aP (loc++M)=aP (loc++Gv.oU b o M):=by rw [ff,ff,M8]
 refine h.swap hk fun e he=>?_;rcases List.mem_append.1 he with he | he
 ·exact h.own e (List.mem_append_left _ he)
 have h1:=h.own (vp b o e) (List.mem_append_right _ (List.mem_map.2 ⟨e,he,rfl⟩));unfold vp at h1;split at h1
 ·rename_i dh;unfold aF.ok at h1 ⊢;simp only [dh] at h1 ⊢;obtain⟨o',g1,g2,_⟩:=h1;exact⟨o',g1,g2⟩
 exact h1
theorem aj.Jg {z:Exit}{b:Nat}{o:Obj}(n:Nat)(aq:L.drop n=Gv.oU b o (aI hp))(k:aj c Q z E (L.take n++aI hp)):aj c Q z E L:=fun a W s=>by
 have e:L=L.take n++Gv.oU b o (aI hp):=by rw [← aq,List.take_append_drop]
 rw [e] at s;exact k a W s.Jg
theorem lV.get {α β:Type}[ah α][ah β]{A W} :∀ {es:List MapEntry} {kv:List (α×β)},lV A W es kv→ ∀ {j:Nat} {x:α×β},kv[j]? =some x→ ∃ e,es[j]? =some e∧ (I.of x.1).holds A W e.key∧ (I.of x.2).holds A W e.val
 | _,_,.nil,j,x,h=>by simp at h
 | _,_,.cons h1 ab r,0,x,h=>by
   have h:some _=some x:=h;cases h;exact⟨_,rfl,h1,ab⟩
 | _,_,.cons h1 ab r,j+1,x,h=>by
   obtain⟨e,g1,g2⟩:=r.get (j:=j) (by simpa using h);exact⟨e,by simpa using g1,g2⟩
theorem J.Ub {rest:List Oper}{ba p key elem:Nat}{α β:Type}[ah α][ah β]{kv:List (α×β)}{wi:bC}(n:Nat)(aq:L.drop n=aI hp)(hu:c.P.underlying t=some (.map key elem))(al:aN c E L x (.of (⟨some p⟩:eQ)))(hp':pat hp p=some wi)(hk:dU.gp p wi= [⟨some p,.map kv⟩])(aH:Nat.blt ba c.n=true)
 (k:∀ r es clock,Kz es clock kv.length→J c ops Q rest ((ba,.eq (.pointer (some ⟨r,0,none⟩)))::E) (⟨some r,.is (mY p es clock [])⟩::(L.take n++Gv.oU p (.map es clock) (aI hp)))):
 J c ops Q (⟨some ba,.range t x,ty,pos,af,none⟩::rest) E L:=fun a W s=>by
 have e:L=L.take n++aI hp:=by rw [← aq,List.take_append_drop]
 have hm:(⟨some p,.map kv⟩:aF)∈L:=by
  rw [e];exact iK (n:=(L.take n).length) (hp:=hp) (by simp) hp' hk
 obtain⟨es,clock,bg,ab,ax,aO⟩:=s.Fc hm
 have me:=wN.1 (al a W s)
 have kR:Kz es clock kv.length:=⟨by have:=ab.length;simpa using this,ax,aO⟩
 refine iP rfl (R:=fun v W'=>v= .pointer (some ⟨W.heap.size,0,none⟩)∧W'=W.alloc (mY p es clock [])) (.mv ?_ ⟨rfl,rfl⟩) fun v W' ⟨bb,hw⟩=>?_
 ·have bA:(getObj p).run c.P W= .ok (.map es clock) W:=by simp [getObj,Sem.run,bg]
  simp [execOp,Instr.range,Sem.run_bind,run_underlying hu,me,bA,newObj,Sem.run]
  rfl
 subst bb
 subst hw
 have s1:=s.alloc (cp:= .is (mY p es clock [])) (o:=mY p es clock []) rfl
 refine k W.heap.size es clock kR _ _ (bI.put ?_ (by simpa using aH) rfl)
 rw [e] at s1
 have hb:(W.alloc (mY p es clock [])).heap[p]? =some (.map es clock):=by
  have cj:p<W.heap.size:=(Array.getElem?_eq_some_iff.1 bg).1;show(W.heap.push _)[p]? =_;rw [Array.getElem?_push_lt cj,← Array.getElem?_eq_getElem cj];exact bg
 exact bI.oU (loc:=⟨some W.heap.size,.is (mY p es clock [])⟩::L.take n) s1 hb
theorem J.Vi {rest:List Oper}{ba r p:Nat}{α β:Type}[ah α][ah β]{kv:List (α×β)}{es:Array MapEntry}{clock:Nat}{vis:List Nat}(i:Nat)(al:aN c E L x (.eq (.pointer (some ⟨r,0,none⟩))))(ao:L[i]? =some ⟨some r,.is (mY p es clock vis)⟩)
 (hm:(⟨some p,eG.and (.map kv) (.map es clock)⟩:aF)∈L) (he:Kz es clock kv.length) (aH:Nat.blt ba c.n=true)
 (k:∀ j,z8 kv.length vis j→J c ops Q rest ((ba,.Yk j.isSome)::E) (L.set i ⟨some r,.is (mY p es clock (vis++j.toList))⟩)):
 J c ops Q (⟨some ba,.next x false,ty,pos,af,none⟩::rest) E L:=fun a W s=>by
 have me:a.eval x=_:=al a W s
 obtain⟨bt,q7,⟨_,mB⟩⟩:=s.own _ hm
 subst mB
 obtain⟨cu,CB,uo⟩:=s.own _ (List.mem_of_getElem? ao)
 have uo:cu=mY p es clock vis:=uo
 subst uo
 have aim:∀ {j:Nat} {e:MapEntry},es[j]? =some e→ (nu es vis).contains e.born=true→j∈vis:=fun {j e} aB ad=>by
  unfold nu at ad;simp only [List.contains_toArray,List.contains_iff_mem,List.mem_filterMap] at ad;obtain⟨v,bb,h1⟩:=ad;cases Kg:es[v]? with
  | none=>rw [Kg] at h1;cases h1
  | some e'=>
    rw [Kg] at h1
    have h1:e'.born=e.born:=by simpa using h1
    have Pu:j<es.toList.length:=by simpa using (Array.getElem?_eq_some_iff.1 aB).1
    have r7:v<es.toList.length:=by simpa using (Array.getElem?_eq_some_iff.1 Kg).1
    have ar:(es.toList.map MapEntry.born)[j]? =some e.born:=by simp [aB]
    have aU:(es.toList.map MapEntry.born)[v]? =some e.born:=by simp [Kg,h1]
    have:=(List.getElem?_inj (by simpa using Pu) he.nodup).1 (ar.trans aU.symm)
    rw [this];exact bb
 rcases run_next_at (P:=c.P) W ty r p clock clock (nu es vis) es clock CB q7 he.born (Nat.le_refl _) with⟨bq,j7⟩ | ⟨e,s7,tl,Ct,j7⟩
 ·
  have lA:z8 kv.length vis none:=fun j aB=>by
   have zN:j<es.size:=by rw [he.size];exact aB
   false_or_by_contra;rename_i fx;have:es[j]∈ (leftOf es (nu es vis)).toList:=by
    unfold leftOf;simp only [Array.toList_filter,List.mem_filter];refine⟨by simp,?_⟩;cases ad:(nu es vis).contains es[j].born with
    | false=>rfl
    | true=>exact absurd (aim (by simp [zN]) ad) fx
   have bF:(leftOf es (nu es vis)).toList= []:=by
    apply List.eq_nil_of_length_eq_zero;simpa using bq
   rw [bF] at this;cases this
  refine iP rfl (R:=fun v W'=>v= .tuple #[.bool false]∧W'=W) (.mv (v:= .tuple #[.bool false]) ?_ ⟨rfl,rfl⟩) fun v W' ⟨bb,hw⟩=>?_
  ·simp only [execOp,me,Sem.run_bind,j7,Result.andThen_ok];rfl
  subst bb hw
  have hk:=k none lA
  have lr:L.set i ⟨some r,.is (mY p es clock (vis++Option.toList none))⟩=L:=by
   apply List.ext_getElem?;intro q;rw [List.getElem?_set];split
   ·rename_i hq;subst hq;rw [if_pos (List.getElem?_eq_some_iff.1 ao).1,ao];simp
   rfl
  rw [lr] at hk
  exact hk _ _ (bI.put s (by simpa using aH) ⟨_,rfl,rfl⟩)
 have Xf:e∈es.toList∧ (nu es vis).contains e.born=false:=by
  unfold leftOf at s7;simp only [Array.toList_filter,List.mem_filter,Bool.not_eq_true'] at s7;exact s7
 obtain⟨j,aB⟩:=List.mem_iff_getElem?.1 Xf.1
 have zN:es[j]? =some e:=by simpa using aB
 have Pu:j<kv.length:=by rw [← he.size];exact(Array.getElem?_eq_some_iff.1 zN).1
 have lA:z8 kv.length vis (some j):=⟨Pu,fun bb=>by
  have:(nu es vis).contains e.born=true:=by
   unfold nu;simp only [List.contains_toArray,List.contains_iff_mem,List.mem_filterMap];exact⟨j,bb,by rw [zN];rfl⟩
  rw [Xf.2] at this;cases this⟩
 have NZ:(nu es vis).push e.born=nu es (vis++[j]):=by
  unfold nu;rw [List.filterMap_append];simp [zN]
 rw [NZ] at j7
 refine iP rfl (R:=fun v W'=>v= .tuple #[.bool true,e.key,e.val]∧W'=tl.putObj r (mY p es clock (vis++[j]))) (.mv (v:= .tuple #[.bool true,e.key,e.val]) ?_ ⟨rfl,rfl⟩) fun v W' ⟨bb,hw⟩=>?_
 ·simp only [execOp,me,Sem.run_bind,j7,Result.andThen_ok];rfl
 subst bb hw
 have s1:bI c E L a tl:=by
  rcases Ct with rfl | rfl
  ·exact s
  exact s.world (Fr.drew W)
 exact k (some j) lA _ _ (bI.put (s1.sU ao (cp':= .is (mY p es clock (vis++[j]))) (o':=mY p es clock (vis++[j])) rfl) (by simpa using aH) ⟨_,rfl,rfl⟩)
theorem Uc {b:Bool}(al:aN c E L x (.Yk b)):bc c E L ⟨d,.extract x 0,ty,pos,af,g⟩ (.of b):= .pure fun a W s=>by
 obtain⟨xs,h1,ab⟩:=al a W s;refine⟨.bool b,?_,of_bool.2 rfl⟩;simp [execOp,Instr.extract,h1,ab]
theorem SD {r p:Nat}{α β:Type}[ah α][ah β][Inhabited α][Inhabited β]{kv:List (α×β)}{es:Array MapEntry}{clock:Nat}{vis:List Nat}{j:Option Nat}{q:Nat}(i:Nat)(al:aN c E L x (.eq (.pointer (some ⟨r,0,none⟩))))(ao:L[i]? =some ⟨some r,.is (mY p es clock (vis++j.toList))⟩)
 (hm:(⟨some p,eG.and (.map kv) (.map es clock)⟩:aF)∈L) (he:Kz es clock kv.length) (aB:z8 kv.length vis j) (hq:j=some q):
 bc c E L ⟨d,.entry x,ty,pos,af,g⟩ (.bP [.of (au kv q).1,.of (au kv q).2]):= .pure fun a W s=>by
 subst hq
 have me:a.eval x=_:=al a W s
 obtain⟨bt,q7,⟨nI,yW,vJ,ab,ax,aO⟩,mB⟩:=s.own _ hm
 subst mB
 cases vJ
 obtain⟨cu,CB,uo⟩:=s.own _ (List.mem_of_getElem? ao)
 have uo:cu=mY p es clock (vis++[q]):=uo
 subst uo
 have Yl:q<kv.length:=aB.1
 obtain⟨e,g1,g2,g3⟩:=ab.get (j:=q) (x:=au kv q) (by rw [dm _ Yl];exact List.getElem?_eq_getElem Yl)
 have zN:es[q]? =some e:=by simpa using g1
 have NZ:nu es (vis++[q])=(nu es vis).push e.born:=by
  unfold nu;rw [List.filterMap_append];simp [zN]
 have Pv:W.heap[r]? =some (.mapIter (some p) clock ((nu es vis).push e.born) clock):=by rw [← NZ];exact CB
 have j7:=run_entry_at (P:=c.P) W r p clock (nu es vis) es clock e Pv q7 (List.mem_of_getElem? g1) he.nodup
 refine⟨.tuple #[e.key,e.val],?_,_,rfl,.cons g2 (.cons g3 .nil)⟩
 simp only [execOp,me,Sem.run_bind,j7,Result.andThen_ok]
 rfl
end
end Gv
namespace Gv
open Go Go.Proofs Go.Sort
def I.FQ {α:Type}[ah α](P:Program)(F:α→α→Option Int):I where
 holds A W v:= ∃ f cap,v= .func (.func f) #[] cap∧bM P f∧ ∀ cM W',Ext A W cM W'→ (∀ k∈cM,k<W'.heap.size)→ ∀ x y r nM tg,F x y=some r→ (I.of x).holds cM W' nM→ (I.of y).holds cM W' tg→
  Calls P f (#[nM,tg]++cap) W' fun e xy=> ∃ v,e= .returned v∧Fr [] W' xy∧ (I.of r).holds cM xy v
 mono e h:=let⟨f,cap,h1,ab,ax⟩:=h; ⟨f,cap,h1,ab,fun cM W' e'=>ax cM W' (e.trans e')⟩
theorem SE {c:cF}{E:List (Nat×I)}{L:List aF}{α:Type}[ah α]{F:α→α→Option Int}{f:FuncId}(cn:bM c.P f)(h:∀ x y r,F x y=some r→dZ c.P f [.of x,.of y] (.of r)):aN c E L (.func f) (.FQ c.P F):=fun a W s=>
 ⟨f,#[],rfl,cn,fun cM W' _ eM x y r nM tg mm al aR=>by simpa using h x y r mm cM W' [nM,tg] eM (.cons al (.cons aR .nil))⟩
theorem adK {W W':World}(h:Fr [] W W'):∃ q os,W'=grow (W.drewN q) os:=by
 obtain⟨p,hp⟩:=regrown_of_below h.below;have hd:=h.drawn;rw [hp] at hd;have hd:W.drawn≤p.d:=hd;refine⟨p.d - W.drawn,p.os,?_⟩;rw [hp];unfold redrawn World.drewN;congr 2;omega
structure xG {α:Type}(c:α→α→Int):Prop where
 neg:∀ x y,c x y<0↔0<c y x
 nh:∀ x y z,c x y≤0→c y z≤0→c x z≤0
theorem xG.swo {α:Type}{c:α→α→Int}(h:xG c):SWO (ltOf c) where
 irrefl x:=by
  unfold ltOf;rw [decide_eq_false_iff_not];intro h1;have:=(h.neg x x).1 h1;omega
 trans x y z h1 ab:=by
  unfold ltOf at *;rw [decide_eq_true_eq] at *;have bT:=h.nh x y z (by omega) (by omega);by_cases ax:c x z<0
  ·exact ax
  have aO: ¬ 0<c z x:=fun a7=>ax ((h.neg x z).2 a7);have a7:=h.nh y z x (by omega) (by omega);have:=(h.neg x y).1 h1;omega
 ntrans x y z h1 ab:=by
  unfold ltOf at *;rw [decide_eq_false_iff_not] at *;have dJ: ¬ 0<c y x:=fun ax=>h1 ((h.neg x y).2 ax);have ew: ¬ 0<c z y:=fun ax=>ab ((h.neg y z).2 ax);have jc:=h.nh z y x (by omega) (by omega);intro ax;have:=(h.neg x z).1 ax;omega
theorem xG.on {α β:Type}{c:α→α→Int}(h:xG c)(g:β→α):xG (fun x y=>c (g x) (g y)):=⟨fun x y=>h.neg _ _,fun x y z=>h.nh _ _ _⟩
def mE (k:Nat)(cs:Array Value)(i:Nat):List Value:=(cs.toList.drop (i * k)).take k
theorem TM {k:Nat}{cs:Array Value}{i j:Nat}(aB:j<k)(h:i * k+j<cs.size):(mE k cs i)[j]! =cs[i * k+j]:=by
 have ak:j<(mE k cs i).length:=by
  unfold mE;rw [List.length_take,List.length_drop,Array.length_toList];omega
 rw [getElem!_pos _ j ak];have:(mE k cs i)[j]? =cs[i * k+j]? :=by
  unfold mE;rw [List.getElem?_take,if_pos aB,List.getElem?_drop,Array.getElem?_toList]
 rw [List.getElem?_eq_getElem ak,Array.getElem?_eq_getElem h] at this;exact Option.some.inj this
theorem ab8 {n k p:Nat}[Inhabited (Fin n)]{W:World}{cs:Array Value}{t:TypeId}(bg:W.heap[p]? =some (.cells cs t (0,0)))(dK:n * k≤cs.size)(d:Array (Fin n))(hd:d.size=n)(Gq:∀ i (h:i<n),d[i]! =⟨i,h⟩):HoldsK (fun i:Fin n=>mE k cs i.1) k W p 0 d:=by
 intro j aB;have aB:j<d.size * k:=by simpa using aB
 have pO:j<n * k:=by rw [← hd];exact aB
 have hk:0<k:=Nat.pos_of_ne_zero fun e=>by rw [e] at pO;omega
 have hdiv:j / k<n:=Nat.div_lt_of_lt_mul (by rw [Nat.mul_comm];exact pO);have zj:=Nat.mod_lt j hk;have amE:j / k * k+j % k=j:=by rw [Nat.mul_comm];exact Nat.div_add_mod j k
 constructor
 ·rw [get_flatK _ _ _ _ aB,Gq _ hdiv];show W.cell? _=some ((mE k cs (j / k))[j % k]!);rw [TM zj (by omega)];unfold World.cell?;simp only [bg,Nat.zero_add,amE];simp
 unfold World.frozen?;simp [bg]
theorem RD {n k p m:Nat}[Inhabited (Fin n)]{W:World}{cs:Array Value}{t:TypeId}(hp:p<W.heap.size)(bg:W.heap[p]? =some (.cells cs t (0,0)))(enc:Fin n→List Value)(d:Array (Fin n))(os:Array Obj):
 (sortWorldK enc k W p 0 m d os).heap[p]? =some (.cells (putCells id 0 (flatK enc k d) cs) t (0,0))∧ (∀ q,q<W.heap.size→q≠p→ (sortWorldK enc k W p 0 m d os).heap[q]? =W.heap[q]?)∧W.heap.size≤ (sortWorldK enc k W p 0 m d os).heap.size:=by
 unfold sortWorldK grow putRowK putRow mapBlock
 refine⟨?_,fun q hq de=>?_,?_⟩
 ·rw [Array.getElem?_append_left (by simpa [Sort.ahead] using hp),Array.getElem?_modify]
  simp [Sort.ahead,bg,onCells]
 ·rw [Array.getElem?_append_left (by simpa [Sort.ahead] using hq),Array.getElem?_modify]
  simp [Sort.ahead,Ne.symm de]
 simp [Sort.ahead]
theorem Sk {n k p m:Nat}[Inhabited (Fin n)]{W:World}{cs:Array Value}{t:TypeId}(hp:p<W.heap.size)(bg:W.heap[p]? =some (.cells cs t (0,0)))(enc:Fin n→List Value)(d:Array (Fin n))(os:Array Obj):Fr [p] W (sortWorldK enc k W p 0 m d os):=by
 obtain⟨_,ab,ax⟩:=RD (k:=k) (m:=m) hp bg enc d os;exact⟨rfl,rfl,rfl,Nat.le_add_right _ _,ax,fun q hq de=>ab q hq (by simpa using de)⟩
theorem Ik {F cs:Array Value} :(putCells id 0 F cs).size=cs.size:=by unfold putCells;simp
theorem agb {n k i j:Nat}(ao:i<n)(aB:j<k):i * k+j<n * k:=by
 have:=Nat.mul_le_mul_right k (show i+1≤n from ao);rw [Nat.add_mul,Nat.one_mul] at this;omega
theorem ae3 {n k i:Nat}{cs:Array Value}(dK:n * k≤cs.size)(ao:i<n):(mE k cs i).length=k:=by
 have:=Nat.mul_le_mul_right k (show i+1≤n from ao);rw [Nat.add_mul,Nat.one_mul] at this;unfold mE;rw [List.length_take,List.length_drop,Array.length_toList];omega
theorem ab9 {n k i:Nat}[Inhabited (Fin n)]{cs:Array Value}{enc:Fin n→List Value}(hk:∀ x,(enc x).length=k){d:Array (Fin n)}(hd:d.size=n)(dK:n * k≤cs.size)(ao:i<n):mE k (putCells id 0 (flatK enc k d) cs) i=enc d[i]! :=by
 apply List.ext_getElem
 ·rw [ae3 (by rw [Ik];exact dK) ao,hk]
 intro j h1 ab;have aB:j<k:=by rw [hk] at ab;exact ab
 have cj:=agb ao aB;have qs:0<k:=by omega
 have aT:i * k+j<d.size * k:=by rw [hd];exact cj
 have ar:(i * k+j) / k=i:=by rw [Nat.mul_comm,Nat.mul_add_div qs,Nat.div_eq_of_lt aB];omega
 have aU:(i * k+j) % k=j:=by rw [Nat.mul_comm,Nat.mul_add_mod,Nat.mod_eq_of_lt aB]
 rw [← getElem!_pos _ j h1,TM aB (by rw [Ik];omega),← getElem!_pos (enc d[i]!) j ab];unfold putCells;rw [Array.getElem_mapIdx,if_pos ⟨Nat.zero_le _,by rw [size_flatK];omega⟩,Nat.sub_zero,get_flatK _ _ _ _ aT,ar,aU];rfl
theorem adL {m:Nat}{cs:Array Value}(h:m≤cs.size):(cs.toList.take m).length=m:=by rw [List.length_take,Array.length_toList];omega
theorem TN {α:Type}(a:Array α){n:Nat}(h:a.size=n):a.extract 0 n=a:=by subst h;simp
theorem SQ {n k i:Nat}{cs:Array Value}(ao:i<n):((cs.toList.take (n * k)).drop (i * k)).take k=mE k cs i:=by
 have:=Nat.mul_le_mul_right k (show i+1≤n from ao);rw [Nat.add_mul,Nat.one_mul] at this;rw [List.drop_take,List.take_take,show min k (n * k - i * k)=k by omega];rfl
set_option maxHeartbeats 1000000 in
open Go.Shelf in
theorem ain {T:Type}[ah T]{P:Program}{ρ:Ren}(L:SlLaysF0.n6 P ρ)(Qf:∀ w,(isAgg (ρ.t 24)).run P w= .ok true w)(Qg:∀ w,(Go.sizeOf (ρ.t 24)).run P w= .ok (ah.size T) w)(Pw:ah.agg T=true){t:TypeId}{xs:List T}{F:T→T→Option Int}{c:T→T→Int}(ad:xG c)
 (mm:∀ a∈xs,∀ b∈xs,F a b=some (c a b)) (hlen:xs.length<4611686018427387904) {key:Option Nat} {cap:Nat} :
 bJ P (ρ.f 6) [.eq (aJ key xs.length cap),.FQ P F] [⟨key,.row t xs cap⟩] (δ:= {ys:List T // ys.Perm xs∧ys.Pairwise (fun a b=>c a b≤0)}) (fun _=>.bP []) (fun d=>[⟨key,.row t d.1 cap⟩]):=by
 intro A W vs eM kk cj jo bb
 cases bb with
 | cons h1 bb=>cases bb with
   | cons ab bb=>cases bb with
     | nil=>
       rename_i v1 v2
       have h1:v1=aJ key xs.length cap:=h1
       obtain⟨f,z1,rfl,cn,y7⟩:=ab
       subst h1
       cases key with
       | none=>
         have oS:xs= []∧cap=0:=jo ⟨none,.row t xs cap⟩ (by simp)
         obtain⟨rfl,rfl⟩:=oS
         refine(AnyF.slices_SortFunc_none L none 0 (.func (.func f) #[] z1) W).mono ?_
         rintro e qy ⟨rfl,rfl⟩
         exact⟨_,⟨[],.refl _,.nil⟩,rfl,Fr.refl _ _,by simp [aP],by simp [aP],fun e he=>by simp at he;subst he;exact⟨rfl,rfl⟩,⟨_,rfl,.nil⟩⟩
       | some p=>
         obtain⟨o,bg,cs,rfl,dK,hle,Xg,V1⟩:∃ o,W.heap[p]? =some o∧ (eG.row t xs cap).holds (aP [⟨some p,.row t xs cap⟩]++A) W o:=jo ⟨some p,.row t xs cap⟩ (by simp)
         have hp:p<W.heap.size:=cj p (by simp [aP])
         have amF:∀ q∈p::A,q<W.heap.size:=fun q hq=>by
          rcases List.mem_cons.1 hq with rfl | hq
          ·exact hp
          exact(eM q hq).1
         have Ym:p ∉ A:=fun h=>(eM p h).2 (by simp [aP])
         by_cases bq:xs.length=0
         ·obtain rfl:xs= []:=List.length_eq_zero_iff.1 bq
          refine(AnyF.slices_SortFunc_none L (some ⟨p,0,none⟩) cap (.func (.func f) #[] z1) W).mono ?_
          rintro e qy ⟨rfl,rfl⟩
          refine⟨_,⟨[],.refl _,.nil⟩,rfl,Fr.refl _ _,by simp [aP],fun q hq=>?_,fun e he=>?_,⟨_,rfl,.nil⟩⟩
          ·simp [aP] at hq;subst hq
           exact⟨hp,fun _=>by simp [aP],Ym⟩
          simp at he;subst he
          exact⟨_,bg,cs,rfl,dK,hle,Xg,V1⟩
         have aH:0<xs.length:=by omega
         letI:Inhabited (Fin xs.length):=⟨⟨0,aH⟩⟩
         have Gr:xs.length * ah.size T≤cs.size:=by rw [dK];exact Nat.mul_le_mul_right _ hle
         have FF:∀ i (h:i<xs.length),ah.rep (p::A) W (mE (ah.size T) cs i) xs[i]:=fun i h=>by
          have:=V1.2 i h;rw [SQ h] at this;exact this
         have eC:(Array.ofFn fun i:Fin xs.length=>i).size=xs.length:=by simp
         have Gq:∀ i (h:i<xs.length),(Array.ofFn fun i:Fin xs.length=>i)[i]! =⟨i,h⟩:=fun i h=>by
          rw [getElem!_pos _ i (by simp;exact h)];simp
         generalize (Array.ofFn fun i:Fin xs.length=>i)=d at eC Gq
         have wb:=ab8 bg Gr d eC Gq
         have hO:SWO (ltOf fun x y:Fin xs.length=>c xs[x.1] xs[y.1]):=(ad.on fun i:Fin xs.length=>xs[i.1]).swo
         have iz:∀ m os sl,Ext (p::A) W (p::A) (sortWorldK (fun i:Fin xs.length=>mE (ah.size T) cs i.1) (ah.size T) W p 0 m sl os):=fun m os sl=>Ext.VN (Sk hp bg _ sl os) fun q hq=>by simp at hq;subst hq;exact List.mem_cons_self
         have Cg:∀ m os sl (i:Fin xs.length),(I.of xs[i.1]).holds (p::A) (sortWorldK (fun i:Fin xs.length=>mE (ah.size T) cs i.1) (ah.size T) W p 0 m sl os) (.agg (mE (ah.size T) cs i.1).toArray):=fun m os sl i=>
          ⟨by rw [Pw];exact⟨_,rfl⟩,ah.mono (iz m os sl) (FF i.1 i.2)⟩
         have akP:CmpLays P f z1 (fun i:Fin xs.length=>mE (ah.size T) cs i.1) (ah.size T) (fun x y:Fin xs.length=>c xs[x.1] xs[y.1]) p 0 d.size W:=fun m os sl asf x y=>
          (y7 (p::A) _ (iz m os sl) (fun q hq=>Nat.lt_of_lt_of_le (amF q hq) (iz m os sl).size) _ _ _ _ _ (mm _ (List.getElem_mem x.2) _ (List.getElem_mem y.2)) (Cg m os sl x) (Cg m os sl y)).mono fun e qy ⟨v,he,amG,bb⟩=>⟨by rw [he,of_int.1 bb],adK amG⟩
         have aq:∀ x:Fin xs.length,(mE (ah.size T) cs x.1).length=ah.size T:=fun x=>ah.len (FF x.1 x.2)
         have amH:∀ x:Fin xs.length,∀ v∈mE (ah.size T) cs x.1,v.oneCell'=true:=fun x=>ah.one (FF x.1 x.2)
         have hz:d.size<4611686018427387904:=by omega
         have h:=AnyQ.slices_SortFunc L (ah.size T) Qf Qg (fun i:Fin xs.length=>mE (ah.size T) cs i.1) aq amH (fun x y:Fin xs.length=>c xs[x.1] xs[y.1]) hO f z1 p 0 cap d W (fun args w=>cn.run args w) akP wb hp hz
         rw [eC] at h
         refine h.mono ?_
         rintro e qy ⟨rfl,ni,m,os,V2,aio,rfl⟩
         obtain⟨bQ,_,amI⟩:=RD (k:=ah.size T) (m:=m) hp bg (fun i:Fin xs.length=>mE (ah.size T) cs i.1) ni os
         have hd':ni.size=xs.length:=V2.1.trans eC
         have lz:(ni.toList.map fun i=>xs[i.1]).length=xs.length:=by simp [hd']
         have mF:(ni.toList.map fun i=>xs[i.1]).Perm xs:=by
          have ab:=V2.2.2;rw [TN ni hd',TN d eC] at ab;refine(ab.map _).trans (List.Perm.of_eq ?_);refine List.ext_getElem (by simp [eC]) fun i ax aO=>?_;have:=Gq i aO;rw [getElem!_pos _ i (by omega)] at this;simp [this]
         have qi:∀ i (h:i<xs.length),(ni.toList.map fun i=>xs[i.1])[i]'(by omega)=xs[(ni[i]!).1]:=fun i h=>by
          have e:ni[i]! =ni[i]'(by omega):=getElem!_pos _ i (by omega);simp [e]
         have Px:(ni.toList.map fun i=>xs[i.1]).Pairwise (fun a b=>c a b≤0):=by
          rw [List.pairwise_iff_getElem];intro i j ao aB fS;rw [lz] at ao aB;have:=aio i j (Nat.zero_le _) fS aB;unfold ltOf at this;rw [decide_eq_false_iff_not] at this;rw [qi i ao,qi j aB];have a7: ¬ 0<c xs[(ni[i]!).1] xs[(ni[j]!).1]:=fun bl=>this ((ad.neg _ _).2 bl);omega
         refine⟨_,⟨_,mF,Px⟩,rfl,Sk hp bg _ ni os,by simp [aP],fun q hq=>?_,fun e he=>?_,⟨_,rfl,.nil⟩⟩
         ·simp [aP] at hq;subst hq
          exact⟨Nat.lt_of_lt_of_le hp amI,fun _=>by simp [aP],Ym⟩
         simp at he;subst he
         refine⟨_,bQ,_,rfl,by rw [Ik];exact dK,by rw [lz];exact hle,Xg,?_,fun i ao=>?_⟩
         ·rw [lz];exact adL (by rw [Ik];exact Gr)
         rw [lz] at ao
         rw [lz,SQ ao,ab9 (fun x=>ah.len (FF x.1 x.2)) hd' Gr ao,qi i ao]
         exact ah.mono (iz m os ni) (FF _ (ni[i]!).2)
def ag.u4 {T:Type}(xs:List T)(F:T→T→Option Int):ag (List T):=fun Q=> ∃ c:T→T→Int,xG c∧xs.length<4611686018427387904∧ (∀ a∈xs,∀ b∈xs,F a b=some (c a b))∧ ∀ ys:List T,ys.Perm xs→ys.Pairwise (fun a b=>c a b≤0)→Q ys
open Go.Shelf in
theorem UY {T:Type}[ah T]{P:Program}{ρ:Ren}(L:SlLaysF0.n6 P ρ)(Qf:∀ w,(isAgg (ρ.t 24)).run P w= .ok true w)(Qg:∀ w,(Go.sizeOf (ρ.t 24)).run P w= .ok (ah.size T) w)(Pw:ah.agg T=true){t:TypeId}{xs:List T}{F:T→T→Option Int}{K:List T→Prop}(h:ag.u4 xs F K){key:Option Nat}{cap:Nat} :
 bJ P (ρ.f 6) [.eq (aJ key xs.length cap),.FQ P F] [⟨key,.row t xs cap⟩] (δ:= {r:List T // xs.length=r.length∧K r}) (fun _=>.bP []) (fun d=>[⟨key,.row t d.1 cap⟩]):=by
 obtain⟨c,ad,hlen,mm,hk⟩:=h
 intro A W vs h1 ab ax aO a7
 exact(ain L Qf Qg Pw ad mm hlen A W vs h1 ab ax aO a7).mono fun e qy ⟨v,d,h⟩=>⟨v,⟨d.1,d.2.1.length_eq.symm,hk _ d.2.1 d.2.2⟩,h⟩
end Gv
namespace Gv
open Go
theorem ag.al0 {α β ρ:Type}{mj:α→Prop}{m:α→ag β}{k:α→β→ag ρ}{R:ρ→Prop}(h:∀ y,mj y→ag.bind (m y) (k y) R):∃ K:α×β→Prop,(∀ y,mj y→m y fun z=>K (y,z))∧ ∀ y,K y→k y.1 y.2 R:=
 ⟨fun y=>k y.1 y.2 R,h,fun _ h=>h⟩
theorem ag.hd {α ρ:Type}{m:ag α}{k:α→ag ρ}{R:ρ→Prop}(h:ag.bind m k R):m (fun a=>k a R):=h
structure jw (α:Type) where
 p:Option α
 deriving DecidableEq,Inhabited
instance aok {α:Type} [ah α]:ah (jw α) where
 size:=1
 agg:=false
 rep A W cs x:=match x.p with
  | none=>cs= [.pointer none]
  | some y=> ∃ v,cs= [v]∧ (I.ptr y).holds A W v
 len {A W cs x} h:=by
  rcases x with⟨_ | y⟩
  ·have h:cs=_:=h;rw [h];rfl
  obtain⟨v,h,_⟩:=h;rw [h];rfl
 one {A W cs x} h:=by
  intro u hu;rcases x with⟨_ | y⟩
  ·have h:cs=_:=h;rw [h] at hu;rw [List.mem_singleton.1 hu];rfl
  obtain⟨v,h,b,off,cur,T,hU,rfl,_⟩:=h;rw [h] at hu;rw [List.mem_singleton.1 hu];rfl
 flat _:=rfl
 mono {A W cM W' cs x} e h:=by
  rcases x with⟨_ | y⟩
  ·exact h
  obtain⟨v,h,ab⟩:=h;exact⟨v,h,I.mono _ e ab⟩
instance {α:Type} [ah α]:a6 (jw α):=⟨[.pointer none],fun _ _=>rfl⟩
theorem aeF {c:cF}{E:List (Nat×I)}{L:List aF}{x:Operand}{α:Type}[ah α]{y:jw α}{z:α}(al:aN c E L x (.of y))(h:y.p=some z):aN c E L x (.ptr z):=fun a W s=>by
 obtain⟨y⟩:=y;have h:y=some z:=h;subst h;obtain⟨h1,v,ab,ax⟩:=al a W s;rw [nV h1 ab];exact ax
theorem Lz {c:cF}{E:List (Nat×I)}{L:List aF}{x:Operand}{α:Type}[ah α]{z:α}(al:aN c E L x (.ptr z)):aN c E L x (.of (⟨some z⟩:jw α)):=fun a W s=>by
 have h:=al a W s;obtain⟨b,off,cur,T,hU,bb,ab⟩:=h;have h:(I.ptr z).holds (aP L++c.bZ) W (a.eval x):=⟨b,off,cur,T,hU,bb,ab⟩;have h1:(a.eval x).oneCell'=true:=by rw [bb];rfl
 refine⟨h1,a.eval x,?_,h⟩;rw [cells_one h1]
theorem aen {c:cF}{E:List (Nat×I)}{L:List aF}{d:Option Tmp}{ty:TypeId}{pos:String}{af:Array Edge}{g:Option (Nat×Bool)}{x:Operand}{t t2:TypeId}{p:Addr}{e:TypeId}(hu:c.P.underlying t=some (.pointer e))(al:aN c E L x (.eq (.pointer (some p)))):bc c E L ⟨d,.binOp .neq t x (.const (.pointer none)) t2,ty,pos,af,g⟩ (.of true):= .pure fun a W s=>by
 have aH:a.eval (.const (.pointer none))= .pointer none:=rfl;have h1:a.eval x= .pointer (some p):=al a W s;refine⟨.bool true,?_,of_bool.2 rfl⟩;simp only [execOp,eqGuard,binOp,h1,aH,Op.equal,Op.maxDepth];simp [Lp hu p W 9999]
structure wS (P:Program)(τ:I)(τs:List I)(Lin:List aF){δ:Type}(ρ:δ→I)(Lo:δ→List aF):Prop where
 go:∀ (A:List Nat) (W:World) (u:Value) (vs:List Value),(∀ k∈A,k<W.heap.size∧k ∉ aP Lin)→ (aP Lin).Nodup→ (∀ k∈aP Lin,k<W.heap.size)→ (∀ e∈Lin,e.ok (aP Lin++A) W)→ho (aP Lin++A) W (τ::τs) (u::vs)→
  ∃ (f:FuncId) (fi:List Value),u= .func (.func f) #[] fi.toArray∧bM P f∧Calls P f (vs++fi).toArray W (kZ (aP Lin) A W ρ Lo)
theorem wS.of {P:Program}{f:FuncId}{τ:I}{sW τs:List I}{Lin:List aF}{δ:Type}{ρ:δ→I}{Lo:δ→List aF}(cn:bM P f)(Gl:∀ A W u,τ.holds A W u→ (I.lv f sW).holds A W u)
 (h:bJ P f (τs++sW) Lin ρ Lo):wS P τ τs Lin ρ Lo where
 go A W u vs h1 ab ax aO a7:=by
  cases a7 with
  | cons bl cN=>
    obtain⟨fi,rfl,cW⟩:=Gl _ _ _ bl
    exact⟨f,fi,rfl,cn,h A W (vs++fi) h1 ab ax aO (cN.append cW)⟩
section
variable {c:cF} {E:List (Nat×I)} {L:List aF} {ops:Array Oper} {Q:Exit→Act→World→Prop}
variable {d:Option Tmp} {ty:TypeId} {pos:String} {af:Array Edge} {g:Option (Nat×Bool)} {x y z:Operand} {t t2:TypeId}
theorem MX {o:Oper}{σ τ:I}(h:bc c E L o σ)(e:∀ A W v,σ.holds A W v→τ.holds A W v):bc c E L o τ:=fun a W s=>by
 have:=h a W s;unfold hy at this ⊢;exact Oper.wp_mono (fun gv W' ⟨v,h1,ab,ax⟩=>⟨v,h1,ab,e _ _ _ ax⟩) this
theorem ae4 {a:Act}{W:World}{xs:List Operand}{ats:Array TypeId}{τ:I}{τs:List I}{Lin Lr:List aF}{δ:Type}{ρ:δ→I}{Lo:δ→List aF}(h:wS c.P τ τs Lin ρ Lo)
 (s:bI c E (Lin++Lr) a W) (al:ho (aP (Lin++Lr)++c.bZ) W (τ::τs) ((x::xs).map a.eval)):
 hy c.P ⟨d,.call ⟨.value x,xs.toArray,ats⟩,ty,pos,af,g⟩ a W fun v W'=> ∃ ba,bI c E (Lo ba++Lr) a W'∧ (ρ ba).holds (aP (Lo ba++Lr)++c.bZ) W' v:=by
 have mz:=s.nodup
 rw [ff] at mz
 obtain⟨om,qp,q9⟩:=List.nodup_append.1 mz
 have lr:Ext (aP (Lin++Lr)++c.bZ) W (aP Lin++(aP Lr++c.bZ)) W:=Bw
 have eM:∀ k∈aP Lr++c.bZ,k<W.heap.size∧k ∉ aP Lin:=fun k hm=>by
  rcases List.mem_append.1 hm with hm | hm
  ·exact⟨s.lt k (by rw [ff];exact List.mem_append.2 (.inr hm)),fun h=>q9 k h k hm rfl⟩
  obtain⟨h1,ab⟩:=s.e6 k hm;exact⟨h1,fun h=>ab (by rw [ff];exact List.mem_append.2 (.inl h))⟩
 have cj:∀ k∈aP Lin,k<W.heap.size:=fun k hm=>s.lt k (by rw [ff];exact List.mem_append.2 (.inl hm))
 obtain⟨f,fi,hu,cn,ad⟩:=h.go (aP Lr++c.bZ) W (a.eval x) (xs.map a.eval) eM om cj (fun e he=>aF.uS (s.own e (List.mem_append.2 (.inl he))) lr fun _ _=>rfl) (by simpa using al.mono lr)
 refine .wL (f:=f) (args:=(xs.map a.eval++fi).toArray) (W':=W) ?_ (ad.mono fun e W' ⟨v,ba,he,aT,h1,ab,ax,aO⟩=>?_)
 ·simp [execOp,resolve,Deferred.ofValue,hu,invoke,cn.run]
 refine⟨v,he,ba,s.after aT h1 ab ax,(ρ ba).mono Ij aO⟩
variable {bC:Type} [dU bC] {hp:aG bC}
theorem J.al8 {rest:List Oper}{ba:Nat}{xs:List Operand}{ats:Array TypeId}{τ:I}{τs:List I}{Lin Lr:List aF}{δ:Type}{ρ:δ→I}{Lo:δ→List aF}{hq:δ→aG bC}(n m:Nat)(aq:L.drop n=aI hp)(h:wS c.P τ τs (Lin++aI hp) ρ (fun d=>Lo d++aI (hq d)))
 (h1:(L.take n).take m=Lin) (ab:(L.take n).drop m=Lr) (al:iJ c E L (x::xs) (τ::τs)) (aH:Nat.blt ba c.n=true) (k:∀ q,J c ops Q rest ((ba,ρ q)::E) ((Lo q++Lr)++aI (hq q))):
 J c ops Q (⟨some ba,.call ⟨.value x,xs.toArray,ats⟩,ty,pos,af,none⟩::rest) E L:=by
 have e:L=(Lin++Lr)++aI hp:=by rw [← h1,← ab,List.take_append_drop,← aq,List.take_append_drop]
 clear aq h1 ab
 subst e
 exact fun a W s=>iP rfl (ae4 (Lr:=Lr) h (s.perm nn) ((al.holds a W s).mono (oD nn))) fun v W' ⟨q,cf,bb⟩=>
  k q _ _ ((cf.perm nn).put (by simpa using aH) ((ρ q).mono (oD nn) bb))
theorem n9 {p n:Nat}{k:bC}{e:aF}{es:List aF}(aq:L.drop n=aI hp)(h:pat hp p=some k)(hk:dU.gp p k=e::es):e∈L:=by
 obtain⟨R,h1,_⟩:=uF h;rw [hk] at h1;have:e∈L.drop n:=by rw [aq];exact h1.mem_iff.2 (by simp)
 exact List.mem_of_mem_drop this
theorem nW {x:Operand}{t:TypeId}{p o:Nat}{β γ:Type}[ah β][ah γ]{b:β}{os:List (Nat×Value)}(l:aK β γ){r:γ}(dP:bO c.P t γ)(al:aN c E L x (.eq (.pointer (some ⟨p,o,none⟩))))
 (hm:(⟨some p,.ch b os⟩:aF)∈L) (bg:o=l.off) (aA:l.get b=r) (aW:tK os l.off (ah.size γ)=true):bc c E L ⟨d,.load t x,ty,pos,af,g⟩ (.of r):=by
 obtain⟨i,ao⟩:=List.mem_iff_getElem?.1 hm
 exact Iu (i:=i) l dP al ao bg aA aW
theorem SG {bC:Type}{hp:aG bC}{p:Nat}{k:bC}(h:pat hp p=some k):ct hp p k=hp:=by
 induction hp with
 | nil=>rfl
 | cons z r b2=>
   obtain⟨q,an1⟩:=z
   simp only [pat] at h
   simp only [ct]
   split
   ·rename_i e
    rw [if_pos e] at h
    rw [Option.some.inj h]
   rename_i e
   rw [if_neg e] at h
   rw [b2 h]
theorem J.MZ {l:List Oper}{p:Nat}{k:bC}{X:List aF}(n:Nat)(aq:L.drop n=aI hp)(hp':pat hp p=some k)(hk:dU.gp p k=X)
 (kG:∀ R,(∀ k',(aI (ct hp p k')).Perm (dU.gp p k'++R))→J c ops Q l E (X++(L.take n++R))):J c ops Q l E L:=by
 obtain⟨R,bo,bN⟩:=uF hp'
 refine J.perm ?_ (kG R bN)
 conv=>rhs;rw [← List.take_append_drop n L,aq]
 rw [hk] at bo
 refine List.Perm.trans ?_ (bo.symm.append_left (L.take n))
 rw [← List.append_assoc,← List.append_assoc]
 exact List.perm_append_comm.append_right _
theorem J.NT {l:List Oper}{p:Nat}{R M:List aF}(k':bC)(m n:Nat)(gQ:∀ k',(aI (ct hp p k')).Perm (dU.gp p k'++R))(aq:L.drop n=R)(h1:(L.take n).take m=dU.gp p k')(ab:(L.take n).drop m=M)
 (kG:J c ops Q l E (M++aI (ct hp p k'))):J c ops Q l E L:=by
 have e:L=(dU.gp p k'++M)++R:=by rw [← h1,← ab,List.take_append_drop,← aq,List.take_append_drop]
 refine J.perm ?_ kG
 rw [e]
 refine((gQ k').append_left M).trans ?_
 rw [← List.append_assoc]
 exact List.perm_append_comm.append_right _
end
section
variable {P:Program} {b:Frame} {a:Act} {k:List Item} {cs:List Frame} {w:World} {Q:Exit→Act→World→Prop} {F:Fence} {n:Nat}
def Py (Q:Exit→Act→World→Prop):Exit→Act→World→Prop
 | .goto _,_,_=>False
 | e,a,w=>Q e a w
theorem Bl {c:Code} :step P (lone (b.atR a (.code (.scope c)::k)) cs w)= .next (lone (b.atR a (.code c::.inScope c::k)) cs w):=
 step_lone_go (by simp [stepG,stepG.exec,Frame.atR])
theorem abm {c:Code} :step P (lone (b.atR a (.inScope c::k)) cs w)= .next (lone (b.atR a k) cs w):=
 step_lone_go (by simp [stepG,stepG.exec,Frame.atR])
theorem aca {c:Code}(h:c.wpIn F n P (Py Q) a w):(Code.scope c).wpIn F n P Q a w:=by
 intro b k cs kB hb aA;have bq:(lone (b.atR a (.code (.scope c)::k)) cs w).fenced P F:=fenced_calm hb aA rfl;obtain⟨e,r3,zk,hq,oe⟩:=h b (.inScope c::k) cs kB hb aA;cases e with
 | normal=>exact⟨.normal,r3,zk,hq,.head bq Bl (StepsIn.trans oe (.one (fenced_calm hb aA rfl) abm))⟩
 | exit id=>
   have al:exitTo id (.inScope c::k)=exitTo id k:=by simp [exitTo]
   exact⟨.exit id,r3,zk,hq,fun k' hk=>.head bq Bl (oe.1 k' (by rw [al];exact hk)),
    fun jV hk=>let⟨k₁,h1,ab⟩:=oe.2 jV (by rw [al];exact hk); ⟨k₁,h1,.head bq Bl ab⟩⟩
 | goto l=>exact hq.elim
 | ret=>exact⟨_,r3,zk,hq,.of_steps (.one bq Bl) oe⟩
 | panic lI=>exact⟨_,r3,zk,hq,.of_steps (.one bq Bl) oe⟩
 | outgrown=>exact⟨_,r3,zk,hq,.of_steps (.one bq Bl) oe⟩
end
section
variable {c:cF} {E:List (Nat×I)} {L:List aF} {Q:Exit→Act→World→Prop}
theorem aw.scope {x:Code}(h:aw c (Py Q) x E L):aw c Q (.scope x) E L:=fun a W s=>aca (h a W s)
theorem aw.label {l:Nat}(h:aj c Q .normal E L):aw c Q (.label l) E L:=fun a W s=>wpIn_label (h a W s)
theorem aj.WA (h:aj c Q .ret E L):aj c (Py Q) .ret E L:=h
end
section
variable {c:cF} {E:List (Nat×I)} {L:List aF}
theorem bc.alZ {o:Oper}{ρ τ:I}{p:Prop}(gw:Nat)(ak:look E gw=some (.cond p τ))(hb:p)(h:bc c ((gw,τ)::E) L o ρ):bc c E L o ρ:=fun a W s=>by
 refine h a W (s.less fun t σ ab=>?_);simp only [look] at ab;by_cases e:Nat.beq gw t=true
 ·rw [e] at ab;simp only [cond_true,Option.some.injEq] at ab;have:=eS.1 e;subst this;subst ab;exact⟨_,ak,fun A W v bb=>bb.1 hb⟩
 simp only [Bool.not_eq_true] at e;rw [e] at ab;simp only [cond_false] at ab;exact⟨σ,ab,fun _ _ _ h=>h⟩
end
abbrev I.bE (p:Nat):I:= .eq (.pointer (some ⟨p,0,none⟩))
abbrev aS {α:Type}[ah α](p:Nat)(x:α):aF:=⟨some p,.var x⟩
inductive nO:Nat→List aF→List aF→Prop
 | nil {L:List aF} :nO 0 L []
 | cons {n:Nat} {e:aF} {r s:List aF} :nO n r s→nO (n+1) (e::r) (e::s)
inductive nP:List aF→List aF→Prop
 | nil:nP [] []
 | gp {bC:Type} [dU bC] {hp:aG bC} :nP (aI hp) (aI hp)
 | CP {l:List aF} :nP l l
 | cons {e e':aF} {r s:List aF} :e=e'→nP r s→nP (e::r) (e'::s)
theorem nP.eq:∀ {l m:List aF},nP l m→l=m
 | _,_,.nil=>rfl
 | _,_,@nP.gp _ _ _=>rfl
 | _,_,.CP=>rfl
 | _,_,.cons h1 h=>by rw [h.eq,h1]
section
variable {c:cF} {E:List (Nat×I)} {L:List aF} {ops:Array Oper} {Q:Exit→Act→World→Prop} {x:Operand}
theorem J.db {l:List Oper}{L2:List aF}(k:J c ops Q l E L2)(h:nP L L2:=by repeat (first | exact nP.gp | exact nP.nil | (apply nP.cons; (first | (dsimp only;exact rfl) | exact rfl)) | exact nP.CP)):J c ops Q l E L:= .dN h.eq k
theorem aj.db {z:Exit}{L2:List aF}(k:aj c Q z E L2)(h:nP L L2:=by repeat (first | exact nP.gp | exact nP.nil | (apply nP.cons; (first | (dsimp only;exact rfl) | exact rfl)) | exact nP.CP)):aj c Q z E L:= .dN h.eq k
theorem aQ.bL {γ:Type}{Qh:List (Nat×I)}{Qi:List aF}{f:Nat}{bs:Array Bool}(dk:List Nat)(d m CN:Nat)(sw:Array Bool)(u:γ→List (Nat×I))(xs ys:γ→List aF)(h1:∀ g,aQ c ops Q CN sw (u g++Qh) (xs g++(Qi++ys g)))
 (ab:(∀ g,aQ c ops Q CN sw (u g++Qh) (xs g++(Qi++ys g)))→aQ c ops Q f bs E L) (aE:jZ E dk Qh:=by repeat (first | exact jZ.nil | (apply jZ.cons;rfl))) (aq:nO m (L.drop d) Qi:=by repeat (first | exact nO.nil | apply nO.cons)):aQ c ops Q f bs E L:=ab h1
theorem aQ.s1 {f:Nat}{bs:Array Bool}{o:Oper}(i:Nat)(h:J c ops (qD (wpAnyIn c.F 9 c.P .any ops Q f (bs.setIfInBounds i true)) Q) [o] E L)(bg:ops[i]? =some o:=by rfl)(aA:Region.ready .any ops bs= [i]:=by kernel_rfl):aQ c ops Q (f+1) bs E L:= .step [i] aA rfl ⟨⟨o,bg,h⟩,trivial⟩
theorem aQ.s2 {f:Nat}{bs:Array Bool}{o cu:Oper}(i j:Nat)(h:J c ops (qD (wpAnyIn c.F 9 c.P .any ops Q f (bs.setIfInBounds i true)) Q) [o] E L)(ab:J c ops (qD (wpAnyIn c.F 9 c.P .any ops Q f (bs.setIfInBounds j true)) Q) [cu] E L)
 (bg:ops[i]? =some o:=by rfl) (e5:ops[j]? =some cu:=by rfl) (aA:Region.ready .any ops bs= [i,j]:=by kernel_rfl):aQ c ops Q (f+1) bs E L:= .step [i,j] aA rfl ⟨⟨o,bg,h⟩,⟨cu,e5,ab⟩,trivial⟩
theorem J.a1 {f:Nat}{bs sw:Array Bool}{E':List (Nat×I)}(k:aQ c ops Q f sw E' L)(h:fH E E':=by repeat (first | exact fH.nil | refine fH.same rfl ?_))(ak:bs=sw:=by kernel_rfl):J c ops (qD (wpAnyIn c.F 9 c.P .any ops Q f bs) Q) [] E L:= .nil (.a1 k h ak)
theorem xp {α:Type}{b:Bool}{m n:ag α}{R:α→Prop}{y z:Code}(h:cond b m n R)(bw:m R→aw c Q y E L)(aT:n R→aw c Q z E L)(ak:aN c E L x (.of b):=by first | exact ae rfl | exact hn _):aw c Q (.cond x y z) E L:=
 .cond ak (fun hb=>bw (TI hb h)) (fun hb=>aT (TJ hb h))
end
def hA (up rd wr:List Nat)(e:(Nat→Hid)→aF):dz:=⟨none,up,rd,wr,fun _=>.any,fun hd _=>e hd⟩
section
variable {c:cF} {E:List (Nat×I)} {L:List aF} {ops:Array Oper} {Q:Exit→Act→World→Prop} {hs:List dz} {i:Nat} {up rd:List Nat} {o:Oper} {ba:Nat}
theorem hV {τ:I}(h:∀ {hd:Nat→Hid} {E':List (Nat×I)} {L':List aF},(∀ t τ,look (kb hd hs E up) t=some τ→look E' t=some τ)→ (∀ j e,(gI (fun _=>true) hd 0 (hs.take i) L)[j]? =some e→rd.contains j=true→L'[j]? =some e)→bc c E' L' o τ)
 (bA:o.guard=none:=by rfl) (hd:o.dst=some ba:=by rfl) (aH:Nat.blt ba c.n=true:=by rfl):ei c ops Q hs E L i o (ay ba up rd τ):=o2 (fun _ _ _ a b=>h a b) bA hd aH
theorem gu {τ:I}{hyp:List aF→Prop}(h:∀ {L'},hyp L'→bc c E L' o τ)(bA:o.guard=none:=by rfl):∀ L',hyp L'→h4 c ops E L' o τ:=fun L' aq=>.v (h aq) bA
end
def pP:List (Option Nat)→List (List Nat)→List I→List dz
 | s::eN,d::ds,τ::dk=>⟨s,d,[],[],fun _=>τ,fun _ _=>⟨none,.dead⟩⟩::pP eN ds dk
 | _,_,_=>[]
def Ch:List (Option Nat)→List (List Nat)→List (Option Nat×List Nat×List Nat×List Nat)
 | s::eN,d::ds=>(s,d,[],[])::Ch eN ds
 | _,_=>[]
def vq (E:List (Nat×I)):List (Option Nat)→List (List Nat)→List I→List (Nat×I)
 | s::eN,_::ds,τ::dk=>qZ s τ (vq E eN ds dk)
 | _,_,_=>E
def CC:List Oper→List (Option Nat)→Nat→Bool
 | [],[],_=>true
 | o::os,some s::eN,n=>(match o.dst with | some t=>Nat.beq t s | none=>false)&&Nat.blt s n&&CC os eN n
 | _,_,_=>false
section
variable {c:cF} {E:List (Nat×I)} {L:List aF} {ops:Array Oper} {Q:Exit→Act→World→Prop}
def wX (c:cF)(ops:Array Oper)(E:List (Nat×I))(L:List aF)(hs:List dz):List Oper→List (Option Nat)→List (List Nat)→List I→Prop
 | o::os,_::eN,d::ds,τ::dk=>(∀ L':List aF,(∀ (j:Nat) (e:aF),L[j]? =some e→tS (fun _=>false) j 0 []=true→L'[j]? =some e)→h4 c ops (kb (fun _ _=>none) hs E d) L' o τ)∧wX c ops E L hs os eN ds dk
 | _,[],[],[]=>True
 | _,_,_,_=>False
theorem Iy {h:dz} :∀ {eN:List (Option Nat)} {ds:List (List Nat)} {dk:List I},h∈pP eN ds dk→h.wr= []∧ ∀ g dT,h.τ g=h.τ dT
 | _::eN,_::ds,_::dk,hm=>by
   rcases List.mem_cons.1 hm with rfl | hm
   ·exact⟨rfl,fun _ _=>rfl⟩
   exact Iy hm
theorem IX {hd:Nat→Hid}{hs:List dz}(ad:∀ h∈hs,∀ g dT,h.τ g=h.τ dT):∀ {d:List Nat},kb hd hs E d=kb (fun _ _=>none) hs E d
 | []=>rfl
 | j::r=>by
   unfold kb;cases aB:hs[j]? with
   | none=>exact IX ad
   | some h=>
     cases hq:h.slot with
     | none=>simp only [hq];exact IX ad
     | some s=>simp only [hq];rw [ad h (List.mem_of_getElem? aB) _ (hG h.up j (fun _ _=>none)),IX ad]
theorem V3 {hd:Nat→Hid} :∀ {hs:List dz} {k:Nat} {L:List aF},(∀ h∈hs,h.wr= [])→gI (fun _=>true) hd k hs L=L
 | [],_,_,_=>rfl
 | h::r,k,L,hw=>by
   unfold gI;rw [hw h List.mem_cons_self];exact V3 fun x al=>hw x (List.mem_cons_of_mem _ al)
theorem Mk {hd:Nat→Hid} :∀ {eN:List (Option Nat)} {ds:List (List Nat)} {dk:List I} {k:Nat},h9 (fun _=>true) hd E k (pP eN ds dk)=vq E eN ds dk
 | some s::eN,d::ds,τ::dk,k=>by unfold pP vq h9;simp only [qZ];rw [Mk]
 | none::eN,d::ds,τ::dk,k=>by unfold pP vq h9;simp only [qZ];rw [Mk]
 | [],_,_,_=>by unfold pP vq h9;rfl
 | _::_,[],_,_=>by unfold pP vq h9;rfl
 | _::_,_::_,[],_=>by unfold pP vq h9;rfl
theorem J.bg {o:Oper}{rest:List Oper}{d:Nat}{τ:I}{E':List (Nat×I)}(h:h4 c ops E' L o τ)(aE:∀ t τ,look E' t=some τ→look E t=some τ)(hd:o.dst=some d)(aH:Nat.blt d c.n=true)(k:J c ops Q rest ((d,τ)::E) L):J c ops Q (o::rest) E L:=fun a W s=>by
 obtain⟨h1,ab⟩:=h a W (s.less fun t τ ak=>⟨τ,aE t τ ak,fun _ _ _ h=>h⟩);unfold cF.s3 wpListIn;by_cases hw:Region.wanted o (yielded ops a.tmps)=true
 ·rw [if_pos hw];refine((h1 hw).wpIn fun v W' ⟨f,bb⟩=>?_);rw [hd];exact k _ _ ((s.world f).put (by simpa using aH) bb)
 rw [if_neg hw,hd];exact⟨fun _ _=>trivial,k _ _ (s.put (by simpa using aH) (ab (by simpa using hw)))⟩
theorem wX.F9 {hs:List dz}(ad:∀ h∈hs,∀ g dT,h.τ g=h.τ dT):∀ {os:List Oper} {eN:List (Option Nat)} {ds:List (List Nat)} {dk:List I} {k n:Nat},wX c ops E L hs os eN ds dk→CC (os.take n) eN c.n=true→pg c ops Q hs E L 0 k (os.take n) (pP eN ds dk)
 | os,[],ds,dk,k,n,_,hb=>by
   cases h:os.take n with
   | nil=>cases ds <;> cases dk <;> trivial
   | cons o r=>rw [h] at hb;cases hb
 | [],s::eN,ds,dk,k,n,_,hb=>by rw [List.take_nil] at hb;cases hb
 | o::os,s::eN,ds,dk,k,0,_,hb=>by cases hb
 | o::os,s::eN,[],dk,k,n+1,h,_=>h.elim
 | o::os,s::eN,d::ds,[],k,n+1,h,_=>h.elim
 | o::os,none::eN,d::ds,τ::dk,k,n+1,h,hb=>by simp [CC] at hb
 | o::os,some s::eN,d::ds,τ::dk,k,n+1,h,hb=>by
   simp only [List.take_succ_cons,CC,Bool.and_eq_true] at hb;refine⟨fun Ga E' L' aE _ b3=>?_,wX.F9 ad h.2 hb.2⟩;have e:L'=L:=b3;subst e;have eC:o.dst=some s:=by
    have:=hb.1.1;cases hd:o.dst with
    | none=>rw [hd] at this;cases this
    | some t=>rw [hd] at this;rw [eS.1 this]
   exact J.bg (h.1 _ fun j e he _=>he) (fun t τ ak=>aE t τ (by rw [IX ad];exact ak)) eC hb.1.2 (J.nil (aj.fin (fun _=>none) rfl rfl))
theorem aw.ml {ka:Nat}{l:List Oper}{es:List Nat}(hm:c.P.follows .mixedOrders=true)(n:Nat)(oa:List (Option Nat))(vr:List (List Nat))(dk:List I)(bQ:wX c l.toArray E L (pP oa vr dk) l oa vr dk)(bw:J c l.toArray Q (l.drop n) (vq E oa vr dk) L)
 (eC:lB (pP oa vr dk)=Ch oa vr:=by rfl) (kR:E.map (·.1)=es:=by rfl) (fo:Gv.qc l.toArray n (Ch oa vr) es=true:=by kernel_rfl) (hs:CC (l.take n) oa c.n=true:=by rfl):aw c Q (.region ka l.toArray true) E L:=
 have ad:∀ h∈pP oa vr dk,∀ g dT,h.τ g=h.τ dT:=fun h hm=>(Iy hm).2
 aw.IV n (np:=0) hm (pP oa vr dk) (Ch oa vr) es eC kR fo (fun h hm j aB=>by rw [(Iy hm).1] at aB;cases aB) (wX.F9 ad bQ hs) (fun hd=>by rw [Mk,V3 fun h hm=>(Iy hm).1];exact bw)
end
section
variable {c:cF} {E fa:List (Nat×I)} {L eE:List aF} {Q:Exit→Act→World→Prop} {x:Operand}
theorem q3 {γ:Type}{b:Bool}{y z:Code}(n:Nat)(dk:List Nat)(u:γ→List (Nat×I))(ul:γ→List (Nat×aF))(nj:γ→List aF)(si:∀ g,aj c Q .normal (u g++fa) (iA eE (ul g)++nj g))
 (bw:(∀ g,aj c (dE Q) .normal (u g++fa) (iA eE (ul g)++nj g))→b=true→aw c (dE Q) y E L) (aT:(∀ g,aj c (dE Q) .normal (u g++fa) (iA eE (ul g)++nj g))→b=false→aw c (dE Q) z E L)
 (zI:nO n L eE:=by repeat (first | exact nO.nil | apply nO.cons)) (Gc:jZ E dk fa:=by repeat (first | exact jZ.nil | (apply jZ.cons;rfl))) (ak:aN c E L x (.of b):=by first | exact ae rfl | exact hn _):aw c Q (.cond x y z) E L:=
 aw.cb (fun g=>u g++fa) (fun g=>iA eE (ul g)++nj g) ak si bw aT
theorem xm {β γ ρ:Type}{kU:ρ→Prop}{b:Bool}{y z:Code}{bo bN:ag β}{k:β→ag ρ}(h:ag.bind (bif b then bo else bN) k kU)(n:Nat)(dk:List Nat)(u:β→γ→List (Nat×I))(ul:β→γ→List (Nat×aF))(nj:β→γ→List aF)
 (si:∀ m g,k m kU→aj c Q .normal (u m g++fa) (iA eE (ul m g)++nj m g))
 (bw:(∀ m g,k m kU→aj c (dE Q) .normal (u m g++fa) (iA eE (ul m g)++nj m g))→b=true→bo (fun m=>k m kU)→aw c (dE Q) y E L) (aT:(∀ m g,k m kU→aj c (dE Q) .normal (u m g++fa) (iA eE (ul m g)++nj m g))→b=false→bN (fun m=>k m kU)→aw c (dE Q) z E L)
 (zI:nO n L eE:=by repeat (first | exact nO.nil | apply nO.cons)) (Gc:jZ E dk fa:=by repeat (first | exact jZ.nil | (apply jZ.cons;rfl))) (ak:aN c E L x (.of b):=by first | exact ae rfl | exact hn _):aw c Q (.cond x y z) E L:=
 aw.af7 h (fun m g=>u m g++fa) (fun m g=>iA eE (ul m g)++nj m g) ak si bw aT
theorem uc {σ ε γ δ:Type}{body:Code}{N:Nat}{b:σ→Option (σ ⊕ ε)}{cg:σ}{e:ε}(ak:dx N b cg=some e)(n:Nat)(dk:List Nat)(u:σ→γ→List (Nat×I))(ul:σ→γ→List (Nat×aF))(nj:σ→γ→List aF)(xs:ε→Exit)
 (tk:ε→δ→List (Nat×I)) (s8:ε→δ→List (Nat×aF)) (zO:ε→δ→List aF) (g0:γ)
 (sK:∀ s r,b s=some r→ ∀ g,aw c (ep c (fun s g=>u s g++fa) (fun s g=>iA eE (ul s g)++nj s g) xs (fun e d=>tk e d++fa) (fun e d=>iA eE (s8 e d)++zO e d) r) body (u s g++fa) (iA eE (ul s g)++nj s g))
 (pk:∀ g,aj c Q (xs e) (tk e g++fa) (iA eE (s8 e g)++zO e g))
 (zI:nO n L eE:=by repeat (first | exact nO.nil | apply nO.cons)) (Gc:jZ E dk fa:=by repeat (first | exact jZ.nil | (apply jZ.cons;rfl))) (aE:fH E (u cg g0++fa):=by repeat (first | exact fH.nil | refine fH.same rfl ?_)) (aq:L=iA eE (ul cg g0)++nj cg g0:=by rfl):aw c Q (.loop body) E L:=
 aw.Nu ak (fun s g=>u s g++fa) (fun s g=>iA eE (ul s g)++nj s g) xs (fun e d=>tk e d++fa) (fun e d=>iA eE (s8 e d)++zO e d) g0 aq aE sK pk
theorem zw {σ ε γ δ ρ:Type}{body:Code}{N:Nat}{b:σ→ag (σ ⊕ ε)}{cg:σ}{k:ε→ag ρ}{kU:ρ→Prop}(ak:ag.bind (Gv.nx N b cg) k kU)(n:Nat)(dk:List Nat)(u:σ→γ→List (Nat×I))(ul:σ→γ→List (Nat×aF))(nj:σ→γ→List aF)(xs:ε→Exit)
 (tk:ε→δ→List (Nat×I)) (s8:ε→δ→List (Nat×aF)) (zO:ε→δ→List aF) (g0:γ)
 (sK:∀ s R,b s R→ ∀ g,aw c (eB c (fun s g=>u s g++fa) (fun s g=>iA eE (ul s g)++nj s g) xs (fun e d=>tk e d++fa) (fun e d=>iA eE (s8 e d)++zO e d) R) body (u s g++fa) (iA eE (ul s g)++nj s g))
 (pk:∀ e,k e kU→ ∀ g,aj c Q (xs e) (tk e g++fa) (iA eE (s8 e g)++zO e g))
 (zI:nO n L eE:=by repeat (first | exact nO.nil | apply nO.cons)) (Gc:jZ E dk fa:=by repeat (first | exact jZ.nil | (apply jZ.cons;rfl))) (aE:fH E (u cg g0++fa):=by repeat (first | exact fH.nil | refine fH.same rfl ?_)) (aq:L=iA eE (ul cg g0)++nj cg g0:=by rfl):aw c Q (.loop body) E L:=
 aw.Ua ak (fun s g=>u s g++fa) (fun s g=>iA eE (ul s g)++nj s g) xs (fun e d=>tk e d++fa) (fun e d=>iA eE (s8 e d)++zO e d) g0 aq aE sK pk
end
inductive NE:List (Nat×I)→List (Nat×I)→Prop
 | nil:NE [] []
 | cons {x:Nat×I} {r s:List (Nat×I)} :NE r s→NE (x::r) (x::s)
theorem NE.eq:∀ {l m:List (Nat×I)},NE l m→l=m
 | _,_,.nil=>rfl
 | _,_,.cons h=>by rw [h.eq]
section
variable {c:cF} {E fa:List (Nat×I)} {L:List aF} {ops:Array Oper} {Q:Exit→Act→World→Prop}
theorem fF {z:Exit}(k:aj c Q z fa L)(h:NE E fa:=by repeat (first | exact NE.nil | apply NE.cons)):aj c Q z E L:=by rw [h.eq];exact k
theorem XR {l:List Oper}(k:J c ops Q l fa L)(h:NE E fa:=by repeat (first | exact NE.nil | apply NE.cons)):J c ops Q l E L:=by rw [h.eq];exact k
theorem aw.YJ {ka:Nat}{l:List Oper}{ds:List (Option Nat×List Nat×List Nat×List Nat)}{es:List Nat}(n np:Nat)(hm:c.P.follows .mixedOrders=true)(hs:List dz)
 (bQ:pg c l.toArray Q hs E L np 0 (l.take n) hs) (bw:∀ hd,J c l.toArray Q (l.drop n) (h9 (fun _=>true) hd E 0 hs) (gI (fun _=>true) hd 0 hs L))
 (eC:lB hs=ds:=by rfl) (kR:E.map (·.1)=es:=by rfl) (fo:Gv.qc l.toArray n ds es=true:=by kernel_rfl) (hw:(ds.all fun d=>d.2.2.2.all fun j=>Nat.blt j np)=true:=by kernel_rfl):aw c Q (.region ka l.toArray true) E L:= .an2 n np hm hs es bQ bw eC kR fo hw
theorem aw.YK {ka:Nat}{l:List Oper}{ds:List (Option Nat×List Nat×List Nat×List Nat)}{es:List Nat}(np:Nat)(hm:c.P.follows .mixedOrders=true)(hs:List dz)
 (bQ:pg c l.toArray Q hs E L np 0 l hs) (bw:∀ hd,aj c Q .normal (h9 (fun _=>true) hd E 0 hs) (gI (fun _=>true) hd 0 hs L))
 (eC:lB hs=ds:=by rfl) (kR:E.map (·.1)=es:=by rfl) (fo:Gv.qc l.toArray l.length ds es=true:=by kernel_rfl) (hw:(ds.all fun d=>d.2.2.2.all fun j=>Nat.blt j np)=true:=by kernel_rfl):aw c Q (.region ka l.toArray true) E L:= .Qd np hm hs es bQ bw eC kR fo hw
theorem aw.xI {ka:Nat}{l:List Oper}{ds:List (Option Nat×List Nat×List Nat×List Nat)}{es:List Nat}(hm:c.P.follows .mixedOrders=true)(hs:List dz)
 (bQ:BJ c l.toArray Q hs E L 0 l hs) (bw:∀ hd,aj c Q .normal (h9 (fun _=>true) hd E 0 hs) (gI (fun _=>true) hd 0 hs L))
 (eC:lB hs=ds:=by rfl) (kR:E.map (·.1)=es:=by rfl) (fo:Gv.qc l.toArray l.length ds es=true:=by kernel_rfl):aw c Q (.region ka l.toArray true) E L:= .Kv hm hs es bQ bw eC kR fo
end
class cq (P:Program) (s f:Nat) {β γ:outParam Type} [Aa:ah β] [G0:ah γ] (l:outParam (aK β γ)):Prop where
 fd:xv P s f l.off
class jd (P:Program) (t:TypeId) (e:outParam TypeId) (α:outParam Type) [G1:ah α]:Prop where
 hu:P.underlying t=some (.slice e)
 eH:bO P e α
class Ab (P:Program) (t:TypeId) (α:Type) [ah α] [DecidableEq α] (k:outParam Nat):Prop where
 ux:ma P t α k
 YY:P.eqGuardType P.depth t=false
 aH:Nat.ble k 10000=true
class nQ (P:Program) (t:TypeId) (d:outParam TypeDesc):Prop where
 hu:P.underlying t=some d
class asR (P:Program) (s f:Nat) (t:outParam Nat) {β γ:outParam Type} [Aa:ah β] [G0:ah γ] (l:outParam (aK β γ)):Prop where
 YO:Kw P s f t l.off
class mj (P:Program) (f:FuncId) (α ρ:outParam Type) (L:outParam (α→Option ρ)) (τ:outParam (α→I)) (lJ:outParam (ρ→I)):Prop where
 cn:bM P f
 m:∀ x r,L x=some r→dZ P f [τ x] (lJ r)
class e9 (P:Program) (f:FuncId) (α β ρ:outParam Type) (L:outParam (α→β→Option ρ)) (τ:outParam (α→I)) (σ:outParam (β→I)) (lJ:outParam (ρ→I)):Prop where
 cn:bM P f
 m:∀ x y r,L x y=some r→dZ P f [τ x,σ y] (lJ r)
class zZ (P:Program) (f:FuncId) (α β γ ρ:outParam Type) (L:outParam (α→β→γ→Option ρ)) (τ:outParam (α→I)) (σ:outParam (β→I)) (Ac:outParam (γ→I)) (lJ:outParam (ρ→I)):Prop where
 cn:bM P f
 m:∀ x y z r,L x y z=some r→dZ P f [τ x,σ y,Ac z] (lJ r)
theorem mj.i {P:Program}{f:FuncId}{α ρ:Type}{L:α→Option ρ}{τ:α→I}{lJ:ρ→I}{fn:Func}{code:Code}{n:Nat}(aT:P.funcs[f]? =some fn)(hb:fn.body=some code)(aH:fn.ntmps=n)(ak:Nat.ble 1 n=true)
 (h:∀ x r,L x=some r→ ∀ W A,aw ⟨P,n,W,[],A,none,[]⟩ (bodyPost P fn (tZ ⟨P,n,W,[],A,none,[]⟩ (lJ r))) code (params 0 [τ x]) []) (hm:(fn.name== "runtime.NumGoroutine")=false:=by kernel_rfl):mj P f α ρ L τ lJ:=
 ⟨⟨fn,aT,by rw [hb];rfl,hm⟩,fun x r e=>.of aT hb aH ak (h x r e)⟩
theorem e9.i {P:Program}{f:FuncId}{α β ρ:Type}{L:α→β→Option ρ}{τ:α→I}{σ:β→I}{lJ:ρ→I}{fn:Func}{code:Code}{n:Nat}(aT:P.funcs[f]? =some fn)(hb:fn.body=some code)(aH:fn.ntmps=n)(ak:Nat.ble 2 n=true)
 (h:∀ x y r,L x y=some r→ ∀ W A,aw ⟨P,n,W,[],A,none,[]⟩ (bodyPost P fn (tZ ⟨P,n,W,[],A,none,[]⟩ (lJ r))) code (params 0 [τ x,σ y]) []) (hm:(fn.name== "runtime.NumGoroutine")=false:=by kernel_rfl):e9 P f α β ρ L τ σ lJ:=
 ⟨⟨fn,aT,by rw [hb];rfl,hm⟩,fun x y r e=>.of aT hb aH ak (h x y r e)⟩
theorem zZ.i {P:Program}{f:FuncId}{α β γ ρ:Type}{L:α→β→γ→Option ρ}{τ:α→I}{σ:β→I}{Ac:γ→I}{lJ:ρ→I}{fn:Func}{code:Code}{n:Nat}(aT:P.funcs[f]? =some fn)(hb:fn.body=some code)(aH:fn.ntmps=n)(ak:Nat.ble 3 n=true)
 (h:∀ x y z r,L x y z=some r→ ∀ W A,aw ⟨P,n,W,[],A,none,[]⟩ (bodyPost P fn (tZ ⟨P,n,W,[],A,none,[]⟩ (lJ r))) code (params 0 [τ x,σ y,Ac z]) []) (hm:(fn.name== "runtime.NumGoroutine")=false:=by kernel_rfl):zZ P f α β γ ρ L τ σ Ac lJ:=
 ⟨⟨fn,aT,by rw [hb];rfl,hm⟩,fun x y z r e=>.of aT hb aH ak (h x y z r e)⟩
section
variable (P:Program) (f:FuncId) (τs:List I) {bC:Type} [dU bC] (hp:aG bC)
abbrev ik (ρ:I)(cE:aG bC):Prop:=bJ P f τs ([]++aI hp) (δ:=Unit) (fun _=>ρ) (fun _=>[]++aI cE)
abbrev k6 {α:Type}[ah α](Q:α×aG bC→Prop):Prop:=bJ P f τs ([]++aI hp) (δ:= {r:α×aG bC // Q r}×Unit) (fun d=>I.of d.1.1.1) (fun d=>[]++aI d.1.1.2)
abbrev zy (Q:aG bC→Prop):Prop:=bJ P f τs ([]++aI hp) (δ:= {r:aG bC // Q r}×Unit) (fun _=>I.bP []) (fun d=>[]++aI d.1.1)
abbrev mi (p:Nat){α:Type}[ah α](x:α)(ρ:I)(y:α):Prop:=bJ P f τs [aS p x] (δ:=Unit) (fun _=>ρ) (fun _=>[aS p y])
end
theorem JZ {q:Prop}{u:Value}(hb:q):∀ A W v,(I.cond q (.eq u)).holds A W v→v=u:=fun _ _ _ h=>h.1 hb
abbrev I.sm (p:Nat){β γ:Type}[ah β][ah γ](l:aK β γ):I:= .eq (.pointer (some ⟨p,l.off,none⟩))
structure Ad (p:Prop):Prop where
 k:p
theorem dG {p q:Prop}(a:p)(b:q):p∧q:=⟨a,b⟩
theorem h3:True:=trivial
inductive At:List aF→Nat→aF→Prop
 | z {e r} :At (e::r) 0 e
 | s {e f r j} :At r j e→At (f::r) (j+1) e
theorem At.get:∀ {L j e},At L j e→L[j]? =some e
 | _,_,_,.z=>rfl
 | _,_,_,.s h=>by simpa using h.get
theorem At.g {L:List aF}{j:Nat}{e:aF}(h:At L j e:=by repeat (first | exact At.z | apply At.s)):L[j]? =some e:=h.get
inductive tm:List aF→aF→aF→List aF→Prop
 | z {e f r} :tm (e::r) e f (f::r)
 | s {e f g r s} :tm r e f s→tm (g::r) e f (g::s)
theorem tm.get:∀ {L e f M},tm L e f M→ ∃ j,L[j]? =some e∧L.set j f=M
 | _,_,_,_,.z=>⟨0,rfl,rfl⟩
 | _,_,_,_,.s h=>let⟨j,h1,ab⟩:=h.get; ⟨j+1,by simpa using h1,by simp [ab]⟩
inductive tn {bC:Type}[dU bC]:List aF→aG bC→Prop
 | z {hp} :tn (aI hp) hp
 | s {e r hp} :tn r hp→tn (e::r) hp
theorem tn.get {bC:Type}[dU bC]{L:List aF}{hp:aG bC}(h:tn L hp):∃ n,L.drop n=aI hp:=by
 induction h with
 | z=>exact⟨0,rfl⟩
 | s _ b2=>exact⟨b2.choose+1,b2.choose_spec⟩
class xP (β:Type) [ah β] {bC:outParam Type} [dU bC] (rd:outParam (aG bC→Nat→Option β)):Prop where
 ok:∀ {hp p x},rd hp p=some x→ ∃ k,pat hp p=some k∧dU.gp p k= [⟨some p,.var x⟩]
class Qj (P:Program):Prop where
 m:P.follows .mixedOrders=true
section
variable {c:cF} {E:List (Nat×I)} {L L':List aF} {ops:Array Oper} {Q:Exit→Act→World→Prop} {rest:List Oper} {o:Oper} {d:Option Tmp} {ba:Nat}
variable {ty:TypeId} {pos:String} {af:Array Edge} {g:Option (Nat×Bool)} {x y:Operand} {t t2:TypeId}
theorem fact {p:Prop}(h:p:=by first | with_reducible assumption | (apply fA (hb:=hb);with_reducible assumption)):p:=h
theorem acN (k:Nat)(h:Nat.blt k 18446744073709551616=true:=by rfl):aN c E L (.const (.int .u64 (Int.ofNat k))) (.of (BitVec.ofNat 64 k)):=Bo _ (by simp [Nat.blt] at h ⊢;omega)
theorem fb {σ:I}(h:aN c E L x σ:=by first | exact cD rfl hb | exact cD rfl hb.1 | exact ae rfl | exact c9 _ | exact hn _ | exact h6 _ | exact acN _ | exact cD (aE _ _ rfl) hb | exact cD (aE _ _ rfl) hb.1 | exact ae (aE _ _ rfl)):aN c E L x σ:=h
theorem tl {σ τ:I}(h:aN c E L x σ→bc c E L o τ)(al:aN c E L x σ:=by exact fb):bc c E L o τ:=h al
theorem Ae {σ oo τ:I}(h:aN c E L x σ→aN c E L y oo→bc c E L o τ)(al:aN c E L x σ:=by exact fb)(aR:aN c E L y oo:=by exact fb):bc c E L o τ:=h al aR
theorem aip {i:Nat}{τs:List I}{τ:I}(al:aN c E L x (.bP τs):=by exact fb)(ao:τs[i]? =some τ:=by rfl):bc c E L ⟨d,.extract x i,ty,pos,af,g⟩ τ:=VP al ao
theorem akQ {p j:Nat}{β γ:Type}[ah β][ah γ]{b:β}{l:aK β γ}[k:bO c.P t γ](al:aN c E L x (.sm p l):=by exact fb)(aq:L[j]? =some ⟨some p,.var b⟩:=by first | exact At.g | exact aq _ _ At.g rfl):bc c E L ⟨d,.load t x,ty,pos,af,g⟩ (.of (l.get b)):=
 gz l k al aq rfl rfl
theorem akR {p j:Nat}{β:Type}[ah β]{b:β}[k:bO c.P t β](al:aN c E L x (.bE p):=by exact fb)(aq:L[j]? =some ⟨some p,.var b⟩:=by first | exact At.g | exact aq _ _ At.g rfl):bc c E L ⟨d,.load t x,ty,pos,af,g⟩ (.of b):=
 gz (aK.id β) k al aq rfl rfl
theorem pm {bC β:Type}[ah β][dU bC]{rd:aG bC→Nat→Option β}{hp:aG bC}{p:Nat}{b:β}[k:xP β rd](hd:tn L hp:=by repeat (first | exact tn.z | apply tn.s))(ad:rd hp p=some b:=by exact fact):(⟨some p,.var b⟩:aF)∈L:=by
 obtain⟨n,h1⟩:=hd.get;obtain⟨q,ab,ax⟩:=k.ok ad;exact iK h1 ab ax
class YZ (β:Type) [ah β] {bC xQ:outParam Type} [dU bC] (rd:outParam (aG bC→Nat→Option xQ)) (q:outParam (xQ→β)) (os:outParam (xQ→List (Nat×Value))):Prop where
 ok:∀ {hp p x},rd hp p=some x→ ∃ k es,pat hp p=some k∧dU.gp p k=⟨some p,.ch (q x) (os x)⟩::es
theorem jI {bC xQ β:Type}[ah β][dU bC]{rd:aG bC→Nat→Option xQ}{q:xQ→β}{os:xQ→List (Nat×Value)}{hp:aG bC}{p:Nat}{x:xQ}[k:YZ β rd q os](hd:tn L hp:=by repeat (first | exact tn.z | apply tn.s))(ad:rd hp p=some x:=by exact fact):(⟨some p,.ch (q x) (os x)⟩:aF)∈L:=by
 obtain⟨n,h1⟩:=hd.get;obtain⟨_,_,ab,ax⟩:=k.ok ad;exact n9 h1 ab ax
theorem Y0 {e:aF}{np:Nat}(b3:L'.drop np=L.drop np)(h:e∈L.drop np):e∈L':=List.mem_of_mem_drop (b3 ▸ h)
theorem akS {p:Nat}{β γ:Type}[ah β][ah γ]{b:β}{os:List (Nat×Value)}{l:aK β γ}[k:bO c.P t γ](al:aN c E L x (.sm p l):=by exact fb)(hm:(⟨some p,.ch b os⟩:aF)∈L:=by first | exact Y0 b3 jI | exact oO (fun i e q=>aq i e q rfl) jI | exact jI)(aW:tK os l.off (ah.size γ)=true:=by rfl):bc c E L ⟨d,.load t x,ty,pos,af,g⟩ (.of (l.get b)):=
 nW l k al hm rfl rfl aW
theorem akT {p:Nat}{β γ:Type}[ah β][ah γ]{b:β}{l:aK β γ}[k:bO c.P t γ](al:aN c E L x (.sm p l):=by exact fb)(hm:(⟨some p,.var b⟩:aF)∈L:=by first | exact Y0 b3 pm | exact oO (fun i e q=>aq i e q rfl) pm | exact pm):bc c E L ⟨d,.load t x,ty,pos,af,g⟩ (.of (l.get b)):=
 nq l k al hm rfl rfl
theorem akU {r:Ref}{a:Nat}(al:aN c E L x (.of r):=by exact fb)(aA:r=some a:=by first | with_reducible rfl | exact fact):bc c E L ⟨d,.nilCheck x,ty,pos,af,g⟩ (.bE a):=e4 (fg al aA)
theorem akV {r:Ref}{e:TypeId}[k:nQ c.P t (.pointer e)](al:aN c E L x (.of r):=by exact fb):bc c E L ⟨d,.binOp .eql t x (.const (.pointer none)) t2,ty,pos,af,g⟩ (.of r.isNone):=yF k.hu al
theorem akW {r:Ref}{e:TypeId}[k:nQ c.P t (.pointer e)](al:aN c E L x (.of r):=by exact fb):bc c E L ⟨d,.binOp .neq t x (.const (.pointer none)) t2,ty,pos,af,g⟩ (.of r.isSome):=acL k.hu al
theorem aiq {γ:Type}[ah γ]{r:γ}[k:bO c.P t γ](al:aN c E L x (.ptr r):=by exact fb):bc c E L ⟨d,.load t x,ty,pos,af,g⟩ (.of r):=k9 k al
theorem akX {s f:Nat}{β γ:Type}[Aa:ah β][G0:ah γ]{b:β}{l:aK β γ}[k:cq c.P s f l](al:aN c E L x (.ptr b):=by exact fb):bc c E L ⟨d,.fieldAddr s x f,ty,pos,af,g⟩ (.ptr (l.get b)):=y1 l k.fd al rfl rfl
theorem akY {s f p:Nat}{α β γ:Type}[ah α][Aa:ah β][G0:ah γ]{m:aK α β}{l:aK β γ}[k:cq c.P s f l](al:aN c E L x (.sm p m):=by exact fb):bc c E L ⟨d,.fieldAddr s x f,ty,pos,af,g⟩ (.sm p (m.comp l)):=bY k.fd al
theorem akZ {s f p:Nat}{β γ:Type}[Aa:ah β][G0:ah γ]{l:aK β γ}[k:cq c.P s f l](al:aN c E L x (.bE p):=by exact fb):bc c E L ⟨d,.fieldAddr s x f,ty,pos,af,g⟩ (.sm p l):=by
 have:=bY (d:=d) (ty:=ty) (pos:=pos) (af:=af) (g:=g) k.fd al;rwa [Nat.zero_add] at this
theorem ak0 {α:Type}[G1:ah α][Inhabited α]{xs:List α}{e:TypeId}{i:Int}{j:Nat}[k:jd c.P t e α](al:aN c E L x (.of xs):=by exact fb)(aR:aN c E L y (.of i):=by exact fb)(hk:idx xs.length i=some j:=by exact fact):
 bc c E L ⟨d,.indexAddr t x y,ty,pos,af,g⟩ (.ptr (au xs j)):=rN k.hu k.eH al aR (dq hk)
theorem air {α:Type}[G1:ah α]{xs:List α}{e:TypeId}[k:jd c.P t e α](al:aN c E L x (.of xs):=by exact fb):bc c E L ⟨d,.call ⟨.builtin .len,#[x],#[t]⟩,ty,pos,af,g⟩ (.of (xs.length:Int)):=qb k.hu al
theorem ak1 {b e:Bool}{p:Prop}(al:aN c E L x (.of b):=by exact fb)(aR:aN c E L y (.cond p (.of e)):=by first | exact ae rfl | exact ae (aE _ _ rfl))(hp:b=false→p:=by exact fun h=>h):bc c E L ⟨d,.pick x (.const (.bool true)) y,ty,pos,af,g⟩ (.of (b||e)):=vl al aR hp
theorem ais {b e:Bool}{p:Prop}(al:aN c E L x (.of b):=by exact fb)(aR:aN c E L y (.cond p (.of e)):=by first | exact ae rfl | exact ae (aE _ _ rfl))(hp:b=true→p:=by exact fun h=>h):bc c E L ⟨d,.pick x y (.const (.bool false)),ty,pos,af,g⟩ (.of (b&&e)):=y2 al aR hp
theorem ait {α:Type}[ah α][DecidableEq α]{n:Nat}{a b:α}[k:Ab c.P t α n](al:aN c E L x (.of a):=by exact fb)(aR:aN c E L y (.of b):=by exact fb)(aW:ah.agg α=true:=by rfl):
 bc c E L ⟨d,.binOp .eql t x y t2,ty,pos,af,g⟩ (.of (decide (a=b))):=Vk k.ux k.aH k.YY aW al aR
theorem aiu {α:Type}[ah α][DecidableEq α]{n:Nat}{a b:α}[k:Ab c.P t α n](al:aN c E L x (.of a):=by exact fb)(aR:aN c E L y (.of b):=by exact fb)(aW:ah.agg α=true:=by rfl):
 bc c E L ⟨d,.binOp .neq t x y t2,ty,pos,af,g⟩ (.of (!decide (a=b))):=NB k.ux k.aH k.YY aW al aR
inductive wY (c:cF)(E:List (Nat×I))(L:List aF)(t:TypeId)(place:Nat→Option (Nat×Nat)){β:Type}[Aa:ah β]:β→List (Nat×Operand)→β→Prop
 | nil {b} :wY c E L t place b [] b
 | cons {b b':β} {γ:Type} [G0:ah γ] {v:γ} {i:Nat} {x:Operand} {r:List (Nat×Operand)} {l:aK β γ} [k:cq c.P t i l]:place i=some (l.off,ah.size γ)→aN c E L x (.of v)→wY c E L t place (l.set b v) r b'→wY c E L t place b ((i,x)::r) b'
theorem wY.f {place:Nat→Option (Nat×Nat)}{β:Type}[Aa:ah β]{b b':β}{r:List (Nat×Operand)}(h:wY c E L t place b r b'):sJ c E L place b r b':=by
 induction h with
 | nil=>exact .nil
 | cons h1 ab _ b2=>exact .cons _ h1 ab rfl b2
theorem ak2 {β:Type}[Aa:ah β]{z b:β}{dS:List (Nat×Operand)}{pl:Array (Nat×Nat)}[aL:fX c.P t pl][bz:dp c.P t z](aT:wY c E L t (pl[·]?) z dS b:=by repeat (first | exact wY.nil | (apply wY.cons;rfl;first | exact fb | exact look_nil)))(aW:ah.agg β=true:=by rfl):
 bc c E L ⟨d,.build t dS.toArray,ty,pos,af,g⟩ (.of b):=kg aW aL bz aT.f
inductive xf {α:Type} :List α→Nat→α→List α→Prop
 | z {x v r} :xf (x::r) 0 v (v::r)
 | s {x v r s i} :xf r i v s→xf (x::r) (i+1) v (x::s)
theorem xf.ok {α:Type}{b c:List α}{i:Nat}{v:α}(h:xf b i v c):i<b.length∧b.set i v=c:=by
 induction h with
 | z=>simp
 | s _ b2=>exact⟨by simp only [List.length_cons];omega,by simp [b2.2]⟩
inductive wZ (c:cF)(E:List (Nat×I))(L:List aF){α:Type}[ah α]:List α→List (Nat×Operand)→List α→Prop
 | nil {b} :wZ c E L b [] b
 | cons {b dJ b':List α} {v:α} {i:Nat} {x:Operand} {r:List (Nat×Operand)} :aN c E L x (.of v)→xf b i v dJ→wZ c E L dJ r b'→wZ c E L b ((i,x)::r) b'
theorem wZ.f {α:Type}[ah α]{b b':List α}{r:List (Nat×Operand)}(h:wZ c E L b r b'):pn c E L b r b':=by
 induction h with
 | nil=>exact .nil
 | cons h1 ab _ b2=>obtain⟨ax,rfl⟩:=ab.ok;exact .cons ax h1 b2
inductive xg {α:Type}(z:α):Nat→List α→Prop
 | z:xg z 0 []
 | s {n l} :xg z n l→xg z (n+1) (z::l)
theorem xg.ok {α:Type}{z:α}{n:Nat}{l:List α}(h:xg z n l):List.replicate n z=l:=by
 induction h with
 | z=>rfl
 | s _ b2=>rw [List.replicate_succ,b2]
theorem ak3 {α:Type}[G1:ah α]{e n:Nat}{z:α}{dS:List (Nat×Operand)}{l r:List α}[aL:jd c.P t e α][bz:dp c.P e z](bF:xg z n l:=by repeat (first | exact xg.z | apply xg.s))
 (aT:wZ c E L l dS r:=by repeat (first | exact wZ.nil | (apply wZ.cons; (first | exact fb | exact look_nil); (repeat (first | exact xf.z | apply xf.s))))) (hs:Nat.beq (ah.size α) 0=false:=by rfl) (pM:Nat.ble (n * ah.size α) 16777216=true:=by rfl):
 bc c E L ⟨d,.buildSlice t n dS.toArray,ty,pos,af,g⟩ (.of r):=w2 aL.hu aL.eH bz hs pM (bF.ok ▸ aT.f)
theorem ak4 {f:FuncId}{ats:Array TypeId}{α ρ:Type}{xR:α→Option ρ}{τ:α→I}{lJ:ρ→I}[k:mj c.P f α ρ xR τ lJ]{a:α}{r:ρ}(h1:aN c E L x (τ a):=by exact fb)(h:xR a=some r:=by exact fact):
 bc c E L ⟨d,.call ⟨.value (.func f),[x].toArray,ats⟩,ty,pos,af,g⟩ (lJ r):=la k.cn (k.m _ _ h) ⟨h1,trivial⟩
theorem ak5 {f:FuncId}{ats:Array TypeId}{α β ρ:Type}{xR:α→β→Option ρ}{τ:α→I}{σ:β→I}{lJ:ρ→I}[k:e9 c.P f α β ρ xR τ σ lJ]{a:α}{b:β}{r:ρ}(h1:aN c E L x (τ a):=by exact fb)(ab:aN c E L y (σ b):=by exact fb)(h:xR a b=some r:=by exact fact):
 bc c E L ⟨d,.call ⟨.value (.func f),[x,y].toArray,ats⟩,ty,pos,af,g⟩ (lJ r):=la k.cn (k.m _ _ _ h) ⟨h1,ab,trivial⟩
theorem ak6 {f:FuncId}{ats:Array TypeId}{α β γ ρ:Type}{xR:α→β→γ→Option ρ}{τ:α→I}{σ:β→I}{Ac:γ→I}{lJ:ρ→I}{c8:Operand}[k:zZ c.P f α β γ ρ xR τ σ Ac lJ]{a:α}{b:β}{e:γ}{r:ρ}(h1:aN c E L x (τ a):=by exact fb)(ab:aN c E L y (σ b):=by exact fb)(ax:aN c E L c8 (Ac e):=by exact fb)(h:xR a b e=some r:=by exact fact):
 bc c E L ⟨d,.call ⟨.value (.func f),[x,y,c8].toArray,ats⟩,ty,pos,af,g⟩ (lJ r):=la k.cn (k.m _ _ _ _ h) ⟨h1,ab,ax,trivial⟩
theorem Ci {src dst:TypeId}{e r:TypeDesc}{σ τ:I}[aL:nQ c.P src e][bz:nQ c.P dst r](h:c.P.underlying src=some e→c.P.underlying dst=some r→aN c E L x σ→bc c E L ⟨d,.convert src dst x,ty,pos,af,g⟩ τ)(al:aN c E L x σ:=by exact fb):
 bc c E L ⟨d,.convert src dst x,ty,pos,af,g⟩ τ:=h aL.hu bz.hu al
theorem Xh {r:TypeDesc}{σ oo τ:I}[aL:nQ c.P t r](h:c.P.underlying t=some r→aN c E L x σ→aN c E L y oo→bc c E L o τ)(al:aN c E L x σ:=by exact fb)(aR:aN c E L y oo:=by exact fb):bc c E L o τ:=h aL.hu al aR
theorem aiv {a b r:Int}(al:aN c E L x (.of a):=by exact fb)(aR:aN c E L y (.of b):=by exact fb)(hk:tY a b=some r:=by exact fact):bc c E L ⟨d,.binOp .rem t x y t2,ty,pos,af,g⟩ (.of r):=ah8 al aR (acF hk)
theorem aiw {p n s k:Nat}{i:Int}{β α:Type}[ah β][ah α][Inhabited α]{l:aK β (Vector α n)}[GL:o3 c.P t n s](al:aN c E L x (.sm p l):=by exact fb)(hs:ah.size α=s:=by rfl)(aR:aN c E L y (.of i):=by exact fb)(hk:idx n i=some k:=by exact fact):
 bc c E L ⟨d,.indexAddr t x y,ty,pos,af,g⟩ (.sm p (l.comp (aK.idx (α:=α) n k (dq hk).1))):=by subst hs;exact kz GL al aR (dq hk)
def zP (L:List aF){β:Type}[ah β](p:Nat)(b:β):Prop:=True
theorem zP.m {β:Type}[ah β]{p j:Nat}{b:β}(h:L[j]? =some ⟨some p,.var b⟩):zP L p b:=trivial
theorem aix {p n s k:Nat}{i:Int}{α:Type}[ah α][Inhabited α]{b:Vector α n}[GL:o3 c.P t n s](al:aN c E L x (.bE p):=by exact fb)(aq:zP L p b:=by first | exact zP.m At.g | exact zP.m (aq _ _ At.g rfl) | exact th _ _ At.g)(hs:ah.size α=s:=by rfl)(aR:aN c E L y (.of i):=by exact fb)(hk:idx n i=some k:=by exact fact):
 bc c E L ⟨d,.indexAddr t x y,ty,pos,af,g⟩ (.sm p (aK.idx (α:=α) n k (dq hk).1)):=by
 subst hs
 have:=kz (d:=d) (ty:=ty) (pos:=pos) (af:=af) (g:=g) GL al aR (dq hk)
 rwa [Nat.zero_add] at this
class mG (op:BinOp) (α:Type) {β:outParam Type} [ah α] [ah β] (f:outParam (α→α→β)):Prop where
 h:∀ {c:cF} {E L d ty pos af g x y t t2} {a b:α},aN c E L x (.of a)→aN c E L y (.of b)→bc c E L ⟨d,.binOp op t x y t2,ty,pos,af,g⟩ (.of (f a b))
instance:mG .add Int (fun a b=>bk (a+b)):=⟨j6⟩
instance:mG .sub Int (fun a b=>bk (a - b)):=⟨sH⟩
instance:mG .mul Int (fun a b=>bk (a * b)):=⟨ah7⟩
instance:mG .lss Int (fun a b=>decide (a<b)):=⟨sF⟩
instance:mG .leq Int (fun a b=>decide (a≤b)):=⟨Vv⟩
instance:mG .gtr Int (fun a b=>decide (a>b)):=⟨BR⟩
instance:mG .geq Int (fun a b=>decide (a≥b)):=⟨Nt⟩
instance:mG .eql Int (fun a b=>a==b):=⟨sC⟩
instance:mG .neq Int (fun a b=>a !=b):=⟨u9⟩
instance:mG .and (BitVec 64) (fun a b=>a&&&b):=⟨Tt⟩
instance:mG .or (BitVec 64) (fun a b=>a|||b):=⟨afY⟩
instance:mG .xor (BitVec 64) (fun a b=>a ^^^ b):=⟨aeM⟩
instance:mG .add (BitVec 64) (fun a b=>a+b):=⟨aeJ⟩
instance:mG .sub (BitVec 64) (fun a b=>a - b):=⟨aeL⟩
instance:mG .shl (BitVec 64) (fun a b=>a <<< b.toNat):=⟨aeP⟩
instance:mG .shr (BitVec 64) (fun a b=>a >>> b.toNat):=⟨aeQ⟩
instance:mG .eql (BitVec 64) (fun a b=>a==b):=⟨aeS⟩
instance:mG .neq (BitVec 64) (fun a b=>a !=b):=⟨aeT⟩
instance:mG .lss (BitVec 64) (fun a b=>decide (a<b)):=⟨aeR⟩
theorem aiy {op:BinOp}{α β:Type}[ah α][ah β]{f:α→α→β}{a b:α}[k:mG op α f](al:aN c E L x (.of a):=by exact fb)(aR:aN c E L y (.of b):=by exact fb):bc c E L ⟨d,.binOp op t x y t2,ty,pos,af,g⟩ (.of (f a b)):=k.h al aR
theorem V4 {op:BinOp}{τ:I}(h:bc c E L ⟨d,.binOp op t x y t2,ty,pos,af,g⟩ τ):bc c E L ⟨d,.binOp op t x y t2,ty,pos,af,g⟩ τ:=h
theorem Xi {τ:I}(h:bc c E L ⟨d,.load t x,ty,pos,af,g⟩ τ):bc c E L ⟨d,.load t x,ty,pos,af,g⟩ τ:=h
theorem ak7 {s f:Nat}{τ:I}(h:bc c E L ⟨d,.fieldAddr s x f,ty,pos,af,g⟩ τ):bc c E L ⟨d,.fieldAddr s x f,ty,pos,af,g⟩ τ:=h
theorem Xj {k:Call}{τ:I}(h:bc c E L ⟨d,.call k,ty,pos,af,g⟩ τ):bc c E L ⟨d,.call k,ty,pos,af,g⟩ τ:=h
theorem ak8 {op:UnOp}{τ:I}(h:bc c E L ⟨d,.unOp op t x,ty,pos,af,g⟩ τ):bc c E L ⟨d,.unOp op t x,ty,pos,af,g⟩ τ:=h
theorem ak9 {τ:I}(h:bc c E L ⟨d,.indexAddr t x y,ty,pos,af,g⟩ τ):bc c E L ⟨d,.indexAddr t x y,ty,pos,af,g⟩ τ:=h
theorem ala {src dst:TypeId}{τ:I}(h:bc c E L ⟨d,.convert src dst x,ty,pos,af,g⟩ τ):bc c E L ⟨d,.convert src dst x,ty,pos,af,g⟩ τ:=h
theorem Xk {τ:I}(h:bc c E L ⟨d,.nilCheck x,ty,pos,af,g⟩ τ):bc c E L ⟨d,.nilCheck x,ty,pos,af,g⟩ τ:=h
theorem alb {τ:I}(h:bc c E L ⟨d,.move x,ty,pos,af,g⟩ τ):bc c E L ⟨d,.move x,ty,pos,af,g⟩ τ:=h
theorem alc {τ:I}(h:bc c E L ⟨d,.assign x,ty,pos,af,g⟩ τ):bc c E L ⟨d,.assign x,ty,pos,af,g⟩ τ:=h
theorem ald {i:Nat}{τ:I}(h:bc c E L ⟨d,.extract x i,ty,pos,af,g⟩ τ):bc c E L ⟨d,.extract x i,ty,pos,af,g⟩ τ:=h
theorem ale {z w:Operand}{τ:I}(h:bc c E L ⟨d,.pick z x w,ty,pos,af,g⟩ τ):bc c E L ⟨d,.pick z x w,ty,pos,af,g⟩ τ:=h
theorem alf {dS:Array (Nat×Operand)}{τ:I}(h:bc c E L ⟨d,.build t dS,ty,pos,af,g⟩ τ):bc c E L ⟨d,.build t dS,ty,pos,af,g⟩ τ:=h
theorem alg {n:Nat}{dS:Array (Nat×Operand)}{τ:I}(h:bc c E L ⟨d,.buildSlice t n dS,ty,pos,af,g⟩ τ):bc c E L ⟨d,.buildSlice t n dS,ty,pos,af,g⟩ τ:=h
theorem aA {τ:I} (h:bc c E L o τ:=by first
 | (apply alb;exact cG fb)
 | (apply alc;exact c5 fb)
 | (apply Xi;first | exact akQ | exact akR | exact aiq)
 | (apply ak7;first | exact akX | exact akY | exact akZ)
 | (apply V4;first | exact aiy | exact akV | exact akW | exact ait | exact aiu | exact Xh apw | exact Xh Ve)
 | (apply Xj;first | exact air | exact ao6 | exact Ae U5 | exact Ae U4 | exact Ae adE)
 | (apply ald;exact aip)
 | (apply ale;first | exact ak1 | exact ais)
 | (apply ak8;first | exact tl sG | exact tl apx)
 | (apply alf;exact ak2)
 | (apply alg;exact ak3)
 | (apply ala;first | exact Ci Ug | exact Ci afZ | exact Ci aia | exact Ci apy | exact Ci apz | exact Ci aol)
 | (apply Xk;first | exact arh | exact tl e4 | exact tl af4)):bc c E L o τ:=h
theorem oq {τ:I} (h:bc c E L o τ:=by first
 | (apply ak9;first | exact ak0 | exact aiw | exact aix | exact apA)
 | (apply Xj;first | exact ak4 | exact ak5 | exact ak6 | exact ari)
 | (apply Xk;exact akU) | (apply Xi;first | exact akT | exact akS)
 | (apply V4;first | exact aiv | exact apB | exact apC | exact apD)):bc c E L o τ:=h
class Gs (op:BinOp):Prop where
 h:True
instance:Gs .quo:=⟨trivial⟩
instance:Gs .rem:=⟨trivial⟩
instance:Gs .shl:=⟨trivial⟩
instance:Gs .shr:=⟨trivial⟩
theorem Xl (h:J c ops Q (⟨d,.nilCheck x,ty,pos,af,g⟩::rest) E L):J c ops Q (⟨d,.nilCheck x,ty,pos,af,g⟩::rest) E L:=h
theorem Xm (h:J c ops Q (⟨d,.load t x,ty,pos,af,g⟩::rest) E L):J c ops Q (⟨d,.load t x,ty,pos,af,g⟩::rest) E L:=h
theorem alh (h:J c ops Q (⟨d,.indexAddr t x y,ty,pos,af,g⟩::rest) E L):J c ops Q (⟨d,.indexAddr t x y,ty,pos,af,g⟩::rest) E L:=h
theorem ali {f:FuncId}{xs:Array Operand}{ats:Array TypeId}(h:J c ops Q (⟨d,.call ⟨.value (.func f),xs,ats⟩,ty,pos,af,g⟩::rest) E L):J c ops Q (⟨d,.call ⟨.value (.func f),xs,ats⟩,ty,pos,af,g⟩::rest) E L:=h
theorem aiz {op:BinOp}[k:Gs op](h:J c ops Q (⟨d,.binOp op t x y t2,ty,pos,af,g⟩::rest) E L):J c ops Q (⟨d,.binOp op t x y t2,ty,pos,af,g⟩::rest) E L:=h
inductive Nm:I→I→Prop
 | i {τ} :Nm τ τ
 | n {α:Type} [ah α] {a b:α} :some a=some b→Nm (.of a) (.of b)
theorem Nm.aA {τ σ:I}(h:Nm τ σ)(k:bc c E L o τ):bc c E L o σ:=by
 cases h with
 | i=>exact k
 | n e=>cases e;exact k
theorem alj {τ:I}{j g:Nat}{p:Prop}{b want:Bool}(k:J c ops Q rest ((ba,.cond (p∧b=want) τ)::E) L)(bA:o.guard=some (j,want):=by rfl)(aB:(ops[j]?).bind (·.dst)=some g:=by rfl)(ak:look E g=some (.cond p (.of b)):=by rfl)
 (h:p∧b=want→bc c E L o τ:=by intro hb;exact aA) (hd:o.dst=some ba:=by rfl) (aH:Nat.blt ba c.n=true:=by rfl):J c ops Q (o::rest) E L:= .gg h bA aB ak hd aH k
theorem alk {fn:Func}{Lo:Unit→List aF}(hs:(Lo ()).Sublist L:=by repeat (first | exact List.Sublist.refl _ | exact List.nil_sublist _ | apply List.Sublist.cons_cons | apply List.Sublist.cons))(aA:fn.results= #[]:=by rfl)(eC:c.ds= []:=by rfl):
 aj c (bodyPost c.P fn (kZ c.X c.bZ c.jY (fun _:Unit=>.bP []) Lo)) .ret E L:= .nv () hs aA rfl eC
theorem alm {fn:Func}{r:ResultVar}{τ:I}{ρ:Unit→I}{Lo:Unit→List aF}(hs:(Lo ()).Sublist L:=by repeat (first | exact List.Sublist.refl _ | exact List.nil_sublist _ | apply List.Sublist.cons_cons | apply List.Sublist.cons))(aA:fn.results= #[r]:=by rfl)(h:qo c E L r τ:=by exact Pz)(q8:ρ ()=τ:=by rfl)(eC:c.ds= []:=by rfl):
 aj c (bodyPost c.P fn (kZ c.X c.bZ c.jY ρ Lo)) .ret E L:= .eh () hs aA q8 h eC
theorem aln {fn:Func}{r gH:ResultVar}{τ oi:I}{ρ:Unit→I}{Lo:Unit→List aF}(hs:(Lo ()).Sublist L:=by repeat (first | exact List.Sublist.refl _ | exact List.nil_sublist _ | apply List.Sublist.cons_cons | apply List.Sublist.cons))(aA:fn.results= #[r,gH]:=by rfl)(h:qo c E L r τ:=by exact Pz)(ab:qo c E L gH oi:=by exact Pz)(q8:ρ ()= .bP [τ,oi]:=by rfl)(eC:c.ds= []:=by rfl):
 aj c (bodyPost c.P fn (kZ c.X c.bZ c.jY ρ Lo)) .ret E L:= .rQ () hs aA q8 h ab eC
theorem amJ {R:Type}{b:Bool}{A B:Option R}{r:R}(h:cond b A B=some r):True:=trivial
theorem amK {R:Type}{b:Bool}{A B:ag R}{r:R→Prop}(h:cond b A B r):True:=trivial
theorem alo (h:J c ops Q (⟨some ba,.alloc t,ty,pos,af,none⟩::rest) E L):J c ops Q (⟨some ba,.alloc t,ty,pos,af,none⟩::rest) E L:=h
theorem alp (h:J c ops Q (⟨some ba,.box t x,ty,pos,af,none⟩::rest) E L):J c ops Q (⟨some ba,.box t x,ty,pos,af,none⟩::rest) E L:=h
theorem alq (h:J c ops Q (⟨none,.store t x y,ty,pos,af,none⟩::rest) E L):J c ops Q (⟨none,.store t x y,ty,pos,af,none⟩::rest) E L:=h
theorem alr {z:Operand}{u v:Code}(h:aw c Q (.cond z u v) E L):aw c Q (.cond z u v) E L:=h
theorem Gt {τ:I}(k:J c ops Q rest ((ba,τ)::E) L)(bA:o.guard=none:=by rfl)(hd:o.dst=some ba:=by rfl)(h:bc c E L o τ:=by exact aA)(aH:Nat.blt ba c.n=true:=by rfl):J c ops Q (o::rest) E L:= .v h bA hd aH k
theorem Gu {τ:I}{j g:Nat}{b want:Bool}(k:J c ops Q rest ((ba,.cond (b=want) τ)::E) L)(bA:o.guard=some (j,want):=by rfl)(aB:(ops[j]?).bind (·.dst)=some g:=by rfl)(ak:look E g=some (.of b):=by rfl)
 (h:b=want→bc c E L o τ:=by intro hb;exact aA) (hd:o.dst=some ba:=by rfl) (aH:Nat.blt ba c.n=true:=by rfl):J c ops Q (o::rest) E L:= .g h bA aB ak hd aH k
theorem als {α:Type}[G1:ah α]{z:α}[gU:dp c.P t z](k:∀ p,J c ops Q rest ((ba,.bE p)::E) (⟨some p,.var z⟩::L))(aH:Nat.blt ba c.n=true:=by rfl):J c ops Q (⟨some ba,.alloc t,ty,pos,af,none⟩::rest) E L:= .alloc gU aH k
theorem alu {α:Type}[ah α]{z:α}(k:∀ p,J c ops Q rest ((ba,.bE p)::E) (⟨some p,.var z⟩::L))(al:aN c E L x (.of z):=by exact fb)(aH:Nat.blt ba c.n=true:=by rfl):J c ops Q (⟨some ba,.box t x,ty,pos,af,none⟩::rest) E L:= .box al aH k
theorem alv {p:Nat}{β γ:Type}[ah β][ah γ]{b:β}{v:γ}{l:aK β γ}[dP:bO c.P t γ](k:J c ops Q rest E L')(al:aN c E L x (.sm p l):=by exact fb)(aR:aN c E L y (.of v):=by first | exact fb | exact look_nil)
 (aq:tm L ⟨some p,.var b⟩ ⟨some p,.var (l.set b v)⟩ L':=by repeat (first | exact tm.z | apply tm.s)):J c ops Q (⟨none,.store t x y,ty,pos,af,none⟩::rest) E L:=by
 obtain⟨j,h1,rfl⟩:=aq.get
 exact .store l dP al aR h1 rfl rfl k
theorem alw {p:Nat}{β:Type}[ah β]{b v:β}[dP:bO c.P t β](k:J c ops Q rest E L')(al:aN c E L x (.bE p):=by exact fb)(aR:aN c E L y (.of v):=by first | exact fb | exact look_nil)
 (aq:tm L ⟨some p,.var b⟩ ⟨some p,.var v⟩ L':=by repeat (first | exact tm.z | apply tm.s)):J c ops Q (⟨none,.store t x y,ty,pos,af,none⟩::rest) E L:=by
 obtain⟨j,h1,rfl⟩:=aq.get
 exact .store (aK.id β) dP al aR h1 rfl rfl k
theorem alx {α R:Type}{a:α}{f:α→Option R}{r:R}{G:Prop}(h:(some a).bind f=some r)(k:∀ y,some a=some y→f y=some r→G):G:=k a rfl h
theorem Xn {α:Type}[ah α]{a gv:α}{K:α→Prop}(k:∀ y,some a=some y→K y→J c ops Q rest ((ba,.of y)::E) L)(bA:o.guard=none:=by rfl)(hd:o.dst=some ba:=by rfl)(h:bc c E L o (.of gv):=by exact aA)(e:gv=a:=by with_reducible rfl)(aH:Nat.blt ba c.n=true:=by rfl):
 ∀ y,some a=some y→K y→J c ops Q (o::rest) E L:=fun y aR hk=>by subst e;exact .v ((Nm.n aR).aA h) bA hd aH (k y aR hk)
theorem aly {α R:Type}{a:α}{f:α→ag R}{r:R→Prop}{G:Prop}(h:ag.bind (ag.of (some a)) f r)(k:∀ y,some a=some y→f y r→G):G:=by obtain⟨y,h1,ab⟩:=h;exact k y h1 ab
theorem Yn {α R:Type}{m:Option α}{f:α→Option R}{r:R}(h:m.bind f=some r)(k:∀ y,m=some y→f y=some r→J c ops Q (o::rest) E L):J c ops Q (o::rest) E L:=az h k
theorem Xo {α R:Type}{m:Option α}{f:α→ag R}{r:R→Prop}(h:ag.bind (ag.of m) f r)(k:∀ y,m=some y→f y r→J c ops Q (o::rest) E L):J c ops Q (o::rest) E L:=ag.br h k
theorem amL {u j p:Nat}{α:Type}[ah α]{x:α}[k:bO c.P ty α](h:look E u=some (.bE p):=by rfl)(aq:L[j]? =some ⟨some p,.var x⟩:=by first | exact At.g | exact aq _ _ At.g rfl):pW c E L (.cell u ty) (.of x):=W7 k h aq
theorem Qk {r:ResultVar}{τ:I}(h:pW c E L r τ:=by first | exact Jy rfl | exact amL):pW c E L r τ:=h
theorem alz {u j p:Nat}{α:Type}[ah α]{x:α}[k:bO c.P ty α](h:look E u=some (.bE p):=by rfl)(aq:L[j]? =some ⟨some p,.var x⟩:=by first | exact At.g | exact aq _ _ At.g rfl):qo c E L (.cell u ty) (.of x):=po k h aq
theorem Pz {r:ResultVar}{τ:I}(h:qo c E L r τ:=by first | exact dw rfl | exact alz):qo c E L r τ:=h
theorem amM {fn:Func}{r:ResultVar}{τ:I}(aA:fn.results= #[r]:=by rfl)(h:pW c E L r τ:=by exact Qk)(eC:c.ds= []:=by rfl):aj c (bodyPost c.P fn (tZ c τ)) .ret E L:= .W8 aA h eC
theorem amN {fn:Func}{kq gH:ResultVar}{τ oi:I}(aA:fn.results= #[kq,gH]:=by rfl)(h:pW c E L kq τ:=by exact Qk)(ab:pW c E L gH oi:=by exact Qk)(eC:c.ds= []:=by rfl):aj c (bodyPost c.P fn (tZ c (.bP [τ,oi]))) .ret E L:= .akw aA h ab eC
end
inductive xS (c:cF)(ops:Array Oper)(E:List (Nat×I))(L:List aF)(hs:List dz):List Oper→List (Option Nat)→List (List Nat)→List I→Prop
 | nil {os} :xS c ops E L hs os [] [] []
 | cons {o os s eN d ds τ dk} :(∀ L':List aF,(∀ (j:Nat) (e:aF),L[j]? =some e→tS (fun _=>false) j 0 []=true→L'[j]? =some e)→h4 c ops (kb (fun _ _=>none) hs E d) L' o τ)→xS c ops E L hs os eN ds dk→xS c ops E L hs (o::os) (s::eN) (d::ds) (τ::dk)
theorem xS.h {c:cF}{ops:Array Oper}{E:List (Nat×I)}{L:List aF}{hs:List dz}{os eN ds dk}(h:xS c ops E L hs os eN ds dk):wX c ops E L hs os eN ds dk:=by
 induction h with
 | nil=>simp [wX]
 | cons h1 _ b2=>exact⟨h1,b2⟩
def zQ (l:List Oper):List (List Nat):=l.map fun o=>o.after.toList.filterMap fun e=>match e.ground with | .data=>some e.on | .guard=>some e.on | _=>none
section
variable {c:cF} {E:List (Nat×I)} {L:List aF} {ops:Array Oper} {Q:Exit→Act→World→Prop} {o:Oper}
theorem O7 {τ σ:I}(bA:o.guard=none:=by rfl)(h:bc c E L o τ:=by first | exact aA | exact oq)(n:Nm τ σ:=by first | exact Nm.n (by with_reducible assumption) | exact Nm.i):h4 c ops E L o σ:=h4.v (n.aA h) bA
theorem amO {τ:I}{j g:Nat}{b want:Bool}(bA:o.guard=some (j,want):=by rfl)(aB:(ops[j]?).bind (·.dst)=some g:=by rfl)(ak:look E g=some (.of b):=by rfl)(h:b=want→bc c E L o τ:=by intro hb;first | exact aA | exact oq):
 h4 c ops E L o (.cond (b=want) τ):=h4.g h bA aB ak
theorem aw.fy {ka a:Nat}{l:List Oper}{es:List Nat}{dk:List I}[k:Qj c.P](n:Nat)(bw:J c l.toArray Q (l.drop n) (vq E (rg a n) (zQ (l.take n)) dk) L)(aW:(l[0]?).bind (·.dst)=Option.some a:=by rfl)
 (bQ:xS c l.toArray E L (pP (rg a n) (zQ (l.take n)) dk) l (rg a n) (zQ (l.take n)) dk:=by repeat (first | apply xS.nil | (apply xS.cons; (intro L' aq;first | exact O7 | exact amO))))
 (eC:lB (pP (rg a n) (zQ (l.take n)) dk)=Ch (rg a n) (zQ (l.take n)):=by rfl) (kR:E.map (·.1)=es:=by rfl) (fo:Gv.qc l.toArray n (Ch (rg a n) (zQ (l.take n))) es=true:=by kernel_rfl) (hs:CC (l.take n) (rg a n) c.n=true:=by rfl):aw c Q (.region ka l.toArray true) E L:=
 .ml k.m n (rg a n) (zQ (l.take n)) dk bQ.h bw eC kR fo hs
end
theorem SR {up:List Nat}{i:Nat}{hd:Nat→Hid}{x:Hid} :hG up i (mC hd i x) i=x:=by
 unfold hG mC;simp
def qk (s:Nat)(up:List Nat)(j i:Nat){α:Type}[ah α](z:α):dz:=⟨some s,up,[j],[j],fun hd=>I.bE ((hd i 0).getD 0),fun hd _=>aS ((hd i 0).getD 0) z⟩
inductive Gw (c:cF)(E:List (Nat×I))(L:List aF)(t:TypeId)(x y:Operand)(j:Nat)(e:aF):Prop
 | mk {p:Nat} {β γ:Type} [ah β] [ah γ] {b:β} {v:γ} (l:aK β γ):bO c.P t γ→aN c E L x (.sm p l)→aN c E L y (.of v)→L[j]? =some ⟨some p,.var b⟩→ ⟨some p,.var (l.set b v)⟩=e→Gw c E L t x y j e
 | z {p:Nat} {β:Type} [ah β] {b v:β} :bO c.P t β→aN c E L x (.bE p)→aN c E L y (.of v)→L[j]? =some ⟨some p,.var b⟩→ ⟨some p,.var v⟩=e→Gw c E L t x y j e
section
variable {c:cF} {E:List (Nat×I)} {L:List aF} {ops:Array Oper} {Q:Exit→Act→World→Prop} {o:Oper} {hs:List dz} {np i ba:Nat} {up rd:List Nat} {t ty:TypeId} {pos:String} {af:Array Edge} {x y:Operand}
theorem Y1 {p:Nat}{β:Type}[ah β]{a b:β}(h:some a=some b):(⟨some p,.var a⟩:aF)=⟨some p,.var b⟩:=by cases h;rfl
theorem an4 {p j:Nat}{β γ:Type}[ah β][ah γ]{b:β}{v:γ}{l:aK β γ}{e:aF}[k:bO c.P t γ](al:aN c E L x (.sm p l):=by exact fb)(aR:aN c E L y (.of v):=by first | exact fb | exact look_nil)(h:L[j]? =some ⟨some p,.var b⟩:=by exact aq _ _ rfl rfl)(he:⟨some p,.var (l.set b v)⟩=e:=by first | rfl | exact Y1 (by assumption)):Gw c E L t x y j e:= .mk l k al aR h he
theorem sz {p j:Nat}{β:Type}[ah β]{b v:β}{e:aF}[k:bO c.P t β](al:aN c E L x (.bE p):=by exact fb)(aR:aN c E L y (.of v):=by first | exact fb | exact look_nil)(h:L[j]? =some ⟨some p,.var b⟩:=by exact aq _ _ rfl rfl)(he:⟨some p,.var v⟩=e:=by first | rfl | exact Y1 (by assumption)):Gw c E L t x y j e:= .z k al aR h he
inductive CQ (c:cF)(E:List (Nat×I))(L:List aF)(o:Oper)(σ:I):Prop
 | mk {τ:I} :bc c E L o τ→Nm τ σ→CQ c E L o σ
theorem CQ.h {σ:I}(h:CQ c E L o σ):bc c E L o σ:=by cases h with | mk h n=>exact n.aA h
theorem aH {τ σ:I}(h:bc c E L o τ:=by first | exact aA | exact oq)(n:Nm τ σ:=by first | exact Nm.n (by with_reducible assumption) | exact Nm.i):CQ c E L o σ:= .mk h n
theorem Yo {σ:I}(h:∀ (hd:Nat→Hid) (E':List (Nat×I)) (L':List aF),(∀ t τ,look (kb hd hs E up) t=some τ→look E' t=some τ)→ (∀ j e,(gI (fun _=>true) hd 0 (hs.take i) L)[j]? =some e→rd.contains j=true→L'[j]? =some e)→ (∀ {β:Type} [ah β] (p:Nat) (b:β) {j:Nat},(gI (fun _=>true) hd 0 (hs.take i) L)[j]? =some ⟨some p,.var b⟩→zP L' p b)→L'.drop np=L.drop np→CQ c E' L' o σ:=by intro hd E' L' aE aq th b3;exact aH)
 (bA:o.guard=none:=by rfl) (hd:o.dst=some ba:=by rfl) (aH:Nat.blt ba c.n=true:=by rfl):wV c ops Q hs E L np i o (ay ba up rd σ):=
 fun a b fP d e f=>J.v (h a b fP d e (fun _ _ _ _=>trivial) f).h bA hd aH (J.nil (aj.fin (fun _=>none) rfl rfl))
theorem Yp {τ:I}{j g:Nat}{b want:Bool}(bA:o.guard=some (j,want):=by rfl)(aB:(ops[j]?).bind (·.dst)=some g:=by rfl)(ak:∀ hd,look (kb hd hs E up) g=some (.of b):=by intro hd;rfl)
 (h:∀ (hd:Nat→Hid) (E':List (Nat×I)) (L':List aF),(∀ t τ,look (kb hd hs E up) t=some τ→look E' t=some τ)→ (∀ j e,(gI (fun _=>true) hd 0 (hs.take i) L)[j]? =some e→rd.contains j=true→L'[j]? =some e)→ (∀ {β:Type} [ah β] (p:Nat) (b:β) {j:Nat},(gI (fun _=>true) hd 0 (hs.take i) L)[j]? =some ⟨some p,.var b⟩→zP L' p b)→L'.drop np=L.drop np→b=want→CQ c E' L' o τ:=by intro hd E' L' aE aq th b3 hb;exact aH)
 (hd:o.dst=some ba:=by rfl) (aH:Nat.blt ba c.n=true:=by rfl):wV c ops Q hs E L np i o (ay ba up rd (.cond (b=want) τ)):=
 fun a b' fP d e f=>J.g (fun z=>(h a b' fP d e (fun _ _ _ _=>trivial) f z).h) bA aB (d _ _ (ak a)) hd aH (J.nil (aj.fin (fun _=>none) rfl rfl))
theorem Yq {α:Type}[G1:ah α]{z:α}[gU:dp c.P t z]{s j:Nat}(aB:∀ hd,(gI (fun _=>true) hd 0 (hs.take i) L)[j]? =some ⟨none,.dead⟩:=by intro hd;rfl)(aH:Nat.blt s c.n=true:=by rfl):wV c ops Q hs E L np i ⟨some s,.alloc t,ty,pos,af,none⟩ (qk s up j i z):=
 fun hd E' L' aE aq b3=>.alloc gU aH fun p=>.nil (.place j (aq j _ (aB hd) (by simp [qk])) (.fin (cP [some p]) (by simp [qk,qZ,SR,cP]) (by simp [qk,oQ,SR,cP])))
theorem dst {j:Nat}{e:(Nat→Hid)→aF}(h:∀ (hd:Nat→Hid) (E':List (Nat×I)) (L':List aF),(∀ t τ,look (kb hd hs E up) t=some τ→look E' t=some τ)→ (∀ k e,(gI (fun _=>true) hd 0 (hs.take i) L)[k]? =some e→ [j].contains k=true→L'[k]? =some e)→L'.drop np=L.drop np→Gw c E' L' t x y j (e (hG up i (mC hd i fun _=>none))):=by intro hd E' L' aE aq b3;first | exact an4 | exact sz):
 wV c ops Q hs E L np i ⟨none,.store t x y,ty,pos,af,none⟩ (hA up [j] [j] e):=fun hd E' L' aE aq b3=>by
 cases h hd E' L' aE aq b3 with
 | mk l dP al aR h1 ab=>exact .store l dP al aR h1 rfl rfl (.nil (.fin (fun _=>none) rfl (congrArg (L'.set j) ab)))
 | z dP al aR h1 ab=>exact .store (aK.id _) dP al aR h1 rfl rfl (.nil (.fin (fun _=>none) rfl (congrArg (L'.set j) ab)))
end
inductive tp (c:cF)(ops:Array Oper)(Q:Exit→Act→World→Prop)(hs:List dz)(E:List (Nat×I))(L:List aF)(np:Nat):Nat→List Oper→List dz→Prop
 | nil {i} :tp c ops Q hs E L np i [] []
 | cons {i o os h r} :wV c ops Q hs E L np i o h→tp c ops Q hs E L np (i+1) os r→tp c ops Q hs E L np i (o::os) (h::r)
theorem tp.h {c:cF}{ops:Array Oper}{Q:Exit→Act→World→Prop}{hs:List dz}{E:List (Nat×I)}{L:List aF}{np i:Nat}{os r}(h:tp c ops Q hs E L np i os r):pg c ops Q hs E L np i os r:=by
 induction h with
 | nil=>simp [pg]
 | cons h1 _ b2=>exact⟨h1,b2⟩
section
variable {c:cF} {E:List (Nat×I)} {L:List aF} {Q:Exit→Act→World→Prop} {ka:Nat} {l:List Oper} {ds:List (Option Nat×List Nat×List Nat×List Nat)} {es:List Nat} [Ql:Qj c.P] (np:Nat) (hs:List dz)
include Ql
theorem aw.vZ (bw:∀ hd,aj c Q .normal (h9 (fun _=>true) hd E 0 hs) (gI (fun _=>true) hd 0 hs L))(bQ:tp c l.toArray Q hs E L np 0 l hs:=by repeat (first | apply tp.nil | (apply tp.cons;first | exact Yq | exact dst | exact Yo | exact Yp)))
 (eC:lB hs=ds:=by rfl) (kR:E.map (·.1)=es:=by rfl) (fo:Gv.qc l.toArray l.length ds es=true:=by kernel_rfl) (hw:(ds.all fun d=>d.2.2.2.all fun j=>Nat.blt j np)=true:=by kernel_rfl):aw c Q (.region ka l.toArray true) E L:= .Qd np Ql.m hs es bQ.h bw eC kR fo hw
theorem aw.cn {K:Prop}(k:K)(bw:∀ hd,aj c Q .normal (h9 (fun _=>true) hd E 0 hs) (gI (fun _=>true) hd 0 hs L))(bQ:Ad K→tp c l.toArray Q hs E L np 0 l hs:=by intro k;repeat (first | apply tp.nil | (apply tp.cons;first | exact Yq | exact dst | exact Yo | exact Yp | exact k.k.1 | exact k.k.2.1 | exact k.k.2.2.1 | exact k.k.2.2.2.1 | exact k.k.2.2.2.2.1 | exact k.k.2.2.2.2.2.1 | exact k.k.2.2.2.2.2.2.1 | exact k.k.2.2.2.2.2.2.2.1 | exact k.k.2.2.2.2.2.2.2.2.1 | exact k.k.2.2.2.2.2.2.2.2.2.1 | exact k.k.2.2.2.2.2.2.2.2.2.2.1 | exact k.k.2.2.2.2.2.2.2.2.2.2.2.1 | exact k.k.2.2.2.2.2.2.2.2.2.2.2.2.1 | exact k.k.2.2.2.2.2.2.2.2.2.2.2.2.2.1)))
 (eC:lB hs=ds:=by rfl) (kR:E.map (·.1)=es:=by rfl) (fo:Gv.qc l.toArray l.length ds es=true:=by kernel_rfl) (hw:(ds.all fun d=>d.2.2.2.all fun j=>Nat.blt j np)=true:=by kernel_rfl):aw c Q (.region ka l.toArray true) E L:= .Qd np Ql.m hs es (bQ ⟨k⟩).h bw eC kR fo hw
end
theorem go {G:Prop} (h:G:=by
 repeat (first
 | (change J _ _ _ (_::_) _ _
    first
    | ((with_reducible refine alx h ?_);refine Xn ?_; (try clear h);intro dY Qm h;have Af:=True.intro) | ((with_reducible refine aly h ?_);refine Xn ?_; (try clear h);intro dY Qm h;have Af:=True.intro)
    | (apply alo;refine als ?_;intro dY) | (apply alp;refine alu ?_;intro dY)
    | (apply alq;first | refine alv ?_ | refine alw ?_)
    | (apply Xl; (first | (with_reducible refine Yn h ?_) | (with_reducible refine Xo h ?_)); (try clear h); (intro dY Qm h;have Af:=True.intro);first | (refine Gt ?_ (h:=by exact oq);change J _ _ _ _ ((_,I.bE dY)::_) _) | (refine Gu ?_ (h:=by intro hb;exact oq);change J _ _ _ _ ((_,I.cond _ (I.bE dY))::_) _))
    | ((first | apply Xl | apply Xm);first | refine Gt ?_ (h:=by exact oq) | refine Gu ?_ (h:=by intro hb;exact oq))
    | ((first | apply alh | apply ali | apply aiz | apply Xm); (first | (with_reducible refine Yn h ?_) | (with_reducible refine Xo h ?_)); (try clear h); (intro dY Qm h;have Af:=True.intro);first | refine Gt ?_ (h:=by exact oq) | refine Gu ?_ (h:=by intro hb;exact oq))
    | refine Gt ?_ | refine Gu ?_ | refine alj ?_ | refine Gt ?_ (h:=by exact oq) | refine Gu ?_ (h:=by intro hb;exact oq))
 | (change J _ _ _ [] _ _
    first | apply jF | apply hX | apply cv | apply J.nil)
 | (change aw _ _ _ _ _
    first | apply cm | (apply alr;first | ((with_reducible have Af:=amJ h);refine nH h ?_ ?_ <;> ((try clear h);intro h)) | ((with_reducible have Af:=amK h);refine xp h ?_ ?_ <;> ((try clear h);intro h))) | apply l8 | apply aw.seq | apply aw.block | apply aw.fv | apply aw.ret | apply aw.exit | apply aw.skip)
 | (change aj _ _ _ _ _
    first | apply aj.next | apply aj.ret | apply aj.exit | apply aj.nC | apply aj.mP | apply aj.p8 | refine aj.afX rfl ?_ | (cases h;first | exact amM | exact amN | exact alm | exact aln | exact asg | exact ash | exact alk | exact ib () 0 | exact ib () 1 | exact ib () 2 | exact ib () 3 | exact ha () 0 | exact ha () 1 | exact ha () 2 | exact ha () 3 | exact dQ 0 (hm ()) | exact dQ 1 (hm ()) | exact dQ 2 (hm ())))
 | ((first | ((guard_hyp Af); (clear Af);revert h) | skip); (repeat (revert dY));first | exact aL.k | exact bz.k | exact cR.k | exact hh.k | exact ox.k | exact rj.k))):G:=h
theorem aM {G K:Prop}(k:K)(h:Ad K→G:=by intro aL;exact go):G:=h ⟨k⟩
theorem go2 {G K e9:Prop}(k:K)(k':e9)(h:Ad K→Ad e9→G:=by intro aL bz;exact go):G:=h ⟨k⟩ ⟨k'⟩
theorem OL {G K e9 zZ:Prop}(k:K)(k':e9)(amP:zZ)(h:Ad K→Ad e9→Ad zZ→G:=by intro aL bz cR;exact go):G:=h ⟨k⟩ ⟨k'⟩ ⟨amP⟩
theorem bO.i {P:Program}{t:TypeId}{α:Type}[ah α]{d:TypeDesc}(hu:P.underlying t=some d)(aW:(match (motive:=TypeDesc→Bool) d with | .struct _ | .array _ _=>true | _=>false)=ah.agg α:=by rfl)(hs:(P.info? t).map (·.size)=some (ah.size α):=by kernel_rfl):bO P t α:=bO.of aW hu hs
theorem dp.i {P:Program}{t:TypeId}{α:Type}[ah α][Inhabited α][a6 α](h:(P.info? t).bind (·.zero)=some (JH α):=by kernel_rfl):dp P t (default:α):=dp.of h
theorem cq.i {P:Program}{s f:Nat}{β γ:Type}[ah β][ah γ]{l:aK β γ}{fs:Array Field}{fd:Field}(hu:P.underlying s=some (.struct fs))(aT:fs[f]? =some fd)(dP:bO P fd.type γ)(bg:fd.offset=l.off:=by rfl)(hs:Nat.beq (ah.size γ) 0=false:=by rfl):cq P s f l:=⟨xv.of hu aT bg dP hs⟩
theorem bM.i {P:Program}{f:FuncId}{fn:Func}(h:P.funcs[f]? =some fn)(ab:fn.body.isNone=false:=by rfl)(ax:(fn.name== "runtime.NumGoroutine")=false:=by kernel_rfl):bM P f:=⟨fn,h,ab,ax⟩
theorem fX.i {P:Program}{t:TypeId}{pl:Array (Nat×Nat)}{fs:Array Field}(h:P.underlying t=some (.struct fs))(ab:fs.all (fun f=>(P.info? f.type).isSome)=true:=by kernel_rfl)(ax:(fs.map fun f=>(f.offset,P.cellsOf f.type))=pl:=by kernel_rfl):fX P t pl:=⟨fs,h,ab,ax⟩
end Gv
