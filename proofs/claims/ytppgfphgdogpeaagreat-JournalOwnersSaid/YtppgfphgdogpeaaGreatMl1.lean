/-
  The library of the decompiler, as far as it is needed here. Conditions: none.
-/
import Derived.Lib.AppendZerosOnto
import Derived.Lib.Overlaps
import Derived.MapKept
import Derived.Test.YtppgfphgdogpeaaGreatMl0
set_option linter.unusedVariables false
set_option linter.unusedSimpArgs false
namespace Gv
open Go
abbrev Hid:=Nat→Option Nat
def cV (l:List (Option Nat)):Hid:=fun i=>(l[i]?).getD none
structure eC where
 slot:Option Nat
 up:List Nat
 rd:List Nat
 wr:List Nat
 τ:(Nat→Hid)→I
 ej:(Nat→Hid)→Nat→aR
def iC (up:List Nat)(i:Nat)(hd:Nat→Hid):Nat→Hid:=fun j=>bif Nat.beq j i||up.any (fun k=>Nat.beq k j) then hd j else fun _=>none
def oI (hd:Nat→Hid)(i:Nat)(x:Hid):Nat→Hid:=fun j=>bif Nat.beq j i then x else hd j
theorem aaF {up:List Nat}{i:Nat}{hd hd':Nat→Hid}(h:hd i=hd' i)(dc:∀ k∈up,hd k=hd' k):iC up i hd=iC up i hd':=by
 funext j;unfold iC;cases h1:Nat.beq j i
 ·cases ae:up.any (fun k=>Nat.beq k j)
  ·rfl
  obtain⟨k,hk,he⟩:=List.any_eq_true.1 ae;have:=fm.1 he;subst this;simp only [Bool.false_or,cond_true];exact dc k hk
 have:=fm.1 h1;subst this;simp only [Bool.true_or,cond_true];exact h
def pC:List aR→ (Nat→aR)→List Nat→List aR
 | L,_,[]=>L
 | L,f,j::r=>pC (L.set j (f j)) f r
theorem QY:∀ {L:List aR} {f:Nat→aR} {js:List Nat},(pC L f js).length=L.length
 | _,_,[]=>rfl
 | L,f,j::r=>by rw [pC,QY,List.length_set]
theorem L1:∀ {L:List aR} {f:Nat→aR} {js:List Nat} (i:Nat),(pC L f js)[i]? =if js.contains i=true then L[i]?.map (fun _=>f i) else L[i]?
 | _,_,[],i=>by simp [pC]
 | L,f,j::r,i=>by
   rw [pC,L1 i];by_cases h:j=i
   ·subst h;simp only [List.contains_cons,BEq.rfl,Bool.true_or,if_true,List.getElem?_set];by_cases ao:j<L.length
    ·simp [ao]
    simp [ao]
   have hb:(i==j)=false:=by simp;exact fun e=>h e.symm
   rw [List.contains_cons,hb,Bool.false_or,List.getElem?_set_ne h]
def jt (ls:Nat→Bool)(hd:Nat→Hid):Nat→List eC→List aR→List aR
 | _,[],L=>L
 | k,h::r,L=>jt ls hd (k+1) r (bif ls k then pC L (h.ej (iC h.up k hd)) h.wr else L)
def jN (ls:Nat→Bool)(hd:Nat→Hid)(E:List (Nat×I)):Nat→List eC→List (Nat×I)
 | _,[]=>E
 | k,h::r=>match ls k,h.slot with
   | true,some s=>(s,h.τ (iC h.up k hd))::jN ls hd E (k+1) r
   | _,_=>jN ls hd E (k+1) r
def n0 (ls:Nat→Bool)(hd:Nat→Hid)(j:Nat):Nat→List eC→Option aR→Option aR
 | _,[],v=>v
 | k,h::r,v=>n0 ls hd j (k+1) r (bif ls k&&h.wr.contains j then v.map (fun _=>h.ej (iC h.up k hd) j) else v)
theorem IZ {ls:Nat→Bool}{hd:Nat→Hid}(j:Nat):∀ {k:Nat} {hs:List eC} {L:List aR},(jt ls hd k hs L)[j]? =n0 ls hd j k hs L[j]?
 | _,[],_=>rfl
 | k,h::r,L=>by
   rw [jt,n0,IZ j];congr 1;cases ls k
   ·rfl
   simp only [cond_true,Bool.true_and];rw [L1];cases h.wr.contains j <;> rfl
theorem LN {ls:Nat→Bool}{hd:Nat→Hid}{j:Nat} :∀ {k:Nat} {hs:List eC} {v:Option aR},(∀ m h,hs[m]? =some h→h.wr.contains j=true→ls (k+m)=false)→n0 ls hd j k hs v=v
 | _,[],_,_=>rfl
 | k,h::r,v,aQ=>by
   rw [n0,LN fun m x hm ar=>by have:=aQ (m+1) x (by simpa using hm) ar;rw [← this];congr 1;omega];cases hw:h.wr.contains j
   ·simp
   have:=aQ 0 h rfl hw;simp only [Nat.add_zero] at this;rw [this];rfl
theorem Lz {ls:Nat→Bool}{hd:Nat→Hid}{j:Nat} :∀ {k:Nat} {hs rs:List eC} {v:Option aR},n0 ls hd j k (hs++rs) v=n0 ls hd j (k+hs.length) rs (n0 ls hd j k hs v)
 | _,[],_,_=>rfl
 | k,h::r,rs,v=>by
   rw [List.cons_append,n0,Lz,n0,List.length_cons];congr 1;omega
theorem H9 {ls ls':Nat→Bool}{hd hd':Nat→Hid}{j:Nat} :∀ {k:Nat} {hs:List eC} {v:Option aR},(∀ m h,hs[m]? =some h→h.wr.contains j=true→ls (k+m)=ls' (k+m)∧ (ls (k+m)=true→iC h.up (k+m) hd=iC h.up (k+m) hd'))→n0 ls hd j k hs v=n0 ls' hd' j k hs v
 | _,[],_,_=>rfl
 | k,h::r,v,aQ=>by
   have cA:=H9 (ls:=ls) (ls':=ls') (hd:=hd) (hd':=hd') (j:=j) (k:=k+1) (hs:=r) (v:=bif ls k&&h.wr.contains j then v.map (fun _=>h.ej (iC h.up k hd) j) else v) fun m x hm ar=>by
    have:=aQ (m+1) x (by simpa using hm) ar;rw [show k+1+m=k+(m+1) by omega];exact this
   rw [n0,n0,cA];congr 1;cases hw:h.wr.contains j
   ·simp
   have:=aQ 0 h rfl hw;simp only [Nat.add_zero] at this;rw [← this.1];cases ao:ls k
   ·rfl
   rw [this.2 ao]
theorem LO {ls:Nat→Bool}{hd:Nat→Hid}{E:List (Nat×I)}{t:Nat} :∀ {k:Nat} {hs:List eC},(∀ (m:Nat) (h:eC),hs[m]? =some h→ls (k+m)=true→h.slot≠some t)→look (jN ls hd E k hs) t=look E t
 | _,[],_=>rfl
 | k,h::r,aQ=>by
   have cA:=LO (ls:=ls) (hd:=hd) (E:=E) (t:=t) (k:=k+1) (hs:=r) fun m x hm ao=>aQ (m+1) x (by simpa using hm) (by rw [← ao];congr 1;omega);unfold jN;split
   ·rename_i s h1 ae;have dC:Nat.beq s t=false:=by
     cases hb:Nat.beq s t
     ·rfl
     have:=fm.1 hb;subst this;exact absurd ae (aQ 0 h rfl h1)
    simp only [look,dC,cond_false];exact cA
   exact cA
theorem L3 {ls:Nat→Bool}{hd:Nat→Hid}{E:List (Nat×I)}{s:Nat} :∀ {k:Nat} {hs:List eC} {j:Nat} {h:eC},hs[j]? =some h→ls (k+j)=true→h.slot=some s→ (∀ m x,hs[m]? =some x→x.slot=some s→m=j)→look (jN ls hd E k hs) s=some (h.τ (iC h.up (k+j) hd))
 | _,[],_,_,h,_,_,_=>by simp at h
 | k,x::r,0,h,aF,ao,hs,_=>by
   simp only [List.getElem?_cons_zero,Option.some.injEq] at aF;subst aF;simp only [Nat.add_zero] at ao;unfold jN;rw [ao,hs];simp [look,Nat.beq_refl]
 | k,x::r,j+1,h,aF,ao,hs,hu=>by
   have cA:=L3 (ls:=ls) (hd:=hd) (E:=E) (s:=s) (k:=k+1) (hs:=r) (j:=j) (h:=h) (by simpa using aF) (by rw [← ao];congr 1;omega) hs fun m y hm a1=>by
    have:=hu (m+1) y (by simpa using hm) a1;omega
   rw [show k+1+j=k+(j+1) by omega] at cA;unfold jN;split
   ·rename_i cD h1 ae;have dC:Nat.beq cD s=false:=by
     cases hb:Nat.beq cD s
     ·rfl
     have:=fm.1 hb;subst this;have:=hu 0 x rfl ae;omega
    simp only [look,dC,cond_false];exact cA
   exact cA
theorem RZ {ls:Nat→Bool}{hd:Nat→Hid}{E:List (Nat×I)}{t:Nat}{τ:I} :∀ {k:Nat} {hs:List eC},look (jN ls hd E k hs) t=some τ→ (∃ (j:Nat) (h:eC),hs[j]? =some h∧ls (k+j)=true∧h.slot=some t∧τ=h.τ (iC h.up (k+j) hd))∨ (look E t=some τ∧ ∀ (m:Nat) (h:eC),hs[m]? =some h→ls (k+m)=true→h.slot≠some t)
 | _,[],h=>.inr ⟨h,fun m h hm=>by simp at hm⟩
 | k,x::r,h=>by
   unfold jN at h;have go:(ls k=true→x.slot≠some t)→look (jN ls hd E (k+1) r) t=some τ→ (∃ (j:Nat) (h:eC),(x::r)[j]? =some h∧ls (k+j)=true∧h.slot=some t∧τ=h.τ (iC h.up (k+j) hd))∨ (look E t=some τ∧ ∀ (m:Nat) (h:eC),(x::r)[m]? =some h→ls (k+m)=true→h.slot≠some t):=fun ar h=>by
    rcases RZ h with⟨j,y,h1,ae,aA,aV⟩ | ⟨h1,ae⟩
    ·exact .inl ⟨j+1,y,by simpa using h1,by rw [← ae];congr 1;omega,aA,by rw [aV];congr 2;omega⟩
    refine .inr ⟨h1,fun m y hm ao=>?_⟩;cases m with
    | zero=>simp only [List.getElem?_cons_zero,Option.some.injEq] at hm;subst hm;exact ar ao
    | succ m=>exact ae m y (by simpa using hm) (by rw [← ao];congr 1;omega)
   split at h
   ·rename_i s h1 ae;simp only [look] at h;by_cases e:Nat.beq s t=true
    ·rw [e] at h;simp only [cond_true,Option.some.injEq] at h;have:=fm.1 e;subst this;exact .inl ⟨0,x,rfl,h1,ae,h.symm⟩
    rw [Bool.not_eq_true] at e;rw [e] at h;exact go (fun _ j2=>by rw [ae] at j2;cases j2;rw [Nat.beq_refl] at e;cases e) h
   rename_i gF;exact go (fun ao j2=>gF t ao j2) h
def lX (hd:Nat→Hid)(hs:List eC)(E:List (Nat×I)):List Nat→List (Nat×I)
 | []=>E
 | j::r=>match hs[j]? with
   | some h=>match h.slot with
     | some s=>(s,h.τ (iC h.up j hd))::lX hd hs E r
     | none=>lX hd hs E r
   | none=>lX hd hs E r
theorem SY {hd:Nat→Hid}{hs:List eC}{E:List (Nat×I)}{t:Nat}{τ:I} :∀ {ds:List Nat},look (lX hd hs E ds) t=some τ→ (∃ j∈ds,∃ h:eC,hs[j]? =some h∧h.slot=some t∧τ=h.τ (iC h.up j hd))∨look E t=some τ
 | [],h=>.inr h
 | j::r,h=>by
   have go:look (lX hd hs E r) t=some τ→ (∃ i∈j::r,∃ h:eC,hs[i]? =some h∧h.slot=some t∧τ=h.τ (iC h.up i hd))∨look E t=some τ:=fun h=>by
    rcases SY h with⟨i,h1,ae⟩ | h1
    ·exact .inl ⟨i,by simp [h1],ae⟩
    exact .inr h1
   unfold lX at h;split at h
   ·rename_i x ar;split at h
    ·rename_i s sl;simp only [look] at h;by_cases e:Nat.beq s t=true
     ·rw [e] at h;simp only [cond_true,Option.some.injEq] at h;have:=fm.1 e;subst this;exact .inl ⟨j,by simp,x,ar,sl,h.symm⟩
     simp only [Bool.not_eq_true] at e;rw [e] at h;exact go h
    exact go h
   exact go h
def zh (E:List (Nat×I))(v:Value):List Nat→Prop
 | []=>True
 | s::r=>look E s=some (.eq v)∧zh E v r
theorem zh.get {E:List (Nat×I)}{v:Value} :∀ {fL:List Nat},zh E v fL→ ∀ s∈fL,look E s=some (.eq v)
 | _::_,h,s,hs=>by
   rcases List.mem_cons.1 hs with rfl | hs
   ·exact h.1
   exact zh.get h.2 s hs
def CE (τ:I)(E:List (Nat×I)):List Nat→List (Nat×I)
 | []=>E
 | s::r=>(s,τ)::CE τ E r
theorem R0 {τ:I}{E:List (Nat×I)}{t:Nat}{σ:I} :∀ {fL:List Nat},look (CE τ E fL) t=some σ→ (t∈fL∧σ=τ)∨look E t=some σ
 | [],h=>.inr h
 | s::r,h=>by
   simp only [CE,look] at h;by_cases e:Nat.beq s t=true
   ·rw [e] at h;simp only [cond_true,Option.some.injEq] at h;have:=fm.1 e;subst this;exact .inl ⟨by simp,h.symm⟩
   simp only [Bool.not_eq_true] at e;rw [e] at h;rcases R0 h with⟨h1,ae⟩ | h1
   ·exact .inl ⟨by simp [h1],ae⟩
   exact .inr h1
def zy {w:Nat}(a b:BitVec w):BitVec w:=if a≤b then a else b
def sh:Option Nat→I→List (Nat×I)→List (Nat×I)
 | some s,τ,E=>(s,τ)::E
 | none,_,E=>E
section
variable {c:dy} {E:List (Nat×I)} {L:List aR} {ops:Array Oper} {Q:Exit→Act→World→Prop}
theorem bN.nL {a:Act}{W:World}{α:Type}[aj α]{i cap T:Nat}{fL:List Nat}{key:Option Nat}{xs:List α}(h:bN c E L a W)(ao:zh E (aS key xs.length cap) fL)(al:L[i]? =some ⟨key,.row T xs cap⟩):
 bN c (CE (.of xs) E fL) (L.set i ⟨none,.dead⟩) a W:=by
 have hk:=h.kill i
 refine { hk with env:=fun t τ ft=>?_ }
 rcases R0 ft with⟨hm,rfl⟩ | h1
 ·obtain⟨v,h1,ae⟩:=h.env t _ (ao.get t hm)
  refine⟨v,h1,pj.2 ?_⟩
  have mA:v=aS key xs.length cap:=ae
  subst mA
  have bp:=h.own _ (List.mem_of_getElem? al)
  cases key with
  | none=>exact .inl ⟨rfl,bp.1⟩
  | some p=>
    obtain⟨o,fC,cs,rfl,ed,aQ,zH,aI⟩:=bp
    obtain⟨aA,aV⟩:=Ly ed aQ aI
    refine .inr ⟨p,0,cap,cs,T,(0,0),rfl,h.Et al,fC,aQ,by omega,aA,?_⟩
    have nZ:=A5 (L:=L) (i:=i) (cp:= .dead)
    exact aV.mono (.drop fun k hm=>by
     rcases List.mem_append.1 hm with hm | hm
     ·exact List.mem_append.2 (.inl (nZ.subset hm))
     exact List.mem_append.2 (.inr hm))
 exact hk.env t τ h1
theorem ab.nL {l:List Oper}{α:Type}[aj α]{key:Option Nat}{xs:List α}{cap T:Nat}(i:Nat)(fL:List Nat)(ao:zh E (aS key xs.length cap) fL)(al:L[i]? =some ⟨key,.row T xs cap⟩)
 (k:ab c ops Q l (CE (.of xs) E fL) (L.set i ⟨none,.dead⟩)):ab c ops Q l E L:=fun a W st=>k a W (st.nL ao al)
theorem ad.nL {x:Exit}{α:Type}[aj α]{key:Option Nat}{xs:List α}{cap T:Nat}(i:Nat)(fL:List Nat)(ao:zh E (aS key xs.length cap) fL)(al:L[i]? =some ⟨key,.row T xs cap⟩)
 (k:ad c Q x (CE (.of xs) E fL) (L.set i ⟨none,.dead⟩)):ad c Q x E L:=fun a W st=>k a W (st.nL ao al)
def bY (c:dy)(ops:Array Oper)(Q:Exit→Act→World→Prop)(hs:List eC)(E:List (Nat×I))(L:List aR)(i:Nat)(o:Oper)(h:eC):Prop:=
 ∀ (hd:Nat→Hid) (E':List (Nat×I)) (L':List aR),(∀ t τ,look (lX hd hs E h.up) t=some τ→look E' t=some τ)→
   (∀ j e,(jt (fun _=>true) hd 0 (hs.take i) L)[j]? =some e→h.rd.contains j=true→L'[j]? =some e)→
   ab c ops (qH (fun a W=> ∃ x,bN c (sh h.slot (h.τ (iC h.up i (oI hd i x))) E') (pC L' (h.ej (iC h.up i (oI hd i x))) h.wr) a W) Q) [o] E' L'
def ET (c:dy)(ops:Array Oper)(Q:Exit→Act→World→Prop)(hs:List eC)(E:List (Nat×I))(L:List aR):Nat→List Oper→List eC→Prop
 | _,[],[]=>True
 | i,o::os,h::r=>bY c ops Q hs E L i o h∧ET c ops Q hs E L (i+1) os r
 | _,_,_=>False
theorem Rf {ls ls':Nat→Bool}{hd:Nat→Hid} :∀ {k:Nat} {hs:List eC},(∀ m,m<hs.length→ls (k+m)=ls' (k+m))→jN ls hd E k hs=jN ls' hd E k hs
 | _,[],_=>rfl
 | k,h::r,aQ=>by
   have cA:=Rf (ls:=ls) (ls':=ls') (hd:=hd) (k:=k+1) (hs:=r) fun m hm=>by
    have:=aQ (m+1) (by simp;omega);rw [show k+1+m=k+(m+1) by omega];exact this
   have bH:=aQ 0 (by simp);simp only [Nat.add_zero] at bH;unfold jN;rw [bH,cA]
theorem R1 {ls ls':Nat→Bool}{hd:Nat→Hid} :∀ {k:Nat} {hs:List eC} {L:List aR},(∀ m,m<hs.length→ls (k+m)=ls' (k+m))→jt ls hd k hs L=jt ls' hd k hs L
 | _,[],_,_=>rfl
 | k,h::r,L,aQ=>by
   have bH:=aQ 0 (by simp);simp only [Nat.add_zero] at bH;rw [jt,jt,bH];exact R1 fun m hm=>by
    have:=aQ (m+1) (by simp;omega);rw [show k+1+m=k+(m+1) by omega];exact this
def oJ (hs:List eC):List (Option Nat×List Nat×List Nat×List Nat):=hs.map fun h=>(h.slot,h.up,h.rd,h.wr)
theorem Mq {hs:List eC}{i:Nat}{h:eC}(au:hs[i]? =some h):(oJ hs)[i]? =some (h.slot,h.up,h.rd,h.wr):=by simp [oJ,au]
def MX (c:dy)(ops:Array Oper)(Q:Exit→Act→World→Prop)(hs:List eC)(E:List (Nat×I))(L:List aR)(np:Nat)(i:Nat)(o:Oper)(h:eC):Prop:=
 ∀ (hd:Nat→Hid) (E':List (Nat×I)) (L':List aR),(∀ t τ,look (lX hd hs E h.up) t=some τ→look E' t=some τ)→
   (∀ j e,(jt (fun _=>true) hd 0 (hs.take i) L)[j]? =some e→h.rd.contains j=true→L'[j]? =some e)→L'.drop np=L.drop np→
   ab c ops (qH (fun a W=> ∃ x,bN c (sh h.slot (h.τ (iC h.up i (oI hd i x))) E') (pC L' (h.ej (iC h.up i (oI hd i x))) h.wr) a W) Q) [o] E' L'
def sN (c:dy)(ops:Array Oper)(Q:Exit→Act→World→Prop)(hs:List eC)(E:List (Nat×I))(L:List aR)(np:Nat):Nat→List Oper→List eC→Prop
 | _,[],[]=>True
 | i,o::os,h::r=>MX c ops Q hs E L np i o h∧sN c ops Q hs E L np (i+1) os r
 | _,_,_=>False
theorem sN.get {hs:List eC}{np:Nat} :∀ {k:Nat} {os:List Oper} {rs:List eC},sN c ops Q hs E L np k os rs→ ∀ i h o,rs[i]? =some h→os[i]? =some o→MX c ops Q hs E L np (k+i) o h
 | k,[],[],_,i,h,o,au,_=>by simp at au
 | k,alA::os,bH::r,cB,i,h,o,au,bp=>by
   cases i with
   | zero=>
     simp only [List.getElem?_cons_zero,Option.some.injEq] at au bp
     subst au;subst bp;exact cB.1
   | succ i=>
     have:=sN.get cB.2 i h o (by simpa using au) (by simpa using bp)
     rw [show k+1+i=k+(i+1) by omega] at this
     exact this
 | k,[],_::_,cB,_,_,_,_,_=>cB.elim
 | k,_::_,[],cB,_,_,_,_,_=>cB.elim
theorem ET.Ge {hs:List eC}{np:Nat} :∀ {k:Nat} {os:List Oper} {rs:List eC},ET c ops Q hs E L k os rs→sN c ops Q hs E L np k os rs
 | _,[],[],_=>trivial
 | _,_::_,_::_,h=>⟨fun hd E' L' h1 ae _=>h.1 hd E' L' h1 ae,ET.Ge h.2⟩
 | _,[],_::_,h=>h.elim
 | _,_::_,[],h=>h.elim
theorem RD {n:Nat} :∀ {L:List aR} {f:Nat→aR} {js:List Nat},(∀ j∈js,j<n∨L.length≤j)→ (pC L f js).drop n=L.drop n
 | _,_,[],_=>rfl
 | L,f,j::r,h=>by
   rw [pC,RD (fun k hk=>by rw [List.length_set];exact h k (by simp [hk]))];rcases h j (by simp) with h1 | h1
   ·rw [List.drop_set_of_lt h1]
   rw [List.set_eq_of_length_le h1]
theorem Mr {ls:Nat→Bool}{hd:Nat→Hid}{n:Nat} :∀ {k:Nat} {hs:List eC} {L:List aR},(∀ h∈hs,∀ j∈h.wr,j<n∨L.length≤j)→ (jt ls hd k hs L).drop n=L.drop n
 | _,[],_,_=>rfl
 | k,h::r,L,hw=>by
   rw [jt];cases ao:ls k
   ·exact Mr fun x ar=>hw x (by simp [ar])
   simp only [cond_true];rw [Mr (fun x ar j aF=>by rw [QY];exact hw x (by simp [ar]) j aF),RD (hw h (by simp))]
theorem U0 {hs:List eC}{ds:List (Option Nat×List Nat×List Nat×List Nat)}{np:Nat}(gv:oJ hs=ds)(h:(ds.all fun d=>d.2.2.2.all fun j=>Nat.blt j np)=true):∀ h∈hs,∀ j∈h.wr,j<np∨L.length≤j:=fun x ar j aF=>by
 subst gv;have h1:=List.all_eq_true.1 h (x.slot,x.up,x.rd,x.wr) (List.mem_map.2 ⟨x,ar,rfl⟩);have ae:=List.all_eq_true.1 h1 j aF;exact .inl (Nat.blt_eq.mp ae)
theorem ad.fin {slot:Option Nat}{up wr:List Nat}{i:Nat}{hd:Nat→Hid}{τ:(Nat→Hid)→I}{ej:(Nat→Hid)→Nat→aR}{E' wi:List (Nat×I)}{L' L2:List aR}(x:Hid)(an:wi=sh slot (τ (iC up i (oI hd i x))) E')(al:L2=pC L' (ej (iC up i (oI hd i x))) wr):
 ad c (qH (fun a W=> ∃ x,bN c (sh slot (τ (iC up i (oI hd i x))) E') (pC L' (ej (iC up i (oI hd i x))) wr) a W) Q) .normal wi L2:=fun a W s=>by
 subst an al
 exact⟨x,s⟩
theorem ad.place {z:Exit}{e:aR}(j:Nat)(aF:L[j]? =some ⟨none,.dead⟩)(k:ad c Q z E (L.set j e)):ad c Q z E (e::L):=fun a W s=>by
 refine k a W (s.sub (fun x ar=>?_) ?_)
 ·rcases List.mem_or_eq_of_mem_set ar with h | h
  ·exact List.mem_cons.2 (.inr h)
  exact List.mem_cons.2 (.inl h)
 have h1:=wU aF;have ae:(L.set j e).Perm (e::L.eraseIdx j):=by
  have aA:(L.set j e)[j]? =some e:=by rw [List.getElem?_set_self (List.getElem?_eq_some_iff.1 aF).1]
  have aV:=wU aA;rwa [List.eraseIdx_set_eq] at aV
 have bc:=yT (h1.cons e);have bs:aT (e::⟨none,.dead⟩::L.eraseIdx j)=aT (e::L.eraseIdx j):=by cases hk:e.key <;> simp [aT,hk]
 rw [bs] at bc;exact(yT ae).nodup_iff.2 (bc.nodup_iff.1 s.nodup)
theorem ad.back {z:Exit}{e h3:aR}(j:Nat)(aF:L[j]? =some h3)(k:ad c Q z E (L.set j e)):ad c Q z E (e::L.eraseIdx j):=fun a W s=>by
 have aA:(L.set j e)[j]? =some e:=by rw [List.getElem?_set_self (List.getElem?_eq_some_iff.1 aF).1]
 have aV:=wU aA;rw [List.eraseIdx_set_eq] at aV;exact k a W (s.perm aV.symm)
theorem ag.o3 {z:Code}(n:Nat)(k:ag c Q z E (L++List.replicate n ⟨none,.dead⟩)):ag c Q z E L:=fun a W s=>by
 refine k a W ?_;have hk:aT (L++List.replicate n ⟨none,.dead⟩)=aT L:=by
  rw [fG];have:∀ n,aT (List.replicate n (⟨none,.dead⟩:aR))= []:=fun n=>by
   induction n with
   | zero=>rfl
   | succ n cA=>rw [List.replicate_succ];simp [aT,cA]
  rw [this,List.append_nil]
 exact
 {defers:=s.defers
  size:=s.size
  env:=fun t τ ao=>by rw [hk];exact s.env t τ ao
  eh:=s.eh
  own:=fun e he=>by
   rw [hk];rcases List.mem_append.1 he with he | he
   ·exact s.own e he
   rw [(List.mem_replicate.1 he).2];trivial
  nodup:=by rw [hk];exact s.nodup
  lt:=by rw [hk];exact s.lt
  hf:=by rw [hk];exact s.hf
  fB:=by rw [hk];exact s.fB }
theorem ag.B7 {z:Code}(n m:Nat)(k:ag c Q z E (L.take m++(List.replicate n ⟨none,.dead⟩++L.drop m))):ag c Q z E L:=by
 refine ag.o3 n fun a W s=>k a W (s.perm ?_);have e:L=L.take m++L.drop m:=(List.take_append_drop m L).symm;conv=>lhs;rw [e]
 rw [List.append_assoc];exact List.perm_append_comm.append_left _
theorem ad.eN {z:Exit}{L2:List aR}(h:L=L2)(k:ad c Q z E L2):ad c Q z E L:=by subst h;exact k
theorem ad.p6 {z:Exit}{key:Option Nat}{n m cap:Nat}(gH:Nat)(ao:look E gH=some (.eq (aS key n cap)))(aQ:n=m)(k:ad c Q z ((gH,.eq (aS key m cap))::E) L):ad c Q z E L:=fun a W s=>by
 subst aQ;refine k a W (s.less fun t τ h=>?_);simp only [look] at h;by_cases e:Nat.beq gH t=true
 ·rw [e] at h;simp only [cond_true] at h;have:=fm.1 e;subst this;exact⟨τ,by rw [ao,h],fun _ _ _ h=>h⟩
 simp only [Bool.not_eq_true] at e;rw [e] at h;exact⟨τ,h,fun _ _ _ h=>h⟩
variable {hs:List eC} {i d:Nat} {up rd:List Nat} {ej:(Nat→Hid)→Nat→aR} {o:Oper}
theorem jZ {τ:I}(bO:o.guard=none)(hd:o.dst=some d)(aQ:Nat.blt d c.n=true)
 (h:∀ (hd:Nat→Hid) (E':List (Nat×I)) (L':List aR),(∀ t τ,look (lX hd hs E up) t=some τ→look E' t=some τ)→ (∀ j e,(jt (fun _=>true) hd 0 (hs.take i) L)[j]? =some e→rd.contains j=true→L'[j]? =some e)→b6 c E' L' o τ):
 bY c ops Q hs E L i o ⟨some d,up,rd,[],fun _=>τ,ej⟩:=fun Gf E' L' an al=>
 ab.v (h Gf E' L' an al) bO hd aQ (ab.nil (ad.fin (fun _=>none) rfl rfl))
theorem mw {j g:Nat}{b want:Bool}{τ:I}(bO:o.guard=some (j,want))(aF:(ops[j]?).bind (·.dst)=some g)(hd:o.dst=some d)(aQ:Nat.blt d c.n=true)
 (ao:∀ hd,look (lX hd hs E up) g=some (.of b))
 (h:∀ (hd:Nat→Hid) (E':List (Nat×I)) (L':List aR),(∀ t τ,look (lX hd hs E up) t=some τ→look E' t=some τ)→ (∀ j e,(jt (fun _=>true) hd 0 (hs.take i) L)[j]? =some e→rd.contains j=true→L'[j]? =some e)→b=want→b6 c E' L' o τ):
 bY c ops Q hs E L i o ⟨some d,up,rd,[],fun _=>.cond (b=want) τ,ej⟩:=fun Gf E' L' an al=>
 ab.g (h Gf E' L' an al) bO aF (an _ _ (ao Gf)) hd aQ (ab.nil (ad.fin (fun _=>none) rfl rfl))
variable {ty t:TypeId} {pos:String} {af:Array Edge}
theorem ab.Vx {α:Type}[aj α]{rest:List Oper}{bg e n:Nat}{z:α}{r0 r:List α}{fi:List (Nat×Operand)}(hu:c.P.underlying t=some (.slice e))(fl:bx c.P e α)(h9:cI c.P e z)(hs:Nat.beq (aj.size α) 0=false)(aQ:Nat.ble (n * aj.size α) 16777216=true)
 (aY:p2 c E L (List.replicate n z) fi r0) (aI:r0=r) (iT:Nat.blt bg c.n=true) (k:∀ p,ab c ops Q rest ((bg,.eq (aS p r.length n))::E) (⟨p,.row e r n⟩::L)):
 ab c ops Q (⟨some bg,.buildSlice t n fi.toArray,ty,pos,af,none⟩::rest) E L:=by subst aI;exact ab.sb hu fl h9 hs aQ aY iT k
variable {g:Option (Nat×Bool)} {x y:Operand}
theorem abo {a b:BitVec 64}{bg:Option Tmp}{ats:Array TypeId}(ar:bn c E L x (.of a))(a1:bn c E L y (.of b)):b6 c E L ⟨bg,.call ⟨.builtin .min,#[x,y],ats⟩,ty,pos,af,g⟩ (.of (zy a b)):= .pure fun A W s=>
 ⟨.int .u64 (zy a b).toNat,by
   simp [execOp,resolve,invoke,builtin,Builtin.min_,Builtin.min2,ir.1 (ar A W s),ir.1 (a1 A W s)];unfold zy;split <;> split <;> first | rfl | (rename_i h1 ae;simp only [BitVec.le_def] at *;omega),ir.2 rfl⟩
end
section
variable {c:dy} {E:List (Nat×I)} {L:List aR} {ops:Array Oper} {Q:Exit→Act→World→Prop}
variable {d:Option Tmp} {ty:TypeId} {pos:String} {af:Array Edge} {g:Option (Nat×Bool)} {x y:Operand} {t t2:TypeId}
def Src (c:dy)(E:List (Nat×I))(L:List aR)(y:Operand)(N:Nat){α:Type}[aj α](vs:List α):Prop:=
 ∀ a W,bN c E L a W→ (Builtin.lenOf (a.eval y)).run c.P W= .ok N W∧ ∃ cells:List Value,(Builtin.firstCells (aj.size α) vs.length (a.eval y)).run c.P W= .ok cells.toArray W∧hJ (aT L++c.cc) W cells vs∧ ∀ v∈cells,v.oneCell'=true
theorem ab.Jr {rest:List Oper}{i e p off bg dLen dCap N T:Nat}{cp cp':e3}{α:Type}[aj α]{vs:List α}(hu:c.P.underlying t=some (.slice e))(fl:bx c.P e α)
 (ar:bn c E L x (.eq (.slice (some ⟨p,off,none⟩) dLen dCap))) (a1:Src c E L y N vs) (ahS:Nat.min N dLen=vs.length) (al:L[i]? =some ⟨some p,cp⟩) (aQ:Nat.blt bg c.n=true)
 (aiJ:∀ A W o cells,cp.holds A W o→hJ A W cells vs→ ∃ cs,o= .cells cs T (0,0)∧off+cells.length≤cs.size∧cp'.holds A W (.cells (cs.toList.take off++cells++cs.toList.drop (off+cells.length)).toArray T (0,0)))
 (k:ab c ops Q rest ((bg,.of (vs.length:Int))::E) (L.set i ⟨some p,cp'⟩)):
 ab c ops Q (⟨some bg,.call ⟨.builtin .copy,#[x,y],#[t,t2]⟩,ty,pos,af,none⟩::rest) E L:=fun a W s=>by
 have iT:bg<c.n:=by simpa using aQ
 have h1:a.eval x=_:=ar a W s
 obtain⟨ao,cells,ai,aI,CA⟩:=a1 a W s
 obtain⟨o,bp,cB⟩:=s.own _ (List.mem_of_getElem? al)
 obtain⟨cs,rfl,JN,sf⟩:=aiJ _ _ _ _ cB aI
 obtain⟨hg,eL,ed⟩:=fl.info
 have dk:=run_storeCells_at (P:=c.P) p off T cells 0 cs W bp (by omega) CA
 simp only [Nat.add_zero] at dk
 have ka:(execOp a.eval ⟨some bg,.call ⟨.builtin .copy,#[x,y],#[t,t2]⟩,ty,pos,af,none⟩).run c.P W= .ok (.value (goInt vs.length)) (W.setRow p (cs.toList.take off++cells++cs.toList.drop (off+cells.length)).toArray):=by
  simp [execOp,resolve,invoke,builtin,Builtin.copy_,h1,run_underlying hu,ao,ahS,Go.sizeOf,typeInfo,eL,ed,ai,dk]
 refine jl rfl (R:=fun v iF=>v=goInt vs.length∧iF=W.setRow p (cs.toList.take off++cells++cs.toList.drop (off+cells.length)).toArray) (.mL ka ⟨rfl,rfl⟩) fun v iF ⟨bm,hw⟩=>?_
 subst bm
 subst hw
 exact k _ _ ((s.store al bp sf).put iT (of_int.2 rfl))
theorem ID {i T cap lo N k:Nat}{key:Option Nat}{α:Type}[aj α]{xs:List α}(a1:bn c E L y (.eq (jn key lo N cap (aj.size α))))(al:L[i]? =some ⟨key,.row T xs cap⟩)(hk:0<k)(ij:lo+k≤xs.length):
 Src c E L y N ((xs.drop lo).take k):=fun a W s=>by
 obtain⟨p,cs,rfl,fC,g1,g2,g3,g4⟩:=s.rowAt al (by omega)
 have h1:a.eval y=_:=a1 a W s
 have ny:cap≠lo:=by omega
 have bm:a.eval y= .slice (some ⟨p,lo * aj.size α,none⟩) N (cap - lo):=by rw [h1];simp [jn,ny]
 have hlen:((xs.drop lo).take k).length=k:=by rw [List.length_take,List.length_drop];omega
 have tj:cs.toList.length=cap * aj.size α:=by simpa using g1
 have ahT:(lo+k) * aj.size α≤xs.length * aj.size α:=Nat.mul_le_mul_right _ ij
 have JM:xs.length * aj.size α≤cap * aj.size α:=Nat.mul_le_mul_right _ g2
 rw [Nat.add_mul] at ahT
 have VT:((cs.toList.drop (lo * aj.size α)).take (k * aj.size α)).length=k * aj.size α:=by rw [List.length_take,List.length_drop];omega
 have ht:hJ (aT L++c.cc) W ((cs.toList.drop (lo * aj.size α)).take (k * aj.size α)) ((xs.drop lo).take k):=by
  refine⟨by rw [VT,hlen],fun j aF=>?_⟩;rw [hlen] at aF;have bc:=g4.2 (lo+j) (by omega);have gu:=BU (s:=aj.size α) aF;have akO:=BU (s:=aj.size α) (show lo+j<xs.length by omega);rw [List.drop_take,List.take_take,Nat.min_eq_left (by omega)] at bc;rw [List.drop_take,List.take_take,Nat.min_eq_left (by omega),List.drop_drop,← Nat.add_mul];simpa using bc
 have ea:=run_loadCells_list (P:=c.P) W ⟨p,lo * aj.size α,none⟩ ((cs.toList.drop (lo * aj.size α)).take (k * aj.size α)) fun j v bm=>by
  rw [kU,cell_of_row W p _ cs T (0,0) fC];rw [List.getElem?_take] at bm;split at bm
  ·rw [List.getElem?_drop] at bm;simpa using bm
  cases bm
 rw [VT] at ea
 refine⟨by rw [bm];rfl,(cs.toList.drop (lo * aj.size α)).take (k * aj.size α),?_,ht,ht.one⟩
 rw [bm]
 simp only [Builtin.firstCells]
 rw [hlen]
 exact ea
theorem Ml {p lo n cap size:Nat}(h:cap≠lo):jn (some p) lo n cap size=Value.slice (some ⟨p,lo * size,none⟩) n (cap - lo):=by simp [jn,h]
theorem SR {i T cap:Nat}{key:Option Nat}{α:Type}[aj α]{xs:List α}(a1:bn c E L y (.eq (aS key xs.length cap)))(al:L[i]? =some ⟨key,.row T xs cap⟩)(ar:0<xs.length):Src c E L y xs.length xs:=by
 have:=ID (lo:=0) (k:=xs.length) (N:=xs.length) (by rw [Br];exact a1) al ar (by omega);simpa using this
theorem IW {key:Option Nat}{n cap size:Nat}(h:bn c E L x (.eq (jn key 0 n cap size))):bn c E L x (.eq (aS key n cap)):=by rw [← Br (size:=size)];exact h
theorem MP {p lo n cap size:Nat}(ai:cap≠lo)(h:bn c E L x (.eq (jn (some p) lo n cap size))):bn c E L x (.eq (.slice (some ⟨p,lo * size,none⟩) n (cap - lo))):=by rw [← Ml ai];exact h
def e3.F1 {α:Type}[aj α](T:TypeId)(xs:List α)(i m cap:Nat):e3 where
 holds A W o:= ∃ cs,o= .cells cs T (0,0)∧cs.size=cap * aj.size α∧xs.length+m≤cap∧cap≤maxLen∧hJ A W (cs.toList.take (i * aj.size α)) (xs.take i)∧
  hJ A W ((cs.toList.drop ((i+m) * aj.size α)).take ((xs.length - i) * aj.size α)) (xs.drop i)
 o1:=False
 mono e h:=let⟨cs,h1,ae,aA,aV,bc,bs⟩:=h; ⟨cs,h1,ae,aA,aV,bc.mono e,bs.mono e⟩
theorem acb {α:Type}[aj α]{T i m cap:Nat}{xs:List α}(au:i≤xs.length)(hm:xs.length+m≤cap){A W o cells}(h:(e3.row T xs cap).holds A W o)(ai:hJ A W cells (xs.drop i)):
 ∃ cs,o= .cells cs T (0,0)∧ (i+m) * aj.size α+cells.length≤cs.size∧ (e3.F1 T xs i m cap).holds A W (.cells (cs.toList.take ((i+m) * aj.size α)++cells++cs.toList.drop ((i+m) * aj.size α+cells.length)).toArray T (0,0)):=by
 obtain⟨cs,rfl,g1,g2,g3,g4⟩:=h
 have tj:cs.toList.length=cap * aj.size α:=by simpa using g1
 have ny:cells.length=(xs.length - i) * aj.size α:=by rw [ai.1,List.length_drop]
 have av:(i+m) * aj.size α+(xs.length - i) * aj.size α=(xs.length+m) * aj.size α:=by rw [← Nat.add_mul];congr 1;omega
 have aX:(xs.length+m) * aj.size α≤cap * aj.size α:=Nat.mul_le_mul_right _ hm
 have c0:i * aj.size α≤ (i+m) * aj.size α:=Nat.mul_le_mul_right _ (by omega)
 have gb:i * aj.size α≤xs.length * aj.size α:=Nat.mul_le_mul_right _ au
 have kL:(cs.toList.take ((i+m) * aj.size α)).length=(i+m) * aj.size α:=by rw [List.length_take];omega
 refine⟨cs,rfl,by omega,_,rfl,?_,hm,g3,?_,?_⟩
 ·simp only [List.size_toArray,List.length_append,List.length_take,List.length_drop];omega
 ·rw [List.toList_toArray,List.append_assoc,List.take_append_of_le_length (by rw [kL];omega),List.take_take,Nat.min_eq_left c0]
  have:=Im au (⟨cs,rfl,g1,g2,g3,g4⟩:(e3.row T xs cap).holds A W (.cells cs T (0,0)))
  obtain⟨aiK,h1,_,_,_,bc⟩:=this
  cases h1
  rwa [List.length_take,Nat.min_eq_left au] at bc
 rw [List.toList_toArray,List.append_assoc,List.drop_left' kL,← ny,List.take_left]
 exact ai
theorem abn {α:Type}[aj α]{T i cap:Nat}{xs vs:List α}(au:i≤xs.length){A W o cells}(h:(e3.F1 T xs i vs.length cap).holds A W o)(ai:hJ A W cells vs):
 ∃ cs,o= .cells cs T (0,0)∧i * aj.size α+cells.length≤cs.size∧ (e3.row T (xs.take i++vs++xs.drop i) cap).holds A W (.cells (cs.toList.take (i * aj.size α)++cells++cs.toList.drop (i * aj.size α+cells.length)).toArray T (0,0)):=by
 obtain⟨cs,rfl,g1,g2,g3,g4,g5⟩:=h
 have tj:cs.toList.length=cap * aj.size α:=by simpa using g1
 have ny:cells.length=vs.length * aj.size α:=ai.1
 have h3:i * aj.size α+vs.length * aj.size α=(i+vs.length) * aj.size α:=by rw [← Nat.add_mul]
 have av:(i+vs.length) * aj.size α+(xs.length - i) * aj.size α=(xs.length+vs.length) * aj.size α:=by rw [← Nat.add_mul];congr 1;omega
 have aX:(xs.length+vs.length) * aj.size α≤cap * aj.size α:=Nat.mul_le_mul_right _ g2
 have hlen:(xs.take i++vs++xs.drop i).length=xs.length+vs.length:=by simp;omega
 refine⟨cs,rfl,by omega,_,rfl,?_,by rw [hlen];exact g2,g3,?_⟩
 ·simp only [List.size_toArray,List.length_append,List.length_take,List.length_drop];omega
 rw [List.toList_toArray,hlen]
 have pA:=wS (wS g4 ai) g5
 have kL:(cs.toList.take (i * aj.size α)++cells).length=(i+vs.length) * aj.size α:=by rw [List.length_append,List.length_take];omega
 have la:(cs.toList.take (i * aj.size α)++cells++cs.toList.drop (i * aj.size α+cells.length)).take ((xs.length+vs.length) * aj.size α)=cs.toList.take (i * aj.size α)++cells++(cs.toList.drop ((i+vs.length) * aj.size α)).take ((xs.length - i) * aj.size α):=by
  rw [List.take_append,kL,List.take_of_length_le (by omega),ny,h3];congr 2;omega
 rw [la]
 exact pA
theorem LY {α:Type}[aj α]{T lo cap:Nat}{xs vs:List α}(hk:lo+vs.length≤xs.length){A W o cells}(h:(e3.row T xs cap).holds A W o)(ai:hJ A W cells vs):
 ∃ cs,o= .cells cs T (0,0)∧lo * aj.size α+cells.length≤cs.size∧ (e3.row T (xs.take lo++vs++xs.drop (lo+vs.length)) cap).holds A W (.cells (cs.toList.take (lo * aj.size α)++cells++cs.toList.drop (lo * aj.size α+cells.length)).toArray T (0,0)):=by
 obtain⟨cs,rfl,g1,g2,g3,g4⟩:=h
 have tj:cs.toList.length=cap * aj.size α:=by simpa using g1
 have ny:cells.length=vs.length * aj.size α:=ai.1
 have h3:lo * aj.size α+vs.length * aj.size α=(lo+vs.length) * aj.size α:=by rw [← Nat.add_mul]
 have av:(lo+vs.length) * aj.size α≤xs.length * aj.size α:=Nat.mul_le_mul_right _ hk
 have aX:xs.length * aj.size α≤cap * aj.size α:=Nat.mul_le_mul_right _ g2
 have hlen:(xs.take lo++vs++xs.drop (lo+vs.length)).length=xs.length:=by simp;omega
 refine⟨cs,rfl,by omega,_,rfl,?_,by rw [hlen];exact g2,g3,?_⟩
 ·simp only [List.size_toArray,List.length_append,List.length_take,List.length_drop];omega
 rw [List.toList_toArray,hlen]
 have g5:=RA (lo:=lo) g4 ai hk
 have e:(cs.toList.take (lo * aj.size α)++cells++cs.toList.drop (lo * aj.size α+cells.length)).take (xs.length * aj.size α)=(cs.toList.take (xs.length * aj.size α)).take (lo * aj.size α)++cells++(cs.toList.take (xs.length * aj.size α)).drop (lo * aj.size α+cells.length):=by
  have c0:(cs.toList.take (lo * aj.size α)++cells).length=lo * aj.size α+cells.length:=by rw [List.length_append,List.length_take];omega
  rw [List.take_append,c0,List.take_of_length_le (by omega),List.take_take,Nat.min_eq_left (by omega),List.drop_take]
 rw [e]
 exact g5
theorem adi {p n cap e:Nat}(hu:c.P.underlying t=some (.slice e))(ar:bn c E L x (.eq (aS (some p) n cap))):b6 c E L ⟨d,.call ⟨.builtin .cap,#[x],#[t]⟩,ty,pos,af,g⟩ (.of (cap:Int)):= .pure fun a W s=>by
 have h1:a.eval x=_:=ar a W s;exact⟨.int .i64 cap,by simp [execOp,resolve,invoke,builtin,Builtin.cap_,h1,aS,run_underlying hu,goInt],of_int.2 rfl⟩
theorem uQ {p n cap:Nat}{α:Type}[aj α]{e:TypeId}{lo au:Option Operand}{m h:Nat}{GP GQ:Int}(hu:c.P.underlying t=some (.slice e))(fl:bx c.P e α)(ar:bn c E L x (.eq (aS (some p) n cap)))
 (ij:x6 c E L lo GP 0) (gW:x6 c E L au GQ n) (hm:GP=m) (aQ:GQ=h) (cB:m≤h∧h≤cap):
 b6 c E L ⟨d,.slice t x lo au none,ty,pos,af,g⟩ (.eq (jn (some p) m (h - m) cap (aj.size α))):= .pure fun a W s=>by
 subst hm;subst aQ
 obtain⟨vO,mh⟩:=cB
 obtain⟨hg,eL,ed⟩:=fl.info
 have h1:a.eval x=_:=ar a W s
 refine⟨_,?_,rfl⟩
 simp only [jn]
 have al:∀ v,v=Value.int .i64 m→ (Instr.sliceBound v h .sliceB).run c.P W= .ok m W:=fun v bm=>rF vO bm
 have hH:∀ v,v=Value.int .i64 h→ (Instr.sliceBound v cap .sliceAcap).run c.P W= .ok h W:=fun v bm=>rF (by omega) bm
 generalize gu:(h:Int)=WZ at gW
 generalize vV:(m:Int)=W0 at ij
 generalize F9:(n:Int)=W1 at gW
 generalize Wl:(0:Int)=W2 at ij
 cases ij with
 | none=>
   have iB:m=0:=by omega
   cases gW with
   | none=>
     have mh:h=n:=by omega
     subst mh
     subst iB
     simp [execOp,Instr.sliceAt,Instr.slice,Instr.sliceBounds,h1,aS,run_underlying hu,Go.sizeOf,typeInfo,eL,ed,kU]
   | some cB=>
     subst gu
     subst iB
     simp [execOp,Instr.sliceAt,Instr.slice,Instr.sliceBounds,h1,aS,run_underlying hu,Go.sizeOf,typeInfo,eL,ed,kU,hH _ (of_int.1 (cB a W s))]
 | some ao=>
   subst vV
   cases gW with
   | none=>
     have mh:h=n:=by omega
     subst mh
     simp [execOp,Instr.sliceAt,Instr.slice,Instr.sliceBounds,h1,aS,run_underlying hu,Go.sizeOf,typeInfo,eL,ed,kU,al _ (of_int.1 (ao a W s))]
     split <;> rfl
   | some cB=>
     subst gu
     simp [execOp,Instr.sliceAt,Instr.slice,Instr.sliceBounds,h1,aS,run_underlying hu,Go.sizeOf,typeInfo,eL,ed,kU,al _ (of_int.1 (ao a W s)),hH _ (of_int.1 (cB a W s))]
     split <;> rfl
theorem afo {f:FuncId}{fn:Func}{p q T U cap cap' i j e tR cN W5 fI Ac W6 qC:Nat}{α:Type}[aj α]{xs vs:List α}(FH:Nat.beq (aj.size α) 0=false)
 (aY:c.P.funcs[f]? =some fn) (afP:(fn.name== "runtime.NumGoroutine")=false) (hb:fn.body.isNone=true) (aQ:Extern.findNext fn=none)
 (he:Extern.find fn=some (Extern.SlicesOverlaps.overlaps #[t,t] #[tR])) (hu:c.P.underlying t=some (.slice e)) (fl:bx c.P e α)
 (ar:bn c E L x (.eq (.slice (some ⟨q,W6,none⟩) cN W5))) (a1:bn c E L y (.eq (.slice (some ⟨p,qC,none⟩) fI Ac)))
 (au:L[i]? =some ⟨some p,.row T xs cap⟩) (aF:L[j]? =some ⟨some q,.row U vs cap'⟩) (J1:p≠q) (xC:0<cap):
 b6 c E L ⟨d,.call ⟨.value (.func f),#[x,y],#[t,t]⟩,ty,pos,af,g⟩ (.of false):= .pure fun a W s=>by
 obtain⟨o,bp,cs,rfl,g1,g2,g3,g4⟩:=s.own _ (List.mem_of_getElem? au)
 obtain⟨o',vR,fh,rfl,aU,bK,dI,jQ⟩:=s.own _ (List.mem_of_getElem? aF)
 obtain⟨hg,eL,ed⟩:=fl.info
 have h1:a.eval x=_:=ar a W s
 have ae:a.eval y=_:=a1 a W s
 have th:aj.size α≠0:=fun h=>by rw [h] at FH;cases FH
 have dC:cs.size≠0:=by rw [g1];exact Nat.mul_ne_zero (by omega) th
 have aiL:=Lib.run_overlaps_apart (P:=c.P) W t tR e hu (aj.size α) (fun w=>by simp [Go.sizeOf,typeInfo,eL,ed]) ⟨q,W6,none⟩ ⟨p,qC,none⟩ cN W5 fI Ac (fun h=>J1 h.symm) U T fh.size cs.size
  (by simp [World.shape?,vR]) (by simp [World.shape?,bp]) dC (by simp [World.frozen?,vR]) (by simp [World.frozen?,vR])
 refine⟨.bool false,?_,by exact of_bool.2 rfl⟩
 have bH:a.eval (.func f)= .func (.func f) #[] #[]:=rfl
 simp [execOp,resolve,Deferred.ofValue,bH,invoke,run_callFunc_extern aY afP hb aQ he,h1,ae,aiL]
theorem ab.ahb {α:Type}[aj α]{rest:List Oper}{bg i e bytes cap m k p T:Nat}{Kz:IntKind}{xs:List α}{z:α}(hu:c.P.underlying t=some (.slice e))(nz:c.P.underlying t2=some (.int Kz))(fl:bx c.P e α)(h9:cI c.P e z)(FH:Nat.beq (aj.size α) 0=false)
 (zL:(c.P.info? e).map (·.bytes)=some bytes) (ar:bn c E L x (.eq (jn (some p) 0 m cap (aj.size α)))) (a1:bn c E L y (.of (k:Int))) (al:L[i]? =some ⟨some p,.row T xs cap⟩) (hm:m≤xs.length) (hk:0<k) (bO:cap<m+k)
 (tf:(m+k) * bytes≤140737488355328) (oD:m+k≤maxLen) (aQ:Nat.blt bg c.n=true)
 (na:∀ q cap',ab c ops Q rest ((bg,.eq (aS (some q) (m+k) cap'))::E) (⟨some q,.row e (xs.take m++List.replicate k z) cap'⟩::L)):
 ab c ops Q (⟨some bg,.call ⟨.builtin .append,#[x,y],#[t,t2]⟩,ty,pos,af,none⟩::rest) E L:=fun a W s=>by
 obtain⟨hg,e4,eL,cJ,ur⟩:=h9.zero
 have pB:hg.size=aj.size α:=by
  obtain⟨i2,h1,ae⟩:=fl.info;rw [eL] at h1;cases h1;exact ae
 have MV:hg.bytes=bytes:=by simpa [eL] using zL
 subst MV
 have zM:e4.cells.size=aj.size α:=by have:=aj.len (ur [] W).2;simpa using this
 have th:aj.size α≠0:=fun h=>by rw [h] at FH;cases FH
 have iT:bg<c.n:=by simpa using aQ
 have h1:a.eval x= .slice (some ⟨p,0,none⟩) m cap:=by
  have:=ar a W s;rw [Br] at this;exact this
 obtain⟨o,bp,cs,rfl,g1,g2,g3,g4⟩:=s.own _ (List.mem_of_getElem? al)
 have tg:maxLen=9223372036854775807:=rfl
 have ae:a.eval y= .int .i64 k:=of_int.1 (a1 a W s)
 have ahU:=Im hm (⟨cs,rfl,g1,g2,g3,g4⟩:(e3.row T xs cap).holds (aT L++c.cc) W (.cells cs T (0,0)))
 obtain⟨aiK,av,_,_,_,Gg⟩:=ahU
 cases av
 have Og:(xs.take m).length=m:=by rw [List.length_take];omega
 rw [Og] at Gg
 have zf:∀ (j:Nat) u,(cs.toList.take (m * aj.size α))[j]? =some u→W.drew.cell? ((⟨p,0,none⟩:Addr).add j)=some u:=by
  intro j u oF;rw [List.getElem?_take] at oF;split at oF
  ·rw [kU,Nat.zero_add,cell_of_row W.drew p j cs T (0,0) bp];simpa using oF
  cases oF
 have hold:=run_loadCells_list (P:=c.P) W.drew ⟨p,0,none⟩ _ zf
 rw [Gg.1,Og] at hold
 have aI:=Lib.run_append_grow_zeros (P:=c.P) W t t2 ty e hg e4 .i64 Kz hu nz eL cJ (some ⟨p,0,none⟩) m cap _ (by simp only [Builtin.firstCells];rw [pB];exact hold) k hk (by omega) bO (by omega)
  (by have:k * hg.bytes≤ (m+k) * hg.bytes:=Nat.mul_le_mul_right _ (by omega)
      omega) (growslice_fits bO tf)
 have vW:=grownCap_ge W (m+k) cap e
 have hle:=grownCap_le_maxLen W (m+k) cap e oD
 have J7:=ur (aT L++c.cc) W
 have tk:=En J7 k th
 have ON:Builtin.zeroCells e4.cells k=(Array.range (k * aj.size α)).map (e4.cells[· % e4.cells.size]!):=by rw [Builtin.zeroCells,zM]
 rw [← ON] at tk
 have vC:=(wS Gg tk).mono (Ext.eh (Fr.drew W))
 have hlen:(xs.take m++List.replicate k z).length=m+k:=by rw [List.length_append,Og,List.length_replicate]
 have dk:=(s.world (Fr.drew W)).alloc (o:= .cells ((cs.toList.take (m * aj.size α)).toArray++Builtin.zeroCells e4.cells k++Builtin.zeroCells e4.cells (grownCap W (m+k) cap e - (m+k))) e)
  (cp:= .row e (xs.take m++List.replicate k z) (grownCap W (m+k) cap e))
  (Mo (T:=e) vC (ds:=(Builtin.zeroCells e4.cells (grownCap W (m+k) cap e - (m+k))).toList) (by rw [Array.length_toList,size_zeroCells,zM,hlen]) (by rw [hlen];exact vW) hle (by simp))
 refine jl rfl (R:=fun v iF=>v=aS (some W.heap.size) (m+k) (grownCap W (m+k) cap e)∧iF=W.drew.alloc (.cells ((cs.toList.take (m * aj.size α)).toArray++Builtin.zeroCells e4.cells k++Builtin.zeroCells e4.cells (grownCap W (m+k) cap e - (m+k))) e)) (.mL ?_ ⟨rfl,rfl⟩) fun v iF ⟨bm,hw⟩=>?_
 ·simp only [execOp,resolve,invoke,builtin,Sem.run_bind,Sem.run_pure,Result.andThen_ok]
  have av:(#[x,y]:Array Operand).map a.eval= #[a.eval x,a.eval y]:=by simp
  rw [av,h1,ae,aI]
  rfl
 subst bm
 subst hw
 exact na _ _ _ _ (dk.put iT rfl)
theorem ag.some {code:Code}{i T cap:Nat}{key:Option Nat}{α:Type}[aj α]{xs:List α}(al:L[i]? =Option.some ⟨key,.row T xs cap⟩)(ar:0<xs.length)(k:∀ p,key=Option.some p→xs.length≤cap→cap≤maxLen→ag c Q code E L):ag c Q code E L:=fun a W s=>by
 obtain⟨p,cs,rfl,fC,g1,g2,g3,g4⟩:=s.rowAt al ar;exact k p rfl g2 g3 a W s
theorem ag.apart {code:Code}{p q:Nat}{cp cp':e3}{L':List aR}(al:L=⟨Option.some p,cp⟩::⟨Option.some q,cp'⟩::L')(k:p≠q→ag c Q code E L):ag c Q code E L:=fun a W s=>by
 refine k (fun e=>?_) a W s;have:=s.nodup;rw [al,e] at this;simp [aT] at this
theorem Ms {s:Nat}{τ:I} :look ((s,τ)::E) s=some τ:=by
 show(bif Nat.beq s s then some τ else look E s)=some τ;rw [Nat.beq_refl];rfl
theorem SZ {s u:Nat}{τ:I}(h:Nat.beq s u=false):look ((s,τ)::E) u=look E u:=by
 show(bif Nat.beq s u then some τ else look E u)=look E u;rw [h];rfl
def I.both (τ σ:I):I where
 holds A W v:=τ.holds A W v∧σ.holds A W v
 mono e h:=⟨τ.mono e h.1,σ.mono e h.2⟩
theorem ab.adB {rest:List Oper}{s Ad i j p o T cap:Nat}{key:Option Nat}{β α:Type}[aj β][aj α]{b b':β}{xs:List α}(l:aJ β (List α))(eO:bx c.P t (List α))
 (ar:look E Ad=some (.eq (.pointer (some ⟨p,o,none⟩)))) (hs:Nat.beq s Ad=false) (a1:look E s=some (.eq (aS key xs.length cap)))
 (au:L[i]? =some ⟨some p,.var b⟩) (aF:L[j]? =some ⟨key,.row T xs cap⟩) (gr:Nat.beq j i=false) (bp:o=l.off) (hb:l.set b xs=b')
 (k:ab c ops Q rest E ((L.set j ⟨none,.dead⟩).set i ⟨some p,.var b'⟩)):ab c ops Q (⟨none,.store t (.tmp Ad) (.tmp s),ty,pos,af,none⟩::rest) E L:=fun a W st=>by
 have an:∀ t τ,look ((s,I.both (.eq (aS key xs.length cap)) (.of xs))::E) t=some τ→ (s=t∧τ=I.both (.eq (aS key xs.length cap)) (.of xs))∨look E t=some τ:=fun t τ h=>by
  simp only [look] at h;by_cases e:Nat.beq s t=true
  ·rw [e] at h;simp only [cond_true,Option.some.injEq] at h;exact .inl ⟨fm.1 e,h.symm⟩
  simp only [Bool.not_eq_true] at e;rw [e] at h;exact .inr h
 have hk:=st.kill j
 have aY:=st.freeze a1 aF
 have ahV:∀ t τ,look ((s,I.both (.eq (aS key xs.length cap)) (.of xs))::E) t=some τ→ ∃ v,a.tmps[t]? =some v∧τ.holds (aT (L.set j ⟨none,.dead⟩)++c.cc) W v:=fun t τ h=>by
  rcases an t τ h with⟨rfl,rfl⟩ | h
  ·obtain⟨v,h1,ae⟩:=aY.env s (.of xs) Ms;obtain⟨GS,aA,aV⟩:=hk.env s _ a1;rw [h1] at aA;simp only [Option.some.injEq] at aA;subst aA;exact⟨v,h1,aV,ae⟩
  exact hk.env t τ h
 have afQ:bN c ((s,I.both (.eq (aS key xs.length cap)) (.of xs))::E) (L.set j ⟨none,.dead⟩) a W:= { hk with env:=ahV }
 have dC:j≠i:=fun e=>by rw [fm.2 e] at gr;cases gr
 refine(ab.store (c:=c) (E:=(s,I.both (.eq (aS key xs.length cap)) (.of xs))::E) (L:=L.set j ⟨none,.dead⟩) (i:=i) (p:=p) (b:=b) (b':=b') (v:=xs) l eO
  (aa ((SZ hs).trans ar)) (fun a W h=>?_) (by rw [List.getElem?_set_ne dC];exact au) bp hb (fun a W h=>k a W (h.less fun t τ bP=>?_))) a W afQ
 ·obtain⟨v,h1,ae⟩:=h.env s _ Ms
  have e:a.eval (.tmp s)=v:=by simp [Act.eval,h1]
  rw [e];exact ae.2
 by_cases e:Nat.beq s t=true
 ·have:=fm.1 e
  subst this
  rw [a1] at bP
  simp only [Option.some.injEq] at bP
  subst bP
  exact⟨_,Ms,fun A W v h=>h.1⟩
 simp only [Bool.not_eq_true] at e
 exact⟨τ,(SZ e).trans bP,fun _ _ _ h=>h⟩
theorem ab.ace {rest:List Oper}{s Ad i j p o T cap:Nat}{key:Option Nat}{β α:Type}[aj β][aj α]{b b':β}{xs:List α}(l:aJ β (List α))(eO:bx c.P t (List α))
 (ar:look E Ad=some (.eq (.pointer (some ⟨p,o,none⟩)))) (hs:Nat.beq s Ad=false) (a1:look E s=some (.eq (aS key xs.length cap)))
 (au:L[i]? =some ⟨some p,.var b⟩) (aF:L[j]? =some ⟨key,.row T xs cap⟩) (gr:Nat.beq j i=false) (bp:o=l.off) (hb:l.set b xs=b')
 (k:ab c ops Q rest E ((L.set i ⟨some p,.var b'⟩).set j ⟨none,.dead⟩)):ab c ops Q (⟨none,.store t (.tmp Ad) (.tmp s),ty,pos,af,none⟩::rest) E L:=
 ab.adB l eO ar hs a1 au aF gr bp hb (by rw [List.set_comm _ _ (fun e=>by rw [fm.2 e] at gr;cases gr)];exact k)
theorem R2 {α γ:Type}[aj α][aj γ]{A W}{cs:List Value}{x:α}{os:List (Nat×Value)}{u:Value}(l:aJ α (List γ))(h:nr A W cs x os)(hq:(l.off,u)∈os):nr A W cs (l.set x []) os:=by
 refine⟨?_,h.2⟩;have h1:=l.nM (ds:= [mf]) (g:=([]:List γ)) h.1 (show aj.rep A W [mf] ([]:List γ) from by
  have:=(pj (A:=A) (W:=W) (v:=mf) (xs:=([]:List γ))).2 (.inl ⟨rfl,rfl⟩);exact this.2)
 have hb:(blank os cs)[l.off]? =some mf:=by
  rw [tH,if_pos (List.any_eq_true.2 ⟨_,hq,by simp⟩),(h.2 _ hq).1];rfl
 have cH:l.off<(blank os cs).length:=(List.getElem?_eq_some_iff.1 hb).1;have he:(blank os cs).take l.off++[mf]++(blank os cs).drop (l.off+aj.size (List γ))=blank os cs:=by
  show(blank os cs).take l.off++[mf]++(blank os cs).drop (l.off+1)=blank os cs;have ae:(blank os cs)[l.off]=mf:=(List.getElem?_eq_some_iff.1 hb).2;rw [← ae,List.append_assoc,List.singleton_append,List.getElem_cons_drop,List.take_append_drop]
 rwa [he] at h1
theorem ab.JY {GR:List Oper}{p:Nat}{β γ:Type}[aj β][aj γ]{b b':β}{os:List (Nat×Value)}{u:Value}(l:aJ β (List γ))(i q:Nat)(al:L[i]? =some ⟨some p,.cE b os⟩)(hq:os[q]? =some (l.off,u))(hb:l.set b []=b')
 (k:ab c ops Q GR E (L.set i ⟨some p,.cE b' os⟩)):ab c ops Q GR E L:=fun a W s=>
 k a W (s.again al (fun A W o ⟨cs,T,h1,ae⟩=>⟨cs,T,h1,hb ▸ R2 l ae (List.mem_of_getElem? hq)⟩) id)
theorem ad.JY {z:Exit}{p:Nat}{β γ:Type}[aj β][aj γ]{b b':β}{os:List (Nat×Value)}{u:Value}(l:aJ β (List γ))(i q:Nat)(al:L[i]? =some ⟨some p,.cE b os⟩)(hq:os[q]? =some (l.off,u))(hb:l.set b []=b')
 (k:ad c Q z E (L.set i ⟨some p,.cE b' os⟩)):ad c Q z E L:=fun a W s=>
 k a W (s.again al (fun A W o ⟨cs,T,h1,ae⟩=>⟨cs,T,h1,hb ▸ R2 l ae (List.mem_of_getElem? hq)⟩) id)
end
def FC {α:Type}(bytes:Nat)(xs:List α)(i:Int)(vs:List α):Option (List α):=
 if 0≤i∧i≤xs.length∧0<vs.length∧ (xs.length+vs.length) * bytes≤140737488355328∧xs.length+vs.length≤maxLen then some (xs.take i.toNat++vs++xs.drop i.toNat) else none
theorem aar {α:Type}{bytes:Nat}{xs vs r:List α}{i:Int}(h:FC bytes xs i vs=some r):
 ∃ k:Nat,i=k∧k≤xs.length∧0<vs.length∧ (xs.length+vs.length) * bytes≤140737488355328∧xs.length+vs.length≤maxLen∧r=xs.take k++vs++xs.drop k:=by
 unfold FC at h
 split at h
 ·rename_i ai
  obtain⟨h1,ae,aA,aV,bc⟩:=ai
  exact⟨i.toNat,by omega,by omega,aA,aV,bc,(by simp only [Option.some.injEq] at h;exact h.symm)⟩
 cases h
section
variable {c:dy} {E:List (Nat×I)} {L:List aR} {ops:Array Oper} {Q:Exit→Act→World→Prop} {rest:List Oper} {o:Oper} {bg:Nat}
variable {ty:TypeId} {pos:String} {af:Array Edge} {x y:Operand} {t t2:TypeId}
theorem ax {id:Nat}{l:List Oper}{y:Code}(h:ab c l.toArray (Exit.then (c.wp y Q) Q) l E L):ag c Q (.seq (.region id l.toArray false) y) E L:= .seq (.ct h)
theorem aG {y:Code}(h:ag c Q y E L):ab c ops (Exit.then (c.wp y Q) Q) [] E L:= .nil (.next h)
theorem bA {y z:Code}(h:ag c (Exit.then (c.wp z Q) Q) y E L):ab c ops (Exit.then (c.wp (Code.seq y z) Q) Q) [] E L:= .nil (.next (.seq h))
theorem bT {id:Nat}{l:List Oper}{z:Code}(h:ab c l.toArray (Exit.then (c.wp z Q) Q) l E L):ab c ops (Exit.then (c.wp (Code.seq (.region id l.toArray false) z) Q) Q) [] E L:= .nil (.next (.seq (.ct h)))
theorem cu {y:Code}(h:ag c Q y E L):ag c (Exit.then (c.wp y Q) Q) .skip E L:= .skip (.next h)
theorem aw {α β:Type}{m:Option α}{f:α→Option β}{r:β}{P:Prop}(h:m.bind f=some r)(k:∀ y,m=some y→f y=some r→P):P:=(bind_some h).elim fun y h=>k y h.1 h.2
theorem ca {R:Type}{b:Bool}{A B:Option R}{r:R}{y z:Code}(h:cond b A B=some r)(bP:A=some r→ag c Q y E L)(aY:B=some r→ag c Q z E L)
 (ao:bn c E L x (.of b):=by first | exact aa rfl | exact hh _):ag c Q (.cond x y z) E L:=
 .cond ao (fun hb=>bP (hE hb h)) (fun hb=>aY (hF hb h))
theorem a6 {τ:I}(h:b6 c E L o τ)(k:ab c ops Q rest ((bg,τ)::E) L)(bO:o.guard=none:=by rfl)(hd:o.dst=some bg:=by rfl)(aQ:Nat.blt bg c.n=true:=by rfl):ab c ops Q (o::rest) E L:= .v h bO hd aQ k
theorem ay {τ:I}(k:ab c ops Q rest ((bg,τ)::E) L)(ar:bn c E L x τ:=by first | exact aa rfl | exact bS _ | exact hh _ | exact ey _)(aQ:Nat.blt bg c.n=true:=by rfl):
 ab c ops Q (⟨some bg,.move x,ty,pos,af,none⟩::rest) E L:= .v (cK ar) rfl rfl aQ k
theorem aK {τ:I}(k:ab c ops Q rest ((bg,τ)::E) L)(ar:bn c E L x τ:=by first | exact aa rfl | exact bS _ | exact hh _ | exact ey _)(aQ:Nat.blt bg c.n=true:=by rfl):
 ab c ops Q (⟨some bg,.assign x,ty,pos,af,none⟩::rest) E L:= .v (dx ar) rfl rfl aQ k
theorem aP {σ τ:I}(h:bn c E L x σ→b6 c E L o τ)(k:ab c ops Q rest ((bg,τ)::E) L)(ar:bn c E L x σ:=by first | exact aa rfl | exact bS _ | exact hh _ | exact ey _)
 (bO:o.guard=none:=by rfl) (hd:o.dst=some bg:=by rfl) (aQ:Nat.blt bg c.n=true:=by rfl):ab c ops Q (o::rest) E L:= .v (h ar) bO hd aQ k
theorem bo {σ tm τ:I}(h:bn c E L x σ→bn c E L y tm→b6 c E L o τ)(k:ab c ops Q rest ((bg,τ)::E) L)(ar:bn c E L x σ:=by first | exact aa rfl | exact bS _ | exact hh _ | exact ey _)
 (a1:bn c E L y tm:=by first | exact aa rfl | exact bS _ | exact hh _ | exact ey _)
 (bO:o.guard=none:=by rfl) (hd:o.dst=some bg:=by rfl) (aQ:Nat.blt bg c.n=true:=by rfl):ab c ops Q (o::rest) E L:= .v (h ar a1) bO hd aQ k
theorem ee {α:Type}[aj α]{a b:α}(e:some a=some b)(h:b6 c E L o (.of a))(k:ab c ops Q rest ((bg,.of b)::E) L)(bO:o.guard=none:=by rfl)(hd:o.dst=some bg:=by rfl)(aQ:Nat.blt bg c.n=true:=by rfl):
 ab c ops Q (o::rest) E L:= .v (h.ik (di e)) bO hd aQ k
theorem eu {i:Nat}{τs:List I}{τ:I}(k:ab c ops Q rest ((bg,τ)::E) L)(ar:bn c E L x (.c4 τs):=by exact aa rfl)(au:τs[i]? =some τ:=by rfl)(aQ:Nat.blt bg c.n=true:=by rfl):
 ab c ops Q (⟨some bg,.extract x i,ty,pos,af,none⟩::rest) E L:= .v (k1 ar au) rfl rfl aQ k
theorem b5 {p o:Nat}{β γ:Type}[aj β][aj γ]{b:β}(j:Nat)(l:aJ β γ)(eO:bx c.P t γ)(k:ab c ops Q rest ((bg,.of (l.get b))::E) L)(ar:bn c E L x (.eq (.pointer (some ⟨p,o,none⟩))):=by exact aa rfl)
 (al:L[j]? =some ⟨some p,.var b⟩:=by rfl) (bp:o=l.off:=by rfl) (aQ:Nat.blt bg c.n=true:=by rfl):ab c ops Q (⟨some bg,.load t x,ty,pos,af,none⟩::rest) E L:= .v (e8 l eO ar al bp rfl) rfl rfl aQ k
theorem bz {p:Nat}{β:Type}[aj β]{b:β}(j:Nat)(eO:bx c.P t β)(k:ab c ops Q rest ((bg,.of b)::E) L)(ar:bn c E L x (.eq (.pointer (some ⟨p,0,none⟩))):=by exact aa rfl)
 (al:L[j]? =some ⟨some p,.var b⟩:=by rfl) (aQ:Nat.blt bg c.n=true:=by rfl):ab c ops Q (⟨some bg,.load t x,ty,pos,af,none⟩::rest) E L:= .v (e8 (aJ.id β) eO ar al rfl rfl) rfl rfl aQ k
theorem V8 {p o:Nat}{β γ:Type}[aj β][aj γ]{b:β}{os:List (Nat×Value)}(j:Nat)(l:aJ β γ)(eO:bx c.P t γ)(k:ab c ops Q rest ((bg,.of (l.get b))::E) L)(ar:bn c E L x (.eq (.pointer (some ⟨p,o,none⟩))):=by exact aa rfl)
 (al:L[j]? =some ⟨some p,.cE b os⟩:=by rfl) (bp:o=l.off:=by rfl) (a7:vc os l.off (aj.size γ)=true:=by rfl) (aQ:Nat.blt bg c.n=true:=by rfl):ab c ops Q (⟨some bg,.load t x,ty,pos,af,none⟩::rest) E L:= .v (Iz l eO ar al bp rfl a7) rfl rfl aQ k
theorem FW {s f o:Nat}{β γ:Type}[aj β][aj γ]{b:β}(l:aJ β γ)(fd:bU c.P s f o)(k:ab c ops Q rest ((bg,.ptr (l.get b))::E) L)(ar:bn c E L x (.ptr b):=by exact aa rfl)(bp:l.off=o:=by rfl)(aQ:Nat.blt bg c.n=true:=by rfl):
 ab c ops Q (⟨some bg,.fieldAddr s x f,ty,pos,af,none⟩::rest) E L:= .v (rX l fd ar bp rfl) rfl rfl aQ k
theorem fQ {α:Type}[aj α][Inhabited α]{xs:List α}{e:TypeId}{i:Int}{j:Nat}(hk:idx xs.length i=some j)(hu:c.P.underlying t=some (.slice e))(fl:bx c.P e α)(k:ab c ops Q rest ((bg,.ptr (aE xs j))::E) L)
 (ar:bn c E L x (.of xs):=by exact aa rfl) (a1:bn c E L y (.of i):=by first | exact aa rfl | exact bS _) (aQ:Nat.blt bg c.n=true:=by rfl):
 ab c ops Q (⟨some bg,.indexAddr t x y,ty,pos,af,none⟩::rest) E L:= .v (nS hu fl ar a1 (dF hk)) rfl rfl aQ k
theorem vJ {b e:Bool}{p:Prop}(k:ab c ops Q rest ((bg,.of (b||e))::E) L)(ar:bn c E L x (.of b):=by exact aa rfl)(a1:bn c E L y (.cond p (.of e)):=by exact aa rfl)(hp:b=false→p:=by exact fun h=>h)(aQ:Nat.blt bg c.n=true:=by rfl):
 ab c ops Q (⟨some bg,.pick x (.const (.bool true)) y,ty,pos,af,none⟩::rest) E L:= .v (xz ar a1 hp) rfl rfl aQ k
theorem n2 {b e:Bool}{p:Prop}(k:ab c ops Q rest ((bg,.of (b&&e))::E) L)(ar:bn c E L x (.of b):=by exact aa rfl)(a1:bn c E L y (.cond p (.of e)):=by exact aa rfl)(hp:b=true→p:=by exact fun h=>h)(aQ:Nat.blt bg c.n=true:=by rfl):
 ab c ops Q (⟨some bg,.pick x y (.const (.bool false)),ty,pos,af,none⟩::rest) E L:= .v (sW ar a1 hp) rfl rfl aQ k
theorem fy {τ:I}{j g:Nat}{b want:Bool}(h:b=want→b6 c E L o τ)(k:ab c ops Q rest ((bg,.cond (b=want) τ)::E) L)(bO:o.guard=some (j,want):=by rfl)(aF:(ops[j]?).bind (·.dst)=some g:=by rfl)(ao:look E g=some (.of b):=by rfl)
 (hd:o.dst=some bg:=by rfl) (aQ:Nat.blt bg c.n=true:=by rfl):ab c ops Q (o::rest) E L:= .g h bO aF ao hd aQ k
theorem eE {σ τ:I}{j g:Nat}{b want:Bool}(h:bn c E L x σ→b6 c E L o τ)(k:ab c ops Q rest ((bg,.cond (b=want) τ)::E) L)
 (ar:b=want→bn c E L x σ:=by first | exact fun hb=>cw rfl hb | exact fun _=>aa rfl | exact fun _=>bS _ | exact fun _=>hh _)
 (bO:o.guard=some (j,want):=by rfl) (aF:(ops[j]?).bind (·.dst)=some g:=by rfl) (ao:look E g=some (.of b):=by rfl)
 (hd:o.dst=some bg:=by rfl) (aQ:Nat.blt bg c.n=true:=by rfl):ab c ops Q (o::rest) E L:= .g (fun hb=>h (ar hb)) bO aF ao hd aQ k
theorem lV {σ tm τ:I}{j g:Nat}{b want:Bool}(h:bn c E L x σ→bn c E L y tm→b6 c E L o τ)(k:ab c ops Q rest ((bg,.cond (b=want) τ)::E) L)
 (ar:b=want→bn c E L x σ:=by first | exact fun hb=>cw rfl hb | exact fun _=>aa rfl | exact fun _=>bS _ | exact fun _=>hh _)
 (a1:b=want→bn c E L y tm:=by first | exact fun hb=>cw rfl hb | exact fun _=>aa rfl | exact fun _=>bS _ | exact fun _=>hh _)
 (bO:o.guard=some (j,want):=by rfl) (aF:(ops[j]?).bind (·.dst)=some g:=by rfl) (ao:look E g=some (.of b):=by rfl)
 (hd:o.dst=some bg:=by rfl) (aQ:Nat.blt bg c.n=true:=by rfl):ab c ops Q (o::rest) E L:= .g (fun hb=>h (ar hb) (a1 hb)) bO aF ao hd aQ k
theorem bX {α:Type}[aj α]{z:α}(h9:cI c.P t z)(k:∀ p,ab c ops Q rest ((bg,.eq (.pointer (some ⟨p,0,none⟩)))::E) (⟨some p,.var z⟩::L))(aQ:Nat.blt bg c.n=true:=by rfl):
 ab c ops Q (⟨some bg,.alloc t,ty,pos,af,none⟩::rest) E L:= .alloc h9 aQ k
theorem cj {α:Type}[aj α]{z:α}(k:∀ p,ab c ops Q rest ((bg,.eq (.pointer (some ⟨p,0,none⟩)))::E) (⟨some p,.var z⟩::L))(ar:bn c E L x (.of z):=by first | exact aa rfl | exact bS _ | exact hh _)(aQ:Nat.blt bg c.n=true:=by rfl):
 ab c ops Q (⟨some bg,.box t x,ty,pos,af,none⟩::rest) E L:= .box ar aQ k
theorem ui {p o:Nat}{β γ:Type}[aj β][aj γ]{b:β}{v:γ}(i:Nat)(l:aJ β γ)(eO:bx c.P t γ)(k:ab c ops Q rest E (L.set i ⟨some p,.var (l.set b v)⟩))(ar:bn c E L x (.eq (.pointer (some ⟨p,o,none⟩))):=by exact aa rfl)
 (a1:bn c E L y (.of v):=by first | exact aa rfl | exact bS _ | exact hh _ | exact look_nil | exact ey _) (al:L[i]? =some ⟨some p,.var b⟩:=by rfl) (bp:o=l.off:=by rfl):
 ab c ops Q (⟨none,.store t x y,ty,pos,af,none⟩::rest) E L:= .store l eO ar a1 al bp rfl k
theorem cz {p:Nat}{β:Type}[aj β]{b v:β}(i:Nat)(eO:bx c.P t β)(k:ab c ops Q rest E (L.set i ⟨some p,.var v⟩))(ar:bn c E L x (.eq (.pointer (some ⟨p,0,none⟩))):=by exact aa rfl)
 (a1:bn c E L y (.of v):=by first | exact aa rfl | exact bS _ | exact hh _ | exact look_nil | exact ey _) (al:L[i]? =some ⟨some p,.var b⟩:=by rfl):
 ab c ops Q (⟨none,.store t x y,ty,pos,af,none⟩::rest) E L:= .store (aJ.id β) eO ar a1 al rfl rfl k
theorem V9 {p o:Nat}{β γ:Type}[aj β][aj γ]{b b':β}{v:γ}(i:Nat)(l:aJ β γ)(eO:bx c.P t γ)(k:ab c ops Q rest E (L.set i ⟨some p,.var b'⟩))(ar:bn c E L x (.eq (.pointer (some ⟨p,o,none⟩))):=by exact aa rfl)
 (a1:bn c E L y (.of v):=by first | exact aa rfl | exact bS _ | exact hh _ | exact look_nil | exact ey _) (al:L[i]? =some ⟨some p,.var b⟩:=by rfl) (bp:o=l.off:=by rfl) (hb:some (l.set b v)=some b'):
 ab c ops Q (⟨none,.store t x y,ty,pos,af,none⟩::rest) E L:= .store l eO ar a1 al bp (di hb) k
theorem gq {f:FuncId}{xs:List Operand}{ats:Array TypeId}{τs:List I}{ρ:I}(eB:bF c.P f)(h:b2 c.P f τs ρ)(k:ab c ops Q rest ((bg,ρ)::E) L)
 (ar:jf c E L xs τs:=by repeat (first | exact trivial | refine⟨aa rfl,?_⟩ | refine⟨bS _,?_⟩ | refine⟨hh _,?_⟩ | refine⟨look_nil,?_⟩ | refine⟨ey _,?_⟩)) (aQ:Nat.blt bg c.n=true:=by rfl):
 ab c ops Q (⟨some bg,.call ⟨.value (.func f),xs.toArray,ats⟩,ty,pos,af,none⟩::rest) E L:= .v (km eB h ar) rfl rfl aQ k
theorem e1 {f:FuncId}{xs:List Operand}{ats:Array TypeId}{τs:List I}{δ:Type}{ρ:δ→I}{Lo:δ→List aR}(n:Nat)(eB:bF c.P f)(h:bt c.P f τs (L.take n) ρ Lo)
 (k:∀ q,ab c ops Q rest ((bg,ρ q)::E) (Lo q++L.drop n)) (ar:jf c E L xs τs:=by repeat (first | exact trivial | refine⟨aa rfl,?_⟩ | refine⟨bS _,?_⟩ | refine⟨hh _,?_⟩ | refine⟨look_nil,?_⟩ | refine⟨qO,?_⟩ | refine⟨ey _,?_⟩)) (aQ:Nat.blt bg c.n=true:=by rfl):
 ab c ops Q (⟨some bg,.call ⟨.value (.func f),xs.toArray,ats⟩,ty,pos,af,none⟩::rest) E L:=by
 have e:=List.take_append_drop n L
 have:=ab.mq (ty:=ty) (pos:=pos) (af:=af) (ats:=ats) (xs:=xs) (Lin:=L.take n) (Lr:=L.drop n) (E:=E) (Q:=Q) (ops:=ops) eB h (by rw [e];exact ar) aQ k
 rwa [e] at this
theorem ks {α:Type}[aj α]{e bytes cap:Nat}{key:Option Nat}{xs ys r:List α}{z:α}(j:Nat)(hu:c.P.underlying t=some (.slice e))(fl:bx c.P e α)(h9:cI c.P e z)(h:fY bytes xs ys=some r)
 (k:∀ s7 cap',ab c ops Q rest ((bg,.eq (aS s7 r.length cap'))::E) (L.set j ⟨s7,.row e r cap'⟩)) (zL:(c.P.info? e).map (·.bytes)=some bytes:=by kernel_rfl)
 (hs:bn c E L x (.eq (aS key xs.length cap)):=by first | exact aa rfl | exact qO) (al:L[j]? =some ⟨key,.row e xs cap⟩:=by rfl) (a1:bn c E L y (.of ys):=by exact aa rfl) (aQ:Nat.blt bg c.n=true:=by rfl):
 ab c ops Q (⟨some bg,.call ⟨.builtin .append,#[x,y],#[t,t]⟩,ty,pos,af,none⟩::rest) E L:= .app hu fl h9 zL hs al a1 h aQ k
theorem j0 {place:Nat→Option (Nat×Nat)}{β:Type}[aj β]{b b':β}{γ:Type}[aj γ]{v:γ}{i:Nat}{r:List (Nat×Operand)}(l:aJ β γ)(k:tZ c E L place (l.set b v) r b')
 (hp:place i=some (l.off,aj.size γ):=by rfl) (ar:bn c E L x (.of v):=by first | exact aa rfl | exact bS _ | exact hh _ | exact look_nil | exact ey _):tZ c E L place b ((i,x)::r) b':= .cons l hp ar rfl k
theorem gC {β:Type}[aj β]{z b:β}{fi:List (Nat×Operand)}{pl:Array (Nat×Nat)}(GN:hn c.P t pl)(h9:cI c.P t z)(x8:β)(aY:tZ c E L (pl[·]?) z fi b)(k:ab c ops Q rest ((bg,.of x8)::E) L)(a7:aj.agg β=true:=by rfl)(hb:b=x8:=by rfl)(aQ:Nat.blt bg c.n=true:=by rfl):
 ab c ops Q (⟨some bg,.build t fi.toArray,ty,pos,af,none⟩::rest) E L:= .v ((dg a7 GN h9 aY).ik hb) rfl rfl aQ k
theorem hl {α:Type}[aj α]{e n:Nat}{z:α}{fi:List (Nat×Operand)}(r:List α)(hu:c.P.underlying t=some (.slice e))(fl:bx c.P e α)(h9:cI c.P e z)(k:ab c ops Q rest ((bg,.of r)::E) L)
 (aY:p2 c E L (List.replicate n z) fi r:=by repeat (first | exact p2.nil | refine p2.cons (by simp) (aa rfl) ?_ | refine p2.cons (by simp) (bS _) ?_ | refine p2.cons (by simp) (hh _) ?_ | refine p2.cons (by simp) (ey _) ?_))
 (hs:Nat.beq (aj.size α) 0=false:=by rfl) (pH:Nat.ble (n * aj.size α) 16777216=true:=by rfl) (aQ:Nat.blt bg c.n=true:=by rfl):
 ab c ops Q (⟨some bg,.buildSlice t n fi.toArray,ty,pos,af,none⟩::rest) E L:= .v (jx hu fl h9 hs pH aY) rfl rfl aQ k
inductive nb (E:List (Nat×I)):List Nat→List (Nat×I)→Prop
 | nil:nb E [] []
 | cons {t:Nat} {eF:List Nat} {τ:I} {wi:List (Nat×I)} :look E t=some τ→nb E eF wi→nb E (t::eF) ((t,τ)::wi)
theorem nb.le:∀ {eF:List Nat} {lb:List (Nat×I)},nb E eF lb→gO E lb
 | _,_,.nil=>.nil
 | _,_,.cons h k=>.same h k.le
theorem gD {code:Code}{lb:List (Nat×I)}(eF:List Nat)(k:ag c Q code lb L)(an:nb E eF lb:=by repeat (first | exact nb.nil | (apply nb.cons;rfl))):ag c Q code E L:= .le an.le k
theorem gU {z:Exit}{lb:List (Nat×I)}(eF:List Nat)(k:ad c Q z lb L)(an:nb E eF lb:=by repeat (first | exact nb.nil | (apply nb.cons;rfl))):ad c Q z E L:= .le an.le k
theorem dw {z:Exit}{E':List (Nat×I)}{L':List aR}(n:Nat)(k:ad c Q z E' L')(al:L.drop n=L':=by rfl)(h:gO E E':=by repeat (first | exact gO.nil | refine gO.same rfl ?_)):ad c Q z E L:= .meet n al h k
theorem ga {σ ε γ δ:Type}{E':σ→γ→List (Nat×I)}{L':σ→γ→List aR}{xs:ε→Exit}{hy:ε→δ→List (Nat×I)}{Lx:ε→δ→List aR}{s:σ}(g:γ)(n:Nat)(al:L.drop n=L' s g:=by rfl)
 (h:gO E (E' s g):=by repeat (first | exact gO.nil | refine gO.same rfl ?_)):ad c (CC c E' L' xs hy Lx (.inl s)) .normal E L:= .adz g n al h
theorem ep {σ ε γ δ:Type}{E':σ→γ→List (Nat×I)}{L':σ→γ→List aR}{xs:ε→Exit}{hy:ε→δ→List (Nat×I)}{Lx:ε→δ→List aR}{e:ε}{z:Exit}(g:δ)(n:Nat)(ar:z=xs e:=by rfl)(aQ:z≠ .normal:=by simp)(al:L.drop n=Lx e g:=by rfl)
 (h:gO E (hy e g):=by repeat (first | exact gO.nil | refine gO.same rfl ?_)):ad c (CC c E' L' xs hy Lx (.inr e)) z E L:= .adA g n ar aQ al h
theorem ie {t:Nat}{p:Nat}{α:Type}[aj α]{v:α}(i:Nat)(eO:bx c.P ty α)(h:look E t=some (.eq (.pointer (some ⟨p,0,none⟩))):=by rfl)(al:L[i]? =some ⟨some p,.var v⟩:=by rfl):wm c E L (.cell t ty) (.of v):=ahL eO h al
theorem dB {fn:Func}{t:Nat}{τ:I}(aI:fn.results= #[.tmp t]:=by rfl)(h:look E t=some τ:=by rfl)(gv:c.ds= []:=by rfl):ad c (bodyPost c.P fn (Ck c τ)) .ret E L:= .jX aI (zw h) gv
theorem V5 {fn:Func}{t u:Nat}{τ oE:I}(aI:fn.results= #[.tmp t,.tmp u]:=by rfl)(h:look E t=some τ:=by rfl)(ae:look E u=some oE:=by rfl)(gv:c.ds= []:=by rfl):ad c (bodyPost c.P fn (Ck c (.c4 [τ,oE]))) .ret E L:= .JG aI (zw h) (zw ae) gv
theorem k7 {fn:Func}{t:Nat}{τ:I}{δ:Type}{ρ:δ→I}{Lo:δ→List aR}(bg:δ)(hs:(Lo bg).Sublist L:=by repeat (first | exact List.nil_sublist _ | refine List.Sublist.cons_cons _ ?_))(aI:fn.results= #[.tmp t]:=by rfl)(h:look E t=some τ:=by rfl)(tl:ρ bg=τ:=by rfl)(gv:c.ds= []:=by rfl):
 ad c (bodyPost c.P fn (ma c.X c.cc c.kA ρ Lo)) .ret E L:= .dS bg hs aI tl (cO h) gv
theorem J2 {fn:Func}{t u:Nat}{τ oE:I}{δ:Type}{ρ:δ→I}{Lo:δ→List aR}(bg:δ)(hs:(Lo bg).Sublist L:=by repeat (first | exact List.nil_sublist _ | refine List.Sublist.cons_cons _ ?_))(aI:fn.results= #[.tmp t,.tmp u]:=by rfl)
 (h:look E t=some τ:=by rfl) (ae:look E u=some oE:=by rfl) (tl:ρ bg= .c4 [τ,oE]:=by rfl) (gv:c.ds= []:=by rfl):ad c (bodyPost c.P fn (ma c.X c.cc c.kA ρ Lo)) .ret E L:= .je bg hs aI tl (cO h) (cO ae) gv
def si:List aR→List (Nat×aR)→List aR
 | L,[]=>L
 | L,(i,e)::r=>si (L.set i e) r
inductive tz:List aR→List aR→Prop
 | nil:tz [] []
 | cons {e:aR} {r s:List aR} :tz r s→tz (e::r) (e::s)
theorem tz.eq:∀ {l m:List aR},tz l m→l=m
 | _,_,.nil=>rfl
 | _,_,.cons h=>by rw [h.eq]
theorem hL {σ ε γ δ:Type}{body:Code}{N:Nat}{b:σ→Option (σ ⊕ ε)}{cT:σ}{e:ε}{lb:List (Nat×I)}{il:List aR}(ao:eI N b cT=some e)(eF:List Nat)(u:σ→γ→List (Nat×I))(ul:σ→γ→List (Nat×aR))(xs:ε→Exit)
 (PL:ε→δ→List (Nat×I)) (OQ:ε→δ→List (Nat×aR)) (g0:γ)
 (zg:∀ s r,b s=some r→ ∀ g,ag c (CC c (fun s g=>u s g++lb) (fun s g=>si il (ul s g)) xs (fun e d=>PL e d++lb) (fun e d=>si il (OQ e d)) r) body (u s g++lb) (si il (ul s g)))
 (sU:∀ g,ad c Q (xs e) (PL e g++lb) (si il (OQ e g)))
 (OR:tz L il:=by repeat (first | exact tz.nil | apply tz.cons))
 (aiM:nb E eF lb:=by repeat (first | exact nb.nil | (apply nb.cons;rfl))) (an:gO E (u cT g0++lb):=by repeat (first | exact gO.nil | refine gO.same rfl ?_)) (al:il=si il (ul cT g0):=by rfl):ag c Q (.loop body) E L:=
 ag.tU ao (fun s g=>u s g++lb) (fun s g=>si il (ul s g)) xs (fun e d=>PL e d++lb) (fun e d=>si il (OQ e d)) g0 (OR.eq.trans al) an zg sU
theorem lu {γ:Type}{b:Bool}{y z:Code}{lb:List (Nat×I)}{il:List aR}(eF:List Nat)(u:γ→List (Nat×I))(ul:γ→List (Nat×aR))(x7:∀ g,ad c Q .normal (u g++lb) (si il (ul g)))
 (bP:(∀ g,ad c Q .normal (u g++lb) (si il (ul g)))→b=true→ag c Q y E il) (aY:(∀ g,ad c Q .normal (u g++lb) (si il (ul g)))→b=false→ag c Q z E il)
 (OR:tz L il:=by repeat (first | exact tz.nil | apply tz.cons))
 (aiM:nb E eF lb:=by repeat (first | exact nb.nil | (apply nb.cons;rfl))) (ao:bn c E il x (.of b):=by first | exact aa rfl | exact hh _):ag c Q (.cond x y z) E L:=by
 cases OR.eq
 exact ag.cX (fun g=>u g++lb) (fun g=>si L (ul g)) ao x7 bP aY
section
variable {all:List tv} {w:Nat→Bool}
theorem dL {τ:I}{hyp:List aR→Prop}(ar:∀ L',bn c E L' x τ:=by first | exact fun _=>aa rfl | exact fun _=>bS _ | exact fun _=>hh _ | exact fun _=>ey _):∀ L',hyp L'→jE c ops E L' ⟨some bg,.move x,ty,pos,af,none⟩ τ:=fun L' _=>.v (cK (ar L')) rfl
theorem H1 {σ τ:I}{hyp:List aR→Prop}(h:∀ {L'},bn c E L' x σ→b6 c E L' o τ)(bO:o.guard=none:=by rfl)(ar:∀ L',bn c E L' x σ:=by first | exact fun _=>aa rfl | exact fun _=>bS _ | exact fun _=>hh _ | exact fun _=>ey _):
 ∀ L',hyp L'→jE c ops E L' o τ:=fun L' _=>.v (h (ar L')) bO
theorem mE {σ tm τ:I}{hyp:List aR→Prop}(h:∀ {L'},bn c E L' x σ→bn c E L' y tm→b6 c E L' o τ)(bO:o.guard=none:=by rfl)(ar:∀ L',bn c E L' x σ:=by first | exact fun _=>aa rfl | exact fun _=>bS _ | exact fun _=>hh _ | exact fun _=>ey _)
 (a1:∀ L',bn c E L' y tm:=by first | exact fun _=>aa rfl | exact fun _=>bS _ | exact fun _=>hh _ | exact fun _=>ey _):∀ L',hyp L'→jE c ops E L' o τ:=fun L' _=>.v (h (ar L') (a1 L')) bO
theorem eA {p o:Nat}{β γ:Type}[aj β][aj γ]{b:β}(i:Nat)(l:aJ β γ)(eO:bx c.P t γ)(ar:∀ L',bn c E L' x (.eq (.pointer (some ⟨p,o,none⟩))):=by exact fun _=>aa rfl)(al:L[i]? =some ⟨some p,.var b⟩:=by rfl)(bp:o=l.off:=by rfl)
 (hu:vo w i 0 all=true:=by first | rfl | kernel_rfl):∀ L':List aR,(∀ (j:Nat) (e:aR),L[j]? =some e→vo w j 0 all=true→L'[j]? =some e)→jE c ops E L' ⟨some bg,.load t x,ty,pos,af,none⟩ (.of (l.get b)):=
 fun L' zP=>.v (e8 l eO (ar L') (zP _ _ al hu) bp rfl) rfl
theorem hM {p:Nat}{β:Type}[aj β]{b:β}(i:Nat)(eO:bx c.P t β)(ar:∀ L',bn c E L' x (.eq (.pointer (some ⟨p,0,none⟩))):=by exact fun _=>aa rfl)(al:L[i]? =some ⟨some p,.var b⟩:=by rfl)
 (hu:vo w i 0 all=true:=by first | rfl | kernel_rfl):∀ L':List aR,(∀ (j:Nat) (e:aR),L[j]? =some e→vo w j 0 all=true→L'[j]? =some e)→jE c ops E L' ⟨some bg,.load t x,ty,pos,af,none⟩ (.of b):=
 fun L' zP=>.v (e8 (aJ.id β) eO (ar L') (zP _ _ al hu) rfl rfl) rfl
theorem gV {f:FuncId}{xs:List Operand}{ats:Array TypeId}{τs:List I}{ρ:I}{hyp:List aR→Prop}(eB:bF c.P f)(h:b2 c.P f τs ρ)
 (ar:∀ L',jf c E L' xs τs:=by intro L';repeat (first | exact trivial | refine⟨aa rfl,?_⟩ | refine⟨bS _,?_⟩ | refine⟨hh _,?_⟩ | refine⟨look_nil,?_⟩ | refine⟨ey _,?_⟩)):
 ∀ L',hyp L'→jE c ops E L' ⟨some bg,.call ⟨.value (.func f),xs.toArray,ats⟩,ty,pos,af,none⟩ ρ:=fun L' _=>.v (km eB h (ar L')) rfl
theorem td {α:Type}[aj α][Inhabited α]{xs:List α}{e:TypeId}{i:Int}{j:Nat}{hyp:List aR→Prop}(hk:idx xs.length i=some j)(hu:c.P.underlying t=some (.slice e))(fl:bx c.P e α)
 (ar:∀ L',bn c E L' x (.of xs):=by exact fun _=>aa rfl) (a1:∀ L',bn c E L' y (.of i):=by first | exact fun _=>aa rfl | exact fun _=>bS _):
 ∀ L',hyp L'→jE c ops E L' ⟨some bg,.indexAddr t x y,ty,pos,af,none⟩ (.ptr (aE xs j)):=fun L' _=>.v (nS hu fl (ar L') (a1 L') (dF hk)) rfl
theorem uh {s f o:Nat}{β γ:Type}[aj β][aj γ]{b:β}{hyp:List aR→Prop}(l:aJ β γ)(fd:bU c.P s f o)(ar:∀ L',bn c E L' x (.ptr b):=by exact fun _=>aa rfl)(bp:l.off=o:=by rfl):
 ∀ L',hyp L'→jE c ops E L' ⟨some bg,.fieldAddr s x f,ty,pos,af,none⟩ (.ptr (l.get b)):=fun L' _=>.v (rX l fd (ar L') bp rfl) rfl
theorem x4 {α:Type}[aj α]{a b:α}{hyp:List aR→Prop}(e:some a=some b)(h:∀ L',hyp L'→b6 c E L' o (.of a))(bO:o.guard=none:=by rfl):∀ L',hyp L'→jE c ops E L' o (.of b):=fun L' al=>.v ((h L' al).ik (di e)) bO
theorem h2 {τ:I}{j g:Nat}{b want:Bool}{hyp:List aR→Prop}(h:∀ L',hyp L'→b=want→b6 c E L' o τ)(bO:o.guard=some (j,want):=by rfl)(aF:(ops[j]?).bind (·.dst)=some g:=by rfl)(ao:look E g=some (.of b):=by rfl):
 ∀ L',hyp L'→jE c ops E L' o (.cond (b=want) τ):=fun L' al=>.g (h L' al) bO aF ao
end
def aL (s:Nat)(up rd:List Nat)(τ:I):eC:=⟨some s,up,rd,[],fun _=>τ,fun _ _=>⟨none,.dead⟩⟩
section
variable {hs:List eC} {i:Nat} {up rd:List Nat}
theorem dN {τ:I}(ar:∀ (hd:Nat→Hid) (E':List (Nat×I)) (L':List aR),(∀ t τ,look (lX hd hs E up) t=some τ→look E' t=some τ)→bn c E' L' x τ:=by first | exact fun _ _ _ an=>aa (an _ _ rfl) | exact fun _ _ _ _=>bS _ | exact fun _ _ _ _=>hh _ | exact fun _ _ _ _=>ey _)
 (aQ:Nat.blt bg c.n=true:=by rfl):bY c ops Q hs E L i ⟨some bg,.move x,ty,pos,af,none⟩ (aL bg up rd τ):=jZ rfl rfl aQ fun hd E' L' an _=>cK (ar hd E' L' an)
theorem db {σ τ:I}(h:∀ {E' L'},bn c E' L' x σ→b6 c E' L' o τ)(bO:o.guard=none:=by rfl)(hd:o.dst=some bg:=by rfl)
 (ar:∀ (hd:Nat→Hid) (E':List (Nat×I)) (L':List aR),(∀ t τ,look (lX hd hs E up) t=some τ→look E' t=some τ)→bn c E' L' x σ:=by first | exact fun _ _ _ an=>aa (an _ _ rfl) | exact fun _ _ _ _=>bS _ | exact fun _ _ _ _=>hh _ | exact fun _ _ _ _=>ey _)
 (aQ:Nat.blt bg c.n=true:=by rfl):bY c ops Q hs E L i o (aL bg up rd τ):=jZ bO hd aQ fun hd E' L' an _=>h (ar hd E' L' an)
theorem su {σ tm τ:I}(h:∀ {E' L'},bn c E' L' x σ→bn c E' L' y tm→b6 c E' L' o τ)(bO:o.guard=none:=by rfl)(hd:o.dst=some bg:=by rfl)
 (ar:∀ (hd:Nat→Hid) (E':List (Nat×I)) (L':List aR),(∀ t τ,look (lX hd hs E up) t=some τ→look E' t=some τ)→bn c E' L' x σ:=by first | exact fun _ _ _ an=>aa (an _ _ rfl) | exact fun _ _ _ _=>bS _ | exact fun _ _ _ _=>hh _ | exact fun _ _ _ _=>ey _)
 (a1:∀ (hd:Nat→Hid) (E':List (Nat×I)) (L':List aR),(∀ t τ,look (lX hd hs E up) t=some τ→look E' t=some τ)→bn c E' L' y tm:=by first | exact fun _ _ _ an=>aa (an _ _ rfl) | exact fun _ _ _ _=>bS _ | exact fun _ _ _ _=>hh _ | exact fun _ _ _ _=>ey _)
 (aQ:Nat.blt bg c.n=true:=by rfl):bY c ops Q hs E L i o (aL bg up rd τ):=jZ bO hd aQ fun hd E' L' an _=>h (ar hd E' L' an) (a1 hd E' L' an)
theorem hN {p o:Nat}{β γ:Type}[aj β][aj γ]{b:β}(k:Nat)(l:aJ β γ)(eO:bx c.P t γ)
 (ar:∀ (hd:Nat→Hid) (E':List (Nat×I)) (L':List aR),(∀ t τ,look (lX hd hs E up) t=some τ→look E' t=some τ)→bn c E' L' x (.eq (.pointer (some ⟨p,o,none⟩))):=by exact fun _ _ _ an=>aa (an _ _ rfl))
 (al:∀ hd:Nat→Hid,(jt (fun _=>true) hd 0 (hs.take i) L)[k]? =some ⟨some p,.var b⟩:=by exact fun _=>rfl) (aI:rd.contains k=true:=by rfl) (bp:o=l.off:=by rfl)
 (aQ:Nat.blt bg c.n=true:=by rfl):bY c ops Q hs E L i ⟨some bg,.load t x,ty,pos,af,none⟩ (aL bg up rd (.of (l.get b))):=jZ rfl rfl aQ fun hd E' L' an zP=>e8 l eO (ar hd E' L' an) (zP _ _ (al hd) aI) bp rfl
theorem jq {p:Nat}{β:Type}[aj β]{b:β}(k:Nat)(eO:bx c.P t β)
 (ar:∀ (hd:Nat→Hid) (E':List (Nat×I)) (L':List aR),(∀ t τ,look (lX hd hs E up) t=some τ→look E' t=some τ)→bn c E' L' x (.eq (.pointer (some ⟨p,0,none⟩))):=by exact fun _ _ _ an=>aa (an _ _ rfl))
 (al:∀ hd:Nat→Hid,(jt (fun _=>true) hd 0 (hs.take i) L)[k]? =some ⟨some p,.var b⟩:=by exact fun _=>rfl) (aI:rd.contains k=true:=by rfl)
 (aQ:Nat.blt bg c.n=true:=by rfl):bY c ops Q hs E L i ⟨some bg,.load t x,ty,pos,af,none⟩ (aL bg up rd (.of b)):=jZ rfl rfl aQ fun hd E' L' an zP=>e8 (aJ.id β) eO (ar hd E' L' an) (zP _ _ (al hd) aI) rfl rfl
theorem akd {τ:I}(h:∀ (hd:Nat→Hid) (E':List (Nat×I)) (L':List aR),(∀ t τ,look (lX hd hs E up) t=some τ→look E' t=some τ)→ (∀ j e,(jt (fun _=>true) hd 0 (hs.take i) L)[j]? =some e→rd.contains j=true→L'[j]? =some e)→b6 c E' L' o τ)
 (bO:o.guard=none:=by rfl) (hd:o.dst=some bg:=by rfl) (aQ:Nat.blt bg c.n=true:=by rfl):bY c ops Q hs E L i o (aL bg up rd τ):=jZ bO hd aQ h
end
end
theorem Ig {F:Fence}{n qI:Nat}{P:Program}{code:Code}{Q:Exit→Act→World→Prop}{a:Act}{W:World}(hd:F.depth=none)(h:code.wpIn F n P Q a W):code.wpIn F qI P Q a W:=
 fun b k cs kG hb _=>h b k cs kG hb (fun d hd'=>by rw [hd] at hd';cases hd')
def e3.is (o:Obj):e3 where
 holds _ _ x:=x=o
 o1:=False
 mono _ h:=h
abbrev e3.fR:e3:= .is (.deferred (some []))
def I.kc (f:FuncId)(τs:List I):I where
 holds A W v:= ∃ fI:List Value,v= .func (.func f) #[] fI.toArray∧hB A W τs fI
 mono e h:=let⟨fI,h1,ae⟩:=h; ⟨fI,h1,ae.mono e⟩
theorem bN.s8 {c E L a W}(h:bN c E L a W){i p:Nat}{cp cp':e3}(au:L[i]? =some ⟨some p,cp⟩){o':Obj}(ai:cp'.holds (aT L++c.cc) W o'):
 bN c E (L.set i ⟨some p,cp'⟩) a (W.putObj p o'):=by
 have iA:aT (L.set i ⟨some p,cp'⟩)=aT L:=IY (cp:=cp') au
 have hp:p∈aT L:=rQ.2 ⟨_,List.mem_of_getElem? au,rfl⟩
 have iN:Ext (aT L++c.cc) W (aT L++c.cc) (W.putObj p o'):=
  ⟨by simp,fun k _ a7=>World.putObj_heap_other (fun e=>a7 (e ▸ List.mem_append.2 (.inl hp))),fun _ h _=>h⟩
 exact
 {defers:=h.defers
  size:=h.size
  env:=fun t τ ao=>by rw [iA];exact let⟨v,h1,ae⟩:=h.env t τ ao; ⟨v,h1,τ.mono iN ae⟩
  eh:=⟨h.eh.os,h.eh.tape,h.eh.output,h.eh.drawn,by simpa using h.eh.size,fun k hk ar=>by
   rw [World.putObj_heap_other (fun e:k=p=>ar (by subst e;exact h.hf _ hp hk))];exact h.eh.block k hk ar⟩
  own:=fun e he=>by
   rw [iA];obtain⟨j,aF⟩:=List.mem_iff_getElem?.1 he;rw [List.getElem?_set] at aF;split at aF
   ·rename_i gr;subst gr;split at aF
    ·simp only [Option.some.injEq] at aF;subst aF;exact⟨_,World.putObj_heap_same (h.lt p hp),cp'.mono iN ai⟩
    cases aF
   rename_i gr;have h1:=h.own e (List.mem_of_getElem? aF);unfold aR.ok at *;split at h1
   ·rename_i q hq;obtain⟨o',vR,cB⟩:=h1;have dC:q≠p:=fun e'=>gr (MU h.nodup au aF rfl (e' ▸ hq));exact⟨o',by rw [World.putObj_heap_other dC];exact vR,e3.mono _ iN cB⟩
   exact h1
  nodup:=by rw [iA];exact h.nodup
  lt:=by rw [iA];simpa using h.lt
  hf:=by rw [iA];exact h.hf
  fB:=by rw [iA];simpa using h.fB }
theorem Ji {c:dy}{E:List (Nat×I)}{L:List aR}{d:Option Tmp}{ty:TypeId}{pos:String}{af:Array Edge}{g:Option (Nat×Bool)}{f:FuncId}{xs:List Operand}{τs:List I}(ar:jf c E L xs τs):
 b6 c E L ⟨d,.makeFunc (.func f) #[] xs.toArray,ty,pos,af,g⟩ (.kc f τs):= .pure fun a W s=>
 ⟨.func (.func f) #[] (xs.map a.eval).toArray,by simp [execOp,Instr.makeFunc],_,rfl,ar.holds a W s⟩
structure FI (A:List Nat)(W:World)(L:List aR):Prop where
 fB:∀ k∈A,k<W.heap.size∧k ∉ aT L
 nodup:(aT L).Nodup
 lt:∀ k∈aT L,k<W.heap.size
 ok:∀ e∈L,e.ok (aT L++A) W
def J9 (P:Program)(u:Value){α σ ε γ:Type}(τ:α→I)(Ls:σ→γ→List aR)(Lx:ε→γ→List aR)(step:α→σ→Option (σ ⊕ ε))(R:List Nat→World→Prop):Prop:=
 ∃ l,u= .func (.yield l) #[] #[]∧ ∀ x s r,step x s=some r→ ∀ g A W v,R (aT (Ls s g)++A) W→FI A W (Ls s g)→ (τ x).holds (aT (Ls s g)++A) W v→
   YieldAt Fence.wide 8 P l #[v] W (match r with
    | .inl cD=>ma (aT (Ls s g)) A W (fun _:γ=>I.of true) (fun g=>Ls cD g)
    | .inr q=>ma (aT (Ls s g)) A W (fun _:γ=>I.of false) (fun g=>Lx q g))
def Lr {σ ε γ:Type}(Ls:σ→γ→List aR)(Lx:ε→γ→List aR):σ ⊕ ε→γ→List aR
 | .inl s,g=>Ls s g
 | .inr q,g=>Lx q g
section
variable {c:dy} {E:List (Nat×I)} {L:List aR} {ops:Array Oper} {Q:Exit→Act→World→Prop}
variable {d:Option Tmp} {ty:TypeId} {pos:String} {af:Array Edge} {g:Option (Nat×Bool)} {x y:Operand} {t t2:TypeId}
theorem bN.U1 {a:Act}{W:World}(s:bN c E L a W):Ext (c.X++c.cc) c.kA (aT L++c.cc) W:=
 ⟨s.eh.size,fun k hk a7=>s.eh.block k hk fun ar=>a7 (List.mem_append.2 (.inl ar)),fun k hm cH=>by
   rcases List.mem_append.1 hm with hm | hm
   ·exact List.mem_append.2 (.inl (s.hf k hm cH))
   exact List.mem_append.2 (.inr hm)⟩
theorem bN.JO {a:Act}{W:World}{Lin Lr:List aR}(s:bN c E (Lin++Lr) a W):FI (aT Lr++c.cc) W Lin:=by
 have mR:=s.nodup;rw [fG] at mR;obtain⟨oG,qs,rb⟩:=List.nodup_append.1 mR;exact
 {fB:=fun k hm=>by
   rcases List.mem_append.1 hm with hm | hm
   ·exact⟨s.lt k (by rw [fG];exact List.mem_append.2 (.inr hm)),fun h=>rb k h k hm rfl⟩
   obtain⟨h1,ae⟩:=s.fB k hm;exact⟨h1,fun h=>ae (by rw [fG];exact List.mem_append.2 (.inl h))⟩
  nodup:=oG
  lt:=fun k hm=>s.lt k (by rw [fG];exact List.mem_append.2 (.inl hm))
  ok:=fun e he=>aR.uY (s.own e (List.mem_append.2 (.inl he))) (.drop fun k hm=>by
   rw [fG];simp only [List.mem_append] at hm ⊢;rcases hm with hm | hm | hm
   ·exact .inl (.inl hm)
   ·exact .inl (.inr hm)
   exact .inr hm) fun _ _=>rfl }
theorem BD {Lin Lr:List aR}{A:List Nat}{W:World} :Ext (aT (Lin++Lr)++A) W (aT Lin++(aT Lr++A)) W:= .drop fun k hm=>by
 rw [fG];simp only [List.mem_append] at hm ⊢;rcases hm with hm | hm | hm
 ·exact .inl (.inl hm)
 ·exact .inl (.inr hm)
 exact .inr hm
theorem Ip {Lin Lr:List aR}{A:List Nat}{W:World} :Ext (aT Lin++(aT Lr++A)) W (aT (Lin++Lr)++A) W:= .drop fun k hm=>by
 rw [fG] at hm;simp only [List.mem_append] at hm ⊢;rcases hm with(hm | hm) | hm
 ·exact .inl hm
 ·exact .inr (.inl hm)
 exact .inr (.inr hm)
theorem ab.yield {rest:List Oper}{bg wv:Nat}{ats:Array TypeId}{u:Value}{α σ ε γ:Type}{τ:α→I}{Ls:σ→γ→List aR}{Lx:ε→γ→List aR}{step:α→σ→Option (σ ⊕ ε)}{Lin:List aR}{x:Operand}{v:α}{s:σ}{gg:γ}{r:σ ⊕ ε}
 (ai:c.rd=none) (a1:J9 c.P u τ Ls Lx step (fun dd W'=>Ext (c.X++c.cc) c.kA dd W')) (aY:look E wv=some (.eq u)) (ar:bn c E (Lin++Ls s gg) x (τ v)) (aI:step v s=some r) (aQ:Nat.blt bg c.n=true)
 (aU:∀ cD,r= .inl cD→ ∀ eG,ab c ops Q rest ((bg,.of true)::E) (Lin++Ls cD eG)) (bK:∀ q,r= .inr q→ ∀ eG,ab c ops Q rest ((bg,.of false)::E) (Lin++Lx q eG)):
 ab c ops Q (⟨some bg,.call ⟨.value (.tmp wv),#[x],ats⟩,ty,pos,af,none⟩::rest) E (Lin++Ls s gg):=fun a W st=>by
 obtain⟨l,rfl,a1⟩:=a1
 obtain⟨PM,h1,ae⟩:=st.env wv _ aY
 have hu:PM= .func (.yield l) #[] #[]:=ae
 subst hu
 have rf:bN c E (Ls s gg++Lin) a W:=st.perm List.perm_append_comm
 have bm:=ar a W st
 have vX:(τ v).holds (aT (Ls s gg)++(aT Lin++c.cc)) W (a.eval x):=(τ v).mono (.drop fun k hm=>by
  rw [fG];simp only [List.mem_append] at hm ⊢;rcases hm with hm | hm | hm
  ·exact .inl (.inr hm)
  ·exact .inl (.inl hm)
  exact .inr hm) bm
 obtain⟨fn,tmps,assign,body,ka,kB⟩:=a1 v s r aI gg (aT Lin++c.cc) W (a.eval x) (rf.U1.trans BD) rf.JO vX
 have NJ:(execOp a.eval ⟨some bg,.call ⟨.value (.tmp wv),#[x],ats⟩,ty,pos,af,none⟩).run c.P W= .ok (.round l fn tmps assign body) W:=by
  rw [← ka];simp [execOp,resolve,Deferred.ofValue,Act.eval,h1,invoke,Sem.run_bind,Sem.run_pure,Result.andThen]
 refine wpListIn_plain rfl fun K wk=>?_
 refine⟨fun _ _=>trivial,?_⟩
 rw [Oper.semAt_eq _ _ _ (fun _ h=>by cases h),NJ,Oper.uponIn_round]
 refine⟨fun h=>by simp at h,?_⟩
 have OS:RoundIn c.F (9 - 1) c.P l fn tmps assign body W _:=kB
 refine OS.mono fun e W' he=>?_
 cases r with
 | inl cD=>
   obtain⟨w,eG,rfl,tn,aA,aV,bc,bs⟩:=he
   obtain rfl:=of_bool.1 bs
   refine wk _ _ (aU cD rfl eG _ _ ?_)
   exact(((rf.after tn aA aV bc).perm List.perm_append_comm).put (by simpa using aQ) (of_bool.2 rfl))
 | inr q=>
   obtain⟨w,eG,rfl,tn,aA,aV,bc,bs⟩:=he
   obtain rfl:=of_bool.1 bs
   refine wk _ _ (bK q rfl eG _ _ ?_)
   exact(((rf.after tn aA aV bc).perm List.perm_append_comm).put (by simpa using aQ) (of_bool.2 rfl))
theorem ab.eN {l:List Oper}{L2:List aR}(h:L=L2)(k:ab c ops Q l E L2):ab c ops Q l E L:=by subst h;exact k
theorem ab.cases {l:List Oper}(b:Bool)(h1:b=true→ab c ops Q l E L)(ae:b=false→ab c ops Q l E L):ab c ops Q l E L:=by
 cases b
 ·exact ae rfl
 exact h1 rfl
theorem ag.Up {x:Operand}{b:Bool}{y z:Code}(ao:bn c E L x (.of b))(hb:b=true)(k:ag c Q y E L):ag c Q (.cond x y z) E L:= .cond ao (fun _=>k) fun h=>by rw [hb] at h;cases h
theorem ag.B2 {x:Operand}{b:Bool}{y z:Code}(ao:bn c E L x (.of b))(hb:b=false)(k:ag c Q z E L):ag c Q (.cond x y z) E L:= .cond ao (fun h=>by rw [hb] at h;cases h) fun _=>k
def EU:Code→Exit
 | .ret=>.ret
 | .exit id=>.exit id
 | .goto t=>.goto t
 | _=>.normal
def y4:Code→Bool
 | .ret | .exit _ | .goto _=>true
 | _=>false
def KA {σ ε γ:Type}(c:dy)(js:ε→Code)(l D:Nat)(rec:Loop)(Ls:σ→γ→List aR)(Lx:ε→γ→List aR):σ ⊕ ε→Exit→Act→World→Prop
 | .inl cD,x,a,W=>x= .normal∧ ∃ g,bN c [] (⟨some l,.is (.loop rec)⟩::⟨some D,.fR⟩::Ls cD g) a W
 | .inr q,x,a,W=>y4 (js q)=true∧x=EU (js q)∧ ∃ g,bN c [] (⟨some l,.is (.loop rec)⟩::⟨some D,.fR⟩::Lx q g) a W
def KB (c:dy)(l:Nat)(body:Code)(Q:Exit→Act→World→Prop)(a:Act)(W:World):Prop:=
 ∃ qJ,(Instr.beginRound l).run c.P W= .ok () qJ∧c.wp body Q a qJ
theorem ad.begin {l:Nat}{body:Code}{wj:Exit→Act→World→Prop}(i:Nat){r:Loop}(al:L[i]? =some ⟨some l,.is (.loop r)⟩)(aI:r.state= .ready)
 (k:ag c Q body E (L.set i ⟨some l,.is (.loop { r with state:= .busy })⟩)):ad c (Exit.then (KB c l body Q) wj) .normal E L:=fun a W s=>by
 obtain⟨o,h1,ae⟩:=s.own _ (List.mem_of_getElem? al)
 have mA:o= .loop r:=ae
 subst mA
 exact⟨_,run_beginRound h1 aI,k _ _ (s.s8 al rfl)⟩
theorem ad.Wb {σ ε γ:Type}{js:ε→Code}{l D:Nat}{rec:Loop}{Ls:σ→γ→List aR}{Lx:ε→γ→List aR}{cD:σ}(g:γ)(n:Nat)(al:L.drop n=⟨some l,.is (.loop rec)⟩::⟨some D,.fR⟩::Ls cD g):
 ad c (KA c js l D rec Ls Lx (.inl cD)) .normal E L:=fun a W s=>⟨rfl,g,by rw [← al];exact(s.r3 n).less (fun t τ h=>by simp [look] at h)⟩
theorem ad.ac7 {σ ε γ:Type}{js:ε→Code}{l D:Nat}{rec:Loop}{Ls:σ→γ→List aR}{Lx:ε→γ→List aR}{q:ε}{x:Exit}(g:γ)(n:Nat)(aF:y4 (js q)=true)(ar:x=EU (js q))(al:L.drop n=⟨some l,.is (.loop rec)⟩::⟨some D,.fR⟩::Lx q g):
 ad c (KA c js l D rec Ls Lx (.inr q)) x E L:=fun a W s=>⟨aF,ar,g,by rw [← al];exact(s.r3 n).less (fun t τ h=>by simp [look] at h)⟩
theorem ag.jump {j:Code}(aF:y4 j=true)(k:ad c Q (EU j) E L):ag c Q j E L:=by
 cases j <;> simp only [y4] at aF <;> first | cases aF | skip
 all_goals first | exact .exit k | exact .ret k | exact fun a W s=>wpIn_goto (k a W s)
theorem QK {P:Program}{l:Nat}{R:Ending→World→Prop}{j:Code}{a:Act}{W W':World}{v:Value}(aF:y4 j=true)(bs:(Instr.endRound l (some j)).run P W= .ok v W')(kB:R (.returned v) W'):
 roundPost P l R (EU j) a W:=by
 cases j <;> simp only [y4] at aF <;> first | exact⟨_,_,bs,kB⟩ | cases aF
theorem bN.mark {a:Act}{W:World}(s:bN c E L a W)(D:Nat):bN { c with ds:=D::c.ds } E L { a with defers:=JL D::a.defers } W:=
 {defers:=by simp [s.defers],size:=s.size,env:=s.env,eh:=s.eh,own:=s.own,nodup:=s.nodup,lt:=s.lt,hf:=s.hf,fB:=s.fB }
def OT (P:Program)(f:FuncId)(τs:List I)(Lin:List aR){α σ ε γ:Type}(τ:α→I)(run:(α→σ→Option (σ ⊕ ε))→σ→Option (σ ⊕ ε))(Ls:σ→γ→List aR)(Lx:ε→γ→List aR):Prop:=
 ∀ (step:α→σ→Option (σ ⊕ ε)) (cT:σ) (g0:γ) (r:σ ⊕ ε),run step cT=some r→
   ∀ (A:List Nat) (W:World) (u:Value) (vs:List Value),FI A W (Lin++Ls cT g0)→hB (aT (Lin++Ls cT g0)++A) W τs vs→
     J9 P u τ Ls Lx step (fun dd W'=>Ext (aT (Lin++Ls cT g0)++A) W dd W')→
     Calls P f (u::vs).toArray W (ma (aT (Lin++Ls cT g0)) A W (fun _:γ=>.c4 []) (fun g=>Lin++Lr Ls Lx r g))
theorem aaG {gt p:Nat}{assign body:Code}{f:FuncId}{q6:List I}{Lin:List aR}{α σ ε γ:Type}{τ:α→I}{run:(α→σ→Option (σ ⊕ ε))→σ→Option (σ ⊕ ε)}
 {Ls:σ→γ→List aR} {Lx:ε→γ→List aR} {step:α→σ→Option (σ ⊕ ε)} {cT:σ} {g0:γ} {r:σ ⊕ ε} (js:ε→Code)
 (ai:c.rd=none) (eB:bF c.P f) (bO:look E gt=some (.kc f q6)) (nC:∀ av aX qt,OT c.P f q6 Lin τ run (fun s g=>av::aX::Ls s g) qt) (aI:run step cT=some r) (al:L=Lin++Ls cT g0) (hp:Nat.blt p c.n=true)
 (tS:∀ x s r,step x s=some r→ ∀ g (qk:World) (qz ql:List Nat) (l D:Nat) (rec:Loop),rec.state= .ready→
  ag ⟨c.P,c.n,qk,qz,ql,some l,[]⟩ (Exit.then (KB ⟨c.P,c.n,qk,qz,ql,some l,[]⟩ l body (KA ⟨c.P,c.n,qk,qz,ql,some l,[]⟩ js l D { rec with state:= .busy } Ls Lx r)) (fun _ _ _=>False)) assign ((p,τ x)::E) (⟨some l,.is (.loop rec)⟩::⟨some D,.fR⟩::Ls s g))
 (sZ:∀ cD,r= .inl cD→ ∀ g D,ad { c with ds:=D::c.ds } Q .normal E (⟨some D,.fR⟩::(Lin++Ls cD g)))
 (Fa:∀ q,r= .inr q→ ∀ g D,ag { c with ds:=D::c.ds } Q (js q) E (⟨some D,.fR⟩::(Lin++Lx q g))):
 ag c Q (.rangeFunc (.tmp gt) #[p] assign body) E L:=fun a W st=>by
 subst al
 refine wpIn_rangeFunc fun fn vY=>?_
 show ∃ l mark zA d afR CU args ahW,(Instr.enterLoop fn a.tmps #[p] assign body c.rd).run c.P W=_∧_
 rw [ai]
 obtain⟨rec,mx⟩:∃ rec:Loop,rec= { state:= .ready,pending:=none,fn,tmps:=a.tmps,params:= #[p],assign,body,defers:=W.heap.size } :=⟨_,rfl⟩
 obtain⟨v,Gh,fI,zQ,aiN⟩:=st.env gt _ bO
 obtain⟨iF,Gi⟩:∃ iF,(W.alloc (.deferred (some []))).alloc (.loop rec)=iF:=⟨_,rfl⟩
 have s1:=(st.alloc (o:= .deferred (some [])) (cp:= .fR) rfl).alloc (o:= .loop rec) (cp:= .is (.loop rec)) rfl
 rw [Gi,World.size_alloc] at s1
 obtain⟨D,mZ⟩:∃ D,D=W.heap.size:=⟨_,rfl⟩
 obtain⟨l,ao⟩:∃ l,l=W.heap.size+1:=⟨_,rfl⟩
 have Gj:=run_enterLoop_outer (P:=c.P) (w:=W) fn a.tmps #[p] assign body
 rw [← mx,Gi,← ao,← mZ] at Gj
 rw [← ao,← mZ] at s1
 obtain⟨nA,tp⟩:∃ nA:σ→γ→List aR,nA=fun s g=>⟨some l,.is (.loop rec)⟩::⟨some D,.fR⟩::Ls s g:=⟨_,rfl⟩
 obtain⟨qt,Gk⟩:∃ qt:ε→γ→List aR,qt=fun q g=>⟨some l,.is (.loop { rec with state:= .done,pending:=some (js q) })⟩::⟨some D,.fR⟩::Lx q g:=⟨_,rfl⟩
 have s2:bN c E (Lin++nA cT g0) a iF:=s1.perm (by
  rw [tp];exact(List.perm_middle.trans (List.perm_middle.cons _)).symm)
 have OU:hB (aT (Lin++nA cT g0)++c.cc) iF q6 fI:=by
  have h1:(I.kc f q6).holds (aT (Lin++nA cT g0)++c.cc) iF v:=by
   obtain⟨GS,h1,ae⟩:=s2.env gt _ bO;rw [Gh] at h1;cases h1;exact ae
  obtain⟨OV,av,aX⟩:=h1;rw [zQ] at av;have:OV=fI:=by injection av with _ _ av;injection av with av;exact av.symm
  rw [← this];exact aX
 have Gl:bN c E ((Lin++nA cT g0)++[]) a iF:=by rw [List.append_nil];exact s2
 have Fb:=Gl.JO
 simp only [aT,List.nil_append] at Fb
 have Oh:J9 c.P (.func (.yield l) #[] #[]) τ nA qt step (fun dd W'=>Ext (aT (Lin++nA cT g0)++c.cc) iF dd W'):=by
  refine⟨l,rfl,fun x s nc hs g A qJ v2 iN hle bm=>?_⟩;have FJ:=hle;rw [tp] at FJ;obtain⟨o,cF,fp⟩:=FJ.ok ⟨some l,.is (.loop rec)⟩ (by simp);have s9:o= .loop rec:=fp;subst s9;have a1:=run_yield (P:=c.P) (args:= #[v2]) cF (by rw [mx];rfl);refine⟨_,_,_,_,a1,roundIn_of_wpIn trivial ?_⟩;have av:rec.assign=assign:=by rw [mx]
  have aX:rec.body=body:=by rw [mx]
  have c0:rec.params= #[p]:=by rw [mx]
  have gb:rec.tmps=a.tmps:=by rw [mx]
  rw [av,aX,c0,gb];refine Ig (n:=9) rfl ?_;have NK:((#[p]:Array Tmp).zip #[v2]).foldl (fun tmps (t,a)=>tmps.setIfInBounds t a) a.tmps=a.tmps.setIfInBounds p v2:=by simp
  rw [NK];subst tp Gk;refine wpIn_mono ((tS x s nc hs g qJ (aT (⟨some l,.is (.loop rec)⟩::⟨some D,.fR⟩::Ls s g)) A l D rec (by rw [mx])) { tmps:=a.tmps.setIfInBounds p v2,defers:= [] } qJ ?_) ?_
  ·have kH:p<c.n:=by simpa using hp
   exact
   {defers:=rfl
    size:=by simp [s2.size]
    env:=fun t vQ ft=>by
     simp only [look] at ft;by_cases e:Nat.beq p t=true
     ·rw [e] at ft;simp only [cond_true,Option.some.injEq] at ft;subst ft;have:=fm.1 e;subst this;exact⟨v2,by simp [s2.size,kH],bm⟩
     simp only [Bool.not_eq_true] at e;rw [e] at ft;simp only [cond_false] at ft;obtain⟨u,h1,ae⟩:=s2.env t vQ ft;have dC:p≠t:=fun h=>by rw [fm.2 h] at e;cases e
     exact⟨u,by rw [Array.getElem?_setIfInBounds_ne dC];exact h1,vQ.mono iN ae⟩
    eh:= .refl _ _
    own:=hle.ok
    nodup:=hle.nodup
    lt:=hle.lt
    hf:=fun k hk _=>hk
    fB:=hle.fB }
  intro e a3 ake hq;cases e with
  | normal=>
    obtain⟨PN,OW,hb⟩:=hq
    refine⟨PN,OW,Ig (n:=9) rfl (wpIn_mono hb ?_)⟩
    intro e a5 GU Ka
    have fin:∀ (jump:Option Code) {Lr:List aR},bN ⟨c.P,c.n,qJ,aT (⟨some l,.is (.loop rec)⟩::⟨some D,.fR⟩::Ls s g),A,some l,[]⟩ [] (⟨some l,.is (.loop { rec with state:= .busy })⟩::⟨some D,.fR⟩::Lr) a5 GU→
     ∃ ru,(Instr.endRound l jump).run c.P GU= .ok (.bool jump.isNone) ru∧bN ⟨c.P,c.n,qJ,aT (⟨some l,.is (.loop rec)⟩::⟨some D,.fR⟩::Ls s g),A,some l,[]⟩ [] (⟨some l,.is (.loop { rec with state:=if jump.isNone then .ready else .done,pending:=jump })⟩::⟨some D,.fR⟩::Lr) a5 ru:=fun jump Lr jD=>by
     obtain⟨o,h1,ae⟩:=jD.own ⟨some l,.is (.loop { rec with state:= .busy })⟩ (by simp)
     have mA:o= .loop { rec with state:= .busy } :=ae
     subst mA
     exact⟨_,run_endRound jump h1,jD.s8 (i:=0) rfl rfl⟩
    cases nc with
    | inl cD=>
      obtain⟨rfl,eG,jD⟩:=Ka
      obtain⟨ru,bs,kx⟩:=fin none jD
      refine⟨_,ru,bs,?_⟩
      have OX:({ rec with state:=if (none:Option Code).isNone then .ready else .done,pending:=none } :Loop)=rec:=by rw [mx];rfl
      rw [OX] at kx
      exact kx.ends (ρ:=fun _:γ=>I.of true) (Lo:=fun g=>⟨some l,.is (.loop rec)⟩::⟨some D,.fR⟩::Ls cD g) eG (List.Sublist.refl _) (of_bool.2 rfl)
    | inr q=>
      obtain⟨aF,rfl,eG,jD⟩:=Ka
      obtain⟨ru,bs,kx⟩:=fin (some (js q)) jD
      have key:ma (aT (⟨some l,.is (.loop rec)⟩::⟨some D,.fR⟩::Ls s g)) A qJ (fun _:γ=>I.of false) (fun g=>⟨some l,.is (.loop { rec with state:= .done,pending:=some (js q) })⟩::⟨some D,.fR⟩::Lx q g) (.returned (.bool false)) ru:=
       kx.ends (ρ:=fun _:γ=>I.of false) (Lo:=fun g=>⟨some l,.is (.loop { rec with state:= .done,pending:=some (js q) })⟩::⟨some D,.fR⟩::Lx q g) eG (List.Sublist.refl _) (of_bool.2 rfl)
      exact QK aF bs key
  | exit id=>exact hq.elim
  | goto t=>exact hq.elim
  | ret=>exact hq.elim
  | panic l3=>exact hq.elim
  | outgrown=>exact hq.elim
 have OY:OT c.P f q6 Lin τ run nA qt:=by rw [tp];exact nC _ _ qt
 have zi:=OY step cT g0 r aI c.cc iF (.func (.yield l) #[] #[]) fI Fb OU Oh
 have ny:a.eval (.tmp gt)= .func (.func f) #[] fI.toArray:=by simp [Act.eval,Gh,zQ]
 refine⟨l,[JL D],iF,{ target:= .fn (.func f) fI.toArray,args:= #[.func (.yield l) #[] #[]] },iF,f,#[.func (.yield l) #[] #[]]++fI.toArray,iF,Gj,?_,fun _ _=>trivial,?_,fun h=>by simp at h,?_⟩
 ·simp only [resolve,ny]
  simp [go_sem]
 ·simp [invoke,go_sem,eB.run]
 refine CallsIn.Mm ?_
 have NL:(#[.func (.yield l) #[] #[]]++fI.toArray:Array Value)=(.func (.yield l) #[] #[]::fI).toArray:=by simp
 rw [NL]
 refine zi.mono fun e PO ⟨akf,eG,he,aY,aA,aV,bc,bs⟩=>?_
 subst he
 have rv:=Gl.after aY aA (by simpa [aT] using aV) (by simpa [aT] using bc)
 rw [List.append_nil] at rv
 cases r with
 | inl cD=>
   simp only [Lr] at rv
   subst tp
   have GV:bN c E (⟨some l,.is (.loop rec)⟩::⟨some D,.fR⟩::(Lin++Ls cD eG)) a PO:=rv.perm (by
    exact List.perm_middle.trans (List.perm_middle.cons _))
   obtain⟨o,cF,fp⟩:=GV.own ⟨some l,.is (.loop rec)⟩ (by simp)
   have s9:o= .loop rec:=fp
   subst s9
   have o4:=run_endLoop (P:=c.P) cF (by rw [mx];simp)
   have kH:rec.pending=none:=by rw [mx]
   rw [kH] at o4
   refine⟨none,_,o4,?_⟩
   have wx:=(GV.s8 (i:=0) (cp':= .is (.loop { rec with state:= .exhausted })) (o':= .loop { rec with state:= .exhausted }) rfl rfl).r3 1
   rw [kH] at wx
   exact sZ cD rfl eG D _ _ (wx.mark D)
 | inr q=>
   simp only [Lr] at rv
   subst Gk
   have GV:bN c E (⟨some l,.is (.loop { rec with state:= .done,pending:=some (js q) })⟩::⟨some D,.fR⟩::(Lin++Lx q eG)) a PO:=rv.perm (by
    exact List.perm_middle.trans (List.perm_middle.cons _))
   obtain⟨o,cF,fp⟩:=GV.own ⟨some l,.is (.loop { rec with state:= .done,pending:=some (js q) })⟩ (by simp)
   have s9:o= .loop { rec with state:= .done,pending:=some (js q) } :=fp
   subst s9
   have o4:=run_endLoop (P:=c.P) cF (by simp)
   refine⟨some (js q),_,o4,?_⟩
   have wx:=(GV.s8 (i:=0) (cp':= .is (.loop { rec with state:= .exhausted,pending:=some (js q) })) (o':= .loop { rec with state:= .exhausted,pending:=some (js q) }) rfl rfl).r3 1
   exact Fa q rfl eG D _ _ (wx.mark D)
theorem Zs {P:Program}{fn:Func}{R:Ending→World→Prop}{a:Act}{W:World}(h:bodyPost P fn R .ret a W):bodyPostM Fence.wide 9 P fn R .ret a W:=by
 obtain⟨h1,v,ae,aA⟩:=h;show LeavesInM Fence.wide 9 P fn a.tmps R a.defers .returning W;rw [h1];exact⟨v,ae,aA⟩
theorem ad.lS {P:Program}{fn:Func}{R:Ending→World→Prop}(k:ad c (bodyPost P fn R) .ret E L):ad c (bodyPost P fn R) .normal E L:=fun a W s=>k a W s
theorem ad.JI {fn:Func}{R:Ending→World→Prop}(k:ad c (bodyPost c.P fn R) .ret E L):ad c (bodyPostM Fence.wide 9 c.P fn R) .ret E L:=fun a W s=>Zs (k a W s)
theorem ad.JJ {fn:Func}{R:Ending→World→Prop}{D:Nat}(i:Nat)(al:L[i]? =some ⟨some D,.fR⟩)(gv:c.ds= [D])(k:ad { c with ds:= [] } (bodyPost c.P fn R) .ret E (L.set i ⟨some D,.is (.deferred none)⟩)):
 ad c (bodyPostM Fence.wide 9 c.P fn R) .ret E L:=fun a W s=>by
 obtain⟨o,h1,ae⟩:=s.own _ (List.mem_of_getElem? al)
 have mA:o= .deferred (some []):=ae
 subst mA
 have s2:=s.s8 al (cp':= .is (.deferred none)) (o':= .deferred none) rfl
 have iD:bN { c with ds:= [] } E (L.set i ⟨some D,.is (.deferred none)⟩) { a with defers:= [] } (W.putObj D (.deferred none)):=
  {defers:=rfl,size:=s2.size,env:=s2.env,eh:=s2.eh,own:=s2.own,nodup:=s2.nodup,lt:=s2.lt,hf:=s2.hf,fB:=s2.fB }
 obtain⟨_,v,aA,aV⟩:=k _ _ iD
 show LeavesInM Fence.wide 9 c.P fn a.tmps R a.defers .returning W
 rw [s.defers,gv]
 exact⟨by simp,.inl ⟨D,_,rfl,run_takeDeferred h1,v,aA,aV⟩⟩
end
theorem b2.akC {P:Program}{f:FuncId}{fn:Func}{code:Code}{n:Nat}{τs:List I}{ρ:I}(aY:P.funcs[f]? =some fn)(hb:fn.body=some code)(aQ:fn.ntmps=n)(hlen:Nat.ble τs.length n=true)
 (h:∀ W A,ag ⟨P,n,W,[],A,none,[]⟩ (bodyPostM Fence.wide 9 P fn fun e W'=> ∃ v,e= .returned v∧Fr [] W W'∧ρ.holds A W' v) code (params 0 τs) []):b2 P f τs ρ:=by
 intro A W vs fT bm
 refine(callsIn_wide (n:=9)).1 (callsIn_of_wp_marks aY hb trivial (h W A _ _ ?_))
 have ao:=bm.length
 have hle:τs.length≤n:=Nat.le_of_ble_eq_true hlen
 exact
 {defers:=rfl
  size:=by simp [aQ,ao];omega
  env:=fun t τ lW=>by
   obtain⟨_,v,ae,aA⟩:=Bk bm 0 t τ lW;refine⟨v,?_,aA⟩;have cH:t<vs.length:=(List.getElem?_eq_some_iff.1 ae).1;rw [Array.getElem?_append_left (by simpa using cH)];simpa using ae
  eh:= .refl _ _
  own:=by simp
  nodup:=by simp [aT]
  lt:=by simp [aT]
  hf:=by simp [aT]
  fB:=fun k hk=>⟨fT k hk,by simp [aT]⟩ }
theorem bt.ofM {P:Program}{f:FuncId}{fn:Func}{code:Code}{n:Nat}{τs:List I}{Lin:List aR}{δ:Type}{ρ:δ→I}{Lo:δ→List aR}(aY:P.funcs[f]? =some fn)(hb:fn.body=some code)(aQ:fn.ntmps=n)(hlen:Nat.ble τs.length n=true)
 (h:∀ W A,ag ⟨P,n,W,aT Lin,A,none,[]⟩ (bodyPostM Fence.wide 9 P fn (ma (aT Lin) A W ρ Lo)) code (params 0 τs) Lin):bt P f τs Lin ρ Lo:=by
 intro A W vs fT k9 cH jA bm
 refine(callsIn_wide (n:=9)).1 (callsIn_of_wp_marks aY hb trivial (h W A _ _ ?_))
 have ao:=bm.length
 have hle:τs.length≤n:=Nat.le_of_ble_eq_true hlen
 exact
 {defers:=rfl
  size:=by simp [aQ,ao];omega
  env:=fun t τ lW=>by
   obtain⟨_,v,ae,aA⟩:=Bk bm 0 t τ lW;refine⟨v,?_,aA⟩;have cH:t<vs.length:=(List.getElem?_eq_some_iff.1 ae).1;rw [Array.getElem?_append_left (by simpa using cH)];simpa using ae
  eh:= .refl _ _
  own:=jA
  nodup:=k9
  lt:=cH
  hf:=fun k hk _=>hk
  fB:=fT }
theorem LJ {τ σ:I}(h:τ.Flat)(k:σ.Flat):(I.c4 [τ,σ]).Flat:=fun A W dd W' v ⟨vs,h1,ae⟩=>by
 refine⟨vs,h1,?_⟩;generalize vs.toList=l at ae;cases ae with
 | cons a r=>cases r with
   | cons b r=>cases r;exact .cons (h _ _ _ _ _ a) (.cons (k _ _ _ _ _ b) .nil)
section
variable {c:dy} {E:List (Nat×I)} {L:List aR} {ops:Array Oper} {Q:Exit→Act→World→Prop}
variable {d:Option Tmp} {ty:TypeId} {pos:String} {af:Array Edge} {g:Option (Nat×Bool)} {x y:Operand} {t t2:TypeId}
theorem b6.via {o:Oper}{τ:I}{E':List (Nat×I)}{L':List aR}(aY:τ.Flat)(hs:∀ a W,bN c E L a W→bN c E' L' a W)(h:b6 c E' L' o τ):b6 c E L o τ:=fun a W st=>by
 have:=h a W (hs a W st);unfold hK at this ⊢;exact Oper.wp_mono (fun hx W' ⟨v,h1,ae,aA⟩=>⟨v,h1,ae,aY _ _ _ _ _ aA⟩) this
theorem bN.tell {a:Act}{W:World}(s:bN c E L a W){gH:Nat}{σ τ:I}(ao:look E gH=some σ)(h:∀ v,σ.holds (aT L++c.cc) W v→τ.holds (aT L++c.cc) W v):bN c ((gH,τ)::E) L a W:=by
 refine { s with env:=fun t vQ ft=>?_ };simp only [look] at ft;by_cases e:Nat.beq gH t=true
 ·rw [e] at ft;simp only [cond_true,Option.some.injEq] at ft;subst ft;have:=fm.1 e;subst this;obtain⟨v,h1,ae⟩:=s.env gH _ ao;exact⟨v,h1,h v ae⟩
 simp only [Bool.not_eq_true] at e;rw [e] at ft;exact s.env t vQ ft
theorem bN.U2 {a:Act}{W:World}(s:bN c E L a W){i p:Nat}{α:Type}[aj α]{z:α}(al:L[i]? =some ⟨some p,.var z⟩):
 (I.ptr z).holds (aT (L.set i ⟨none,.dead⟩)++c.cc) W (.pointer (some ⟨p,0,none⟩)):=by
 obtain⟨o,fC,cs,T,rfl,aI⟩:=s.own _ (List.mem_of_getElem? al)
 have hlen:cs.toList.length=aj.size α:=aj.len aI
 refine⟨p,0,cs,T,(0,0),rfl,s.Et al,fC,by simp at hlen;omega,?_⟩
 rw [List.drop_zero,← hlen,List.take_length]
 have nZ:=A5 (L:=L) (i:=i) (cp:= .dead)
 exact aj.mono (.drop fun k hm=>by
  rcases List.mem_append.1 hm with hm | hm
  ·exact List.mem_append.2 (.inl (nZ.subset hm))
  exact List.mem_append.2 (.inr hm)) aI
abbrev Gm (f p:Nat):Value:= .func (.func f) #[.pointer (some ⟨p,0,none⟩)] #[]
theorem afq {f p:Nat}(ar:bn c E L x (.eq (.pointer (some ⟨p,0,none⟩)))):b6 c E L ⟨d,.makeFunc (.func f) #[x] #[],ty,pos,af,g⟩ (.eq (Gm f p)):= .pure fun a W s=>by
 have h:=ar a W s;refine⟨_,?_,rfl⟩;have dc:a.eval x= .pointer (some ⟨p,0,none⟩):=h;simp [execOp,Instr.makeFunc,dc,Gm]
theorem acw {f p:Nat}{α β γ δ:Type}[aj α][aj β][aj γ][aj δ]{z:δ}{F:α→β→Option γ}{P:Program}(eB:bF P f)(h:∀ x y r,F x y=some r→b2 P f [.ptr z,.of x,.of y] (.of r)){A:List Nat}{W:World}
 (hp:(I.ptr z).holds A W (.pointer (some ⟨p,0,none⟩))):(I.xJ P F).holds A W (Gm f p):=
 ⟨f,_,#[],rfl,eB,fun dd W' e fT x y r n9 tw mG bm zQ=>by simpa using h x y r mG dd W' [_,n9,tw] fT (.cons (I.mono _ e hp) (.cons bm (.cons zQ .nil)))⟩
theorem b6.Ny {o:Oper}{τ σ:I}{p:Nat}{α:Type}[aj α]{z:α}(i gH:Nat)(ao:look E gH=some σ)(bm:∀ A W v,σ.holds A W v→v= .pointer (some ⟨p,0,none⟩))(al:L[i]? =some ⟨some p,.var z⟩)(aY:τ.Flat)
 (h:b6 c ((gH,.ptr z)::E) (L.set i ⟨none,.dead⟩) o τ):b6 c E L o τ:=
 .via aY (fun a W s=>(s.kill i).tell (σ:=σ) ao (fun v cB=>by rw [bm _ _ _ cB];exact s.U2 al)) h
theorem b6.adk {o:Oper}{τ:I}{p f:Nat}{α β γ δ:Type}[aj α][aj β][aj γ][aj δ]{z:δ}{F:α→β→Option γ}(i gH:Nat)(ao:look E gH=some (.eq (Gm f p)))(al:L[i]? =some ⟨some p,.var z⟩)(eB:bF c.P f)
 (mG:∀ x y r,F x y=some r→b2 c.P f [.ptr z,.of x,.of y] (.of r)) (aY:τ.Flat) (h:b6 c ((gH,.xJ c.P F)::E) (L.set i ⟨none,.dead⟩) o τ):b6 c E L o τ:=
 .via aY (fun a W s=>(s.kill i).tell ao (fun v cB=>by have aiO:v=Gm f p:=cB;rw [aiO];exact acw eB mG (s.U2 al))) h
theorem b6.afp {o:Oper}{τ:I}{p cap T:Nat}{key:Option Nat}{β γ:Type}[aj β][aj γ]{b b':β}{xs:List γ}{os os':List (Nat×Value)}(l:aJ β (List γ))(i j q:Nat)(gr:Nat.beq i j=false)(al:L[i]? =some ⟨some p,.cE b os⟩)(sx:L[j]? =some ⟨key,.row T xs cap⟩)
 (hq:os[q]? =some (l.off,aS key xs.length cap)) (hb:l.set b xs=b') (re:tJ os l.off=os') (aY:τ.Flat) (h:b6 c E ((L.set j ⟨none,.dead⟩).set i ⟨some p,.cE b' os'⟩) o τ):b6 c E L o τ:=
 .via aY (fun a W s=>s.mQ l (fun e=>by rw [e,Nat.beq_refl] at gr;cases gr) al sx q hq hb re) h
theorem b6.adj {o:Oper}{τ:I}{p cap T:Nat}{key:Option Nat}{β γ:Type}[aj β][aj γ]{b b':β}{xs:List γ}{os os':List (Nat×Value)}(l:aJ β (List γ))(i j q gH:Nat)(gr:Nat.beq i j=false)(al:L[i]? =some ⟨some p,.cE b os⟩)(sx:L[j]? =some ⟨key,.row T xs cap⟩)
 (hq:os[q]? =some (l.off,aS key xs.length cap)) (hb:l.set b xs=b') (re:tJ os l.off=os') (sl:look E gH=some (.eq (aS key xs.length cap))) (aY:τ.Flat) (h:b6 c ((gH,.of xs)::E) ((L.set j ⟨none,.dead⟩).set i ⟨some p,.cE b' os'⟩) o τ):b6 c E L o τ:=
 .via aY (fun a W s=>s.Jl l (fun e=>by rw [e,Nat.beq_refl] at gr;cases gr) al sx q hq hb re sl) h
theorem b6.UK {o:Oper}{τ:I}{p:Nat}{β:Type}[aj β]{b:β}(i:Nat)(al:L[i]? =some ⟨some p,.cE b []⟩)(aY:τ.Flat)(h:b6 c E (L.set i ⟨some p,.var b⟩) o τ):b6 c E L o τ:=
 .via aY (fun a W s=>s.ES (cp':= .var b) al (fun o ⟨cs,T,h1,ae⟩=>⟨cs,T,h1,ae.1⟩) id) h
theorem Rg {P:Program}{T:TypeId}{e:TypeId}(h:P.underlying T=some (.pointer e))(p:Addr)(W:World)(n:Nat):(Op.equalIn (n+1) T (.pointer (some p)) (.pointer none)).run P W= .ok false W:=by
 simp [Op.equalIn,run_underlying h]
theorem IQ {p:Addr}{e:TypeId}(hu:c.P.underlying t=some (.pointer e))(ar:bn c E L x (.eq (.pointer (some p)))):b6 c E L ⟨d,.binOp .eql t x (.const (.pointer none)) t2,ty,pos,af,g⟩ (.of false):= .pure fun a W s=>by
 have aQ:a.eval (.const (.pointer none))= .pointer none:=rfl;have h1:a.eval x= .pointer (some p):=ar a W s;refine⟨.bool false,?_,of_bool.2 rfl⟩;simp only [execOp,eqGuard,binOp,h1,aQ,Op.equal,Op.maxDepth];simp [Rg hu p W 9999]
theorem ab9 {γ:Type}[aj γ]{r:γ}{e:TypeId}(hu:c.P.underlying t=some (.pointer e))(ar:bn c E L x (.ptr r)):b6 c E L ⟨d,.binOp .eql t x (.const (.pointer none)) t2,ty,pos,af,g⟩ (.of false):= .pure fun a W s=>by
 have aQ:a.eval (.const (.pointer none))= .pointer none:=rfl;obtain⟨b,off,cur,T,iS,h1,_⟩:=ar a W s;refine⟨.bool false,?_,of_bool.2 rfl⟩;simp only [execOp,eqGuard,binOp,h1,aQ,Op.equal,Op.maxDepth];simp [Rg hu _ W 9999]
def eW (c:dy)(E:List (Nat×I))(L:List aR)(o:Oper)(τ:I):Prop:=
 ∀ a W,bN c E L a W→hK c.P o a W fun v W'=>bN c E L a W'∧τ.holds (aT L++c.cc) W' v
theorem ab.gj {o:Oper}{rest:List Oper}{d:Nat}{τ:I}(h:eW c E L o τ)(bO:o.guard=none)(hd:o.dst=some d)(aQ:Nat.blt d c.n=true)
 (k:ab c ops Q rest ((d,τ)::E) L):ab c ops Q (o::rest) E L:=fun a W s=>
 jl bO (h a W s) fun v W' ⟨f,bm⟩=>by
  rw [hd];exact k _ _ (f.put (by simpa using aQ) bm)
theorem ab.PF {o:Oper}{rest:List Oper}{d j g:Nat}{b want:Bool}{τ:I}(h:b=want→eW c E L o τ)(bO:o.guard=some (j,want))(aF:(ops[j]?).bind (·.dst)=some g)
 (ao:look E g=some (.of b)) (hd:o.dst=some d) (aQ:Nat.blt d c.n=true)
 (k:ab c ops Q rest ((d,.cond (b=want) τ)::E) L):ab c ops Q (o::rest) E L:=fun a W s=>by
 have a1:=H7 aF ao s
 unfold dy.ti wpListIn
 by_cases hb:b=want
 ·rw [if_pos (by simp [Region.wanted,bO,a1,hb])]
  refine((h hb a W s).wpIn fun v W' ⟨f,bm⟩=>?_)
  rw [hd]
  exact k _ _ (f.put (by simpa using aQ) ⟨fun _=>bm,fun h=>absurd hb h⟩)
 rw [if_neg (by simp [Region.wanted,bO,a1,hb])]
 rw [hd]
 exact⟨fun _ _=>trivial,k _ _ (s.put (by simpa using aQ) ⟨fun h=>absurd h hb,fun _=>rfl⟩)⟩
def sj (L:List aR):List Nat→List aR→Prop
 | [],[]=>True
 | i::is,e::es=>L[i]? =some e∧sj L is es
 | _,_=>False
theorem QU {L:List aR}{i j:Nat}(h:i≠j):(L.eraseIdx i)[if j<i then j else j - 1]? =L[j]? :=by
 rw [List.getElem?_eraseIdx];by_cases h1:j<i
 ·simp [h1]
 have: ¬ (j - 1<i):=by omega
 simp only [h1,if_false,this];congr 1;omega
theorem sj.shift {L:List aR}{i:Nat} :∀ {is:List Nat} {es:List aR},sj L is es→i ∉ is→sj (L.eraseIdx i) (is.map fun j=>if j<i then j else j - 1) es
 | [],[],_,_=>trivial
 | j::is,e::es,⟨h1,ae⟩,aQ=>by
   simp only [List.mem_cons,not_or] at aQ;exact⟨by rw [QU aQ.1];exact h1,sj.shift ae aQ.2⟩
theorem QZ {i:Nat} :∀ {is:List Nat},is.Nodup→i ∉ is→ (is.map fun j=>if j<i then j else j - 1).Nodup
 | [],_,_=>by simp
 | j::is,h,aQ=>by
   simp only [List.mem_cons,not_or] at aQ;obtain⟨h1,ae⟩:=List.nodup_cons.1 h;refine List.nodup_cons.2 ⟨fun hm=>?_,QZ ae aQ.2⟩;obtain⟨k,hk,he⟩:=List.mem_map.1 hm;have o6:k≠i:=fun e=>aQ.2 (e ▸ hk);have ak1:k≠j:=fun e=>h1 (e ▸ hk);have kf:j≠i:=fun e=>aQ.1 e.symm;have Wr:(if k<i then k else k - 1)=(if j<i then j else j - 1):=he;split at Wr <;> split at Wr <;> omega
theorem sj.perm:∀ {is:List Nat} {es L:List aR},sj L is es→is.Nodup→ ∃ R,L.Perm (es++R)
 | [],[],L,_,_=>⟨L,List.Perm.refl _⟩
 | i::is,e::es,L,⟨h1,ae⟩,aQ=>by
   obtain⟨oG,qs⟩:=List.nodup_cons.1 aQ;obtain⟨R,kB⟩:=(ae.shift oG).perm (QZ qs oG);exact⟨R,(wU h1).trans (kB.cons e)⟩
 termination_by is=>is.length
 decreasing_by simp
theorem eW.call {f:FuncId}{xs:List Operand}{ats:Array TypeId}{τs:List I}{Lin:List aR}{ρ:Unit→I}{Lo:Unit→List aR}(is:List Nat)(eB:bF c.P f)(h:bt c.P f τs Lin ρ Lo)
 (ar:jf c E L xs τs) (aQ:decide is.Nodup=true) (hp:sj L is Lin) (ao:Lo ()=Lin):eW c E L ⟨d,.call ⟨.value (.func f),xs.toArray,ats⟩,ty,pos,af,g⟩ (ρ ()):=fun a W s=>by
 obtain⟨R,kB⟩:=hp.perm (of_decide_eq_true aQ)
 have cD:=s.perm kB
 have qu:=yT kB
 have Kb:∀ k,k∈aT L++c.cc↔k∈aT (Lin++R)++c.cc:=fun k=>by
  simp only [List.mem_append];rw [qu.mem_iff]
 have cB:hB (aT (Lin++R)++c.cc) W τs (xs.map a.eval):=(ar.TF s).mono (.drop fun k hm=>(Kb k).2 hm)
 have bp:=El (d:=d) (ty:=ty) (pos:=pos) (af:=af) (g:=g) (ats:=ats) eB h cD cB
 unfold hK at bp ⊢
 refine Oper.wp_mono (fun hx W' ⟨v,h1,bg,ae,aA⟩=>⟨v,h1,?_,?_⟩) bp
 ·cases bg;rw [ao] at ae;exact ae.perm kB.symm
 cases bg
 rw [ao] at aA
 exact I.mono _ (.drop fun k hm=>(Kb k).1 hm) aA
theorem sj.set {L:List aR}{i j:Nat}{x y av aX:aR}(gr:i≠j)(au:L[i]? =some av)(aF:L[j]? =some aX):∃ R,L.Perm (av::aX::R)∧ ((L.set i x).set j y).Perm (x::y::R):=by
 have ak2:sj L [i,j] [av,aX]:=⟨au,aF,trivial⟩;have hle:∀ M:List aR,∀ u v:aR,M[i]? =some u→M[j]? =some v→M.Perm (u::v::(M.eraseIdx i).eraseIdx (if j<i then j else j - 1)):=fun M u v h1 ae=>
  (wU h1).trans ((wU (by rw [QU gr];exact ae)).cons u)
 refine⟨_,hle L av aX au aF,?_⟩;have hX:=(List.getElem?_eq_some_iff.1 au).1;have sm:=(List.getElem?_eq_some_iff.1 aF).1;have h1:=hle ((L.set i x).set j y) x y (by rw [List.getElem?_set_ne (Ne.symm gr),List.getElem?_set_self hX]) (by rw [List.getElem?_set_self (by simpa using sm)]);have ae:((L.set i x).set j y).eraseIdx i=(L.eraseIdx i).set (if j<i then j else j - 1) y:=by
  apply List.ext_getElem?;intro k;simp only [List.getElem?_eraseIdx,List.getElem?_set,List.length_set,List.length_eraseIdx,hX,if_true];by_cases hk:k<i <;> by_cases kf:j<i <;> simp only [hk,kf,if_true,if_false] <;> (repeat' split) <;> first | rfl | omega | skip
 rw [ae,List.eraseIdx_set_eq] at h1;exact h1
theorem ab.adl {rest:List Oper}{bg:Nat}{f:FuncId}{xs:List Operand}{ats:Array TypeId}{τs:List I}{av aX:aR}{δ:Type}{ρ:δ→I}{Lo:δ→List aR}(lo:δ→aR)(i j:Nat)(eB:bF c.P f)(h:bt c.P f τs [av,aX] ρ Lo)
 (ar:jf c E L xs τs) (gr:Nat.beq i j=false) (au:L[i]? =some av) (aF:L[j]? =some aX) (ij:∀ q,Lo q= [lo q]) (aQ:Nat.blt bg c.n=true) (k:∀ q,ab c ops Q rest ((bg,ρ q)::E) ((L.set i (lo q)).set j ⟨none,.dead⟩)):
 ab c ops Q (⟨some bg,.call ⟨.value (.func f),xs.toArray,ats⟩,ty,pos,af,none⟩::rest) E L:=fun a W s=>by
 have dC:i≠j:=fun e=>by rw [e,Nat.beq_refl] at gr;cases gr
 obtain⟨R,kB,_⟩:=sj.set (x:=av) (y:=aX) dC au aF
 have cD:=s.perm kB
 have qu:=yT kB
 have Kb:∀ k,k∈aT L++c.cc↔k∈aT ([av,aX]++R)++c.cc:=fun k=>by
  simp only [List.mem_append];rw [qu.mem_iff];simp [fG]
 have cB:hB (aT ([av,aX]++R)++c.cc) W τs (xs.map a.eval):=(ar.TF s).mono (.drop fun k hm=>(Kb k).2 hm)
 refine jl rfl (El (Lin:= [av,aX]) eB h cD cB) fun v W' ⟨q,ae,aA⟩=>?_
 refine k q _ _ ?_
 obtain⟨KC,OE,J3⟩:=sj.set (x:=lo q) (y:=⟨none,.dead⟩) dC au aF
 have aiP:(av::aX::R).Perm (av::aX::KC):=kB.symm.trans OE
 have VU:R.Perm KC:=(aiP.cons_inv).cons_inv
 rw [ij] at ae aA
 have aV:bN c E (lo q::⟨none,.dead⟩::R) a W':= { ae with
  own:=fun e he=>by
   simp only [List.mem_cons] at he;rcases he with rfl | rfl | he
   ·exact ae.own _ (by simp)
   ·trivial
   exact ae.own _ (by simp [he]) }
 have bc:bN c E ((L.set i (lo q)).set j ⟨none,.dead⟩) a W':=aV.perm (((VU.cons _).cons _).trans J3.symm)
 have bs:(aT ((L.set i (lo q)).set j ⟨none,.dead⟩)).Perm (aT (lo q::R)):=by
  have:=yT (J3.trans ((VU.symm.cons _).cons _));simpa [aT] using this
 refine bc.put (by simpa using aQ) (I.mono _ (.drop fun k hm=>?_) aA)
 rcases List.mem_append.1 hm with hm | hm
 ·exact List.mem_append.2 (.inl (bs.mem_iff.1 hm))
 exact List.mem_append.2 (.inr hm)
theorem OB {L:List aR}{i:Nat}{x e:aR}(h:L[i]? =some x):(L.set i e)[i]? =some e:=by
 rw [List.getElem?_set_self (List.getElem?_eq_some_iff.1 h).1]
theorem Wd {L:List aR}{i j:Nat}{r:Option aR}{e:aR}(aQ:Nat.beq j i=false)(h:L[i]? =r):(L.set j e)[i]? =r:=by
 rw [List.getElem?_set_ne (fun e=>by rw [e,Nat.beq_refl] at aQ;cases aQ)];exact h
theorem aby {p lo cap:Nat}{α:Type}[aj α](a1:bn c E L y (.eq (jn (some p) lo 0 cap (aj.size α)))):Src c E L y 0 ([]:List α):=fun a W s=>by
 have h1:a.eval y=_:=a1 a W s;have ai:=run_loadCells_list (P:=c.P) W (if cap=lo then(⟨p,0,none⟩:Addr) else⟨p,lo * aj.size α,none⟩) [] (fun j v bm=>by simp at bm);refine⟨by rw [h1];rfl,[],?_,⟨by simp,fun i au=>by simp at au⟩,by simp⟩;rw [h1];simp only [jn,Builtin.firstCells,List.length_nil,Nat.zero_mul];exact ai
theorem ab.U3 {rest:List Oper}{i e p bg m N cap T:Nat}{α:Type}[aj α]{xs vs r:List α}(hu:c.P.underlying t=some (.slice e))(fl:bx c.P e α)
 (ar:bn c E L x (.eq (aS (some p) m cap))) (a1:Src c E L y N vs) (iT:vs.length=N) (al:L[i]? =some ⟨some p,.row T xs cap⟩) (hm:m+N≤xs.length) (aI:xs.take m++vs++xs.drop (m+N)=r) (aQ:Nat.blt bg c.n=true)
 (k:ab c ops Q rest ((bg,.eq (aS (some p) (m+N) cap))::E) (L.set i ⟨some p,.row T r cap⟩)):
 ab c ops Q (⟨some bg,.call ⟨.builtin .append,#[x,y],#[t,t]⟩,ty,pos,af,none⟩::rest) E L:=fun a W s=>by
 subst iT
 subst aI
 have h1:a.eval x=_:=ar a W s
 obtain⟨ao,cells,ai,Gn,CA⟩:=a1 a W s
 obtain⟨o,bp,cB⟩:=s.own _ (List.mem_of_getElem? al)
 have aiQ:=cB
 obtain⟨uu,rfl,g1,g2,g3,g4⟩:=cB
 obtain⟨cs,fp,JN,sf⟩:=LY (lo:=m) hm aiQ Gn
 have tj:cs=uu:=by injection fp with h _;exact h.symm
 subst tj
 obtain⟨hg,eL,ed⟩:=fl.info
 have dk:=run_storeCells_at (P:=c.P) p (m * aj.size α) T cells 0 cs W bp JN CA
 simp only [Nat.add_zero] at dk
 have afS:m+vs.length≤cap:=by omega
 have ka:(execOp a.eval ⟨some bg,.call ⟨.builtin .append,#[x,y],#[t,t]⟩,ty,pos,af,none⟩).run c.P W= .ok (.value (aS (some p) (m+vs.length) cap)) (W.setRow p (cs.toList.take (m * aj.size α)++cells++cs.toList.drop (m * aj.size α+cells.length)).toArray):=by
  simp [execOp,resolve,invoke,builtin,Builtin.append_,h1,aS,run_underlying hu,ao,Go.sizeOf,typeInfo,eL,ed,afS,ai,kU,dk]
 refine jl rfl (R:=fun v iF=>v=aS (some p) (m+vs.length) cap∧iF=W.setRow p (cs.toList.take (m * aj.size α)++cells++cs.toList.drop (m * aj.size α+cells.length)).toArray) (.mL ka ⟨rfl,rfl⟩) fun v iF ⟨bm,hw⟩=>?_
 subst bm
 subst hw
 exact k _ _ ((s.store al bp sf).put (by simpa using aQ) rfl)
theorem abi {i T cap:Nat}{key:Option Nat}{α:Type}[aj α]{xs:List α}{e:TypeId}{lo au PQ:Operand}{m n k:Nat}(hu:c.P.underlying t=some (.slice e))(fl:bx c.P e α)(ar:bn c E L x (.eq (aS key xs.length cap)))
 (al:L[i]? =some ⟨key,.row T xs cap⟩) (ij:bn c E L lo (.of (m:Int))) (gW:bn c E L au (.of (n:Int))) (Kc:bn c E L PQ (.of (k:Int))) (h:m≤n∧n≤k∧k≤xs.length):
 b6 c E L ⟨d,.slice t x (some lo) (some au) (some PQ),ty,pos,af,g⟩ .any:= .pure fun a W s=>by
 obtain⟨ae,aA,aV⟩:=h
 obtain⟨hg,eL,ed⟩:=fl.info
 have h1:a.eval x=_:=ar a W s
 have av:=of_int.1 (ij a W s)
 have aX:=of_int.1 (gW a W s)
 have c0:=of_int.1 (Kc a W s)
 have xC:∃ akg qI,aS key xs.length cap= .slice akg qI cap∨ (aS key xs.length cap= .slice none 0 0∧k=0):=by
  cases key with
  | some p=>exact⟨_,_,.inl rfl⟩
  | none=>
    have bp:=s.own _ (List.mem_of_getElem? al)
    have o5:xs= []:=bp.1
    subst o5
    exact⟨none,0,.inr ⟨rfl,by simpa using aV⟩⟩
 have aiR:xs.length≤cap∨key=none:=by
  cases key with
  | none=>exact .inr rfl
  | some p=>
    obtain⟨o,bp,cs,rfl,g1,g2,_⟩:=s.own _ (List.mem_of_getElem? al)
    exact .inl g2
 cases key with
 | none=>
   have bp:=s.own _ (List.mem_of_getElem? al)
   have o5:xs= []:=bp.1
   subst o5
   have aiS:k=0:=by simpa using aV
   subst aiS
   have uq:n=0:=by omega
   subst uq
   have iB:m=0:=by omega
   subst iB
   have hb:∀ (code:BoundsCode),(Instr.sliceBound (.int .i64 0) 0 code).run c.P W= .ok 0 W:=fun code=>rF (n:=0) (m:=0) (Nat.le_refl _) rfl
   have aiT:a.eval lo= .int .i64 0:=av
   have aiU:a.eval au= .int .i64 0:=aX
   have aiV:a.eval PQ= .int .i64 0:=c0
   refine⟨.slice none 0 0,?_,trivial⟩
   simp [execOp,Instr.sliceAt,Instr.slice,Instr.sliceBounds,h1,aS,run_underlying hu,Go.sizeOf,typeInfo,eL,aiT,aiU,aiV,hb]
 | some p=>
   have ahX:k≤cap:=by
    rcases aiR with h | h
    ·omega
    cases h
   refine⟨.slice (some (if k=m then⟨p,0,none⟩ else⟨p,m * aj.size α,none⟩)) (n - m) (k - m),?_,trivial⟩
   have hb:∀ (a b:Nat) (code:BoundsCode),a≤b→ (Instr.sliceBound (.int .i64 (a:Int)) b code).run c.P W= .ok a W:=fun a b code h=>rF h rfl
   simp [execOp,Instr.sliceAt,Instr.slice,Instr.sliceBounds,h1,aS,run_underlying hu,Go.sizeOf,typeInfo,eL,ed,av,aX,c0,hb k cap _ ahX,hb n k _ aA,hb m n _ ae,kU]
   split <;> rfl
theorem ac5 {p n cap e:Nat}(hu:c.P.underlying t=some (.slice e))(ar:bn c E L x (.eq (aS (some p) n cap))):b6 c E L ⟨d,.call ⟨.builtin .len,#[x],#[t]⟩,ty,pos,af,g⟩ (.of (n:Int)):= .pure fun a W s=>by
 have h1:a.eval x=_:=ar a W s;refine⟨.int .i64 n,?_,of_int.2 rfl⟩;simp [execOp,resolve,invoke,builtin,Builtin.len_,h1,aS,run_underlying hu,goInt]
theorem ab.ac4 {rest:List Oper}{i e p bg m n cap T:Nat}{α:Type}[aj α]{xs:List α}(hu:c.P.underlying t=some (.slice e))(fl:bx c.P e α)
 (ar:bn c E L x (.eq (jn (some p) 0 (m - 0) cap (aj.size α)))) (a1:bn c E L y (.eq (jn (some p) n (xs.length - n) cap (aj.size α)))) (al:L[i]? =some ⟨some p,.row T xs cap⟩) (vO:m<n) (aQ:n≤xs.length) (hd:Nat.blt bg c.n=true)
 (k:ab c ops Q rest ((bg,.eq (aS (some p) (m+(xs.length - n)) cap))::E) (L.set i ⟨some p,.row T (xs.take m++xs.drop n++xs.drop (m+(xs.length - n))) cap⟩)):
 ab c ops Q (⟨some bg,.call ⟨.builtin .append,#[x,y],#[t,t]⟩,ty,pos,af,none⟩::rest) E L:=by
 have mV:bn c E L x (.eq (aS (some p) m cap)):=by
  rw [Br,Nat.sub_zero] at ar;exact ar
 rcases Nat.lt_or_ge n xs.length with qq | qq
 ·have hs:=ID (k:=xs.length - n) a1 al (by omega) (by omega)
  rw [show(xs.drop n).take (xs.length - n)=xs.drop n by rw [List.take_of_length_le (by simp)]] at hs
  exact ab.U3 hu fl mV hs (by simp) al (by omega) rfl hd k
 have bH:xs.length - n=0:=by omega
 rw [bH] at a1 k
 have hs:=aby (α:=α) a1
 rw [show([]:List α)=xs.drop n by rw [List.drop_of_length_le qq]] at hs
 exact ab.U3 hu fl mV hs (by simp;omega) al (by omega) rfl hd k
theorem ad.again {z:Exit}{key:Option Nat}{cp:e3}(cp':e3)(i:Nat)(al:L[i]? =some ⟨key,cp⟩)(h:∀ A W o,cp.holds A W o→cp'.holds A W o)(aQ:cp.o1→cp'.o1)(k:ad c Q z E (L.set i ⟨key,cp'⟩)):ad c Q z E L:=fun a W s=>
 k a W (s.again al h aQ)
end
def FD {α:Type}(xs:List α)(i j:Int):Option (List α):=if 0≤i∧i≤j∧j≤xs.length then some (xs.take i.toNat++xs.drop j.toNat) else none
theorem aao {α:Type}{xs r:List α}{i j:Int}(h:FD xs i j=some r):∃ m n:Nat,i=m∧j=n∧m≤n∧n≤xs.length∧r=xs.take m++xs.drop n:=by
 unfold FD at h;split at h
 ·rename_i ai;refine⟨i.toNat,j.toNat,by omega,by omega,by omega,by omega,?_⟩;cases h;rfl
 cases h
abbrev ak (α:Type):=(α→Prop)→Prop
def ak.of {α:Type}(o:Option α):ak α:=fun Q=> ∃ r,o=some r∧Q r
def ak.bind {α β:Type}(m:ak α)(k:α→ak β):ak β:=fun Q=>m fun r=>k r Q
def ak.ret {α:Type}(x:α):ak α:=fun Q=>Q x
def pr {σ ε:Type} :Nat→ (σ→ak (σ ⊕ ε))→σ→ak ε
 | 0,_,_=>fun _=>False
 | n+1,b,s=>fun Q=>b s fun r=>match r with
   | .inl cD=>pr n b cD Q
   | .inr e=>Q e
abbrev aC (b0:Type):=List (Nat×b0)
abbrev Ref:=Option Nat
instance akA:aj Ref:= .scalar (fun x=>Value.pointer (x.map fun p=>⟨p,0,none⟩)) fun _=>rfl
theorem xg {A W v}{x:Ref} :(I.of x).holds A W v↔v= .pointer (x.map fun p=>⟨p,0,none⟩):=
 ⟨fun h=>oR h.1 h.2,fun h=>by subst h;exact⟨rfl,rfl⟩⟩
instance:bf Ref:=⟨[.pointer none],fun _ _=>rfl⟩
def ak.mk {b0:Type}(hp:aC b0)(k:b0):ak (Nat×aC b0):=fun Q=> ∀ a:Nat×aC b0,a.1 ∉ hp.map (·.1)∧a.2=(a.1,k)::hp→Q a
theorem ak.ph {b0 α:Type}{hp:aC b0}{c:b0}{k:Nat×aC b0→ak α}{R:α→Prop}(h:ak.bind (ak.mk hp c) k R)(a:Nat×aC b0)(a7:a.1 ∉ hp.map (·.1)∧a.2=(a.1,c)::hp):k a R:=h a a7
class eY (b0:Type) where
 gT:Nat→b0→List aR
 root:∀ p k,∃ e∈gT p k,e.key=some p
def aH {b0:Type}[eY b0]:aC b0→List aR
 | []=>[]
 | (p,k)::r=>eY.gT p k++aH r
def pat {b0:Type} :aC b0→Nat→Option b0
 | [],_=>none
 | (q,k)::r,p=>if q=p then some k else pat r p
def cQ {b0:Type} :aC b0→Nat→b0→aC b0
 | [],_,_=>[]
 | (q,k)::r,p,k'=>if q=p then(q,k')::r else(q,k)::cQ r p k'
def dZ {b0:Type}(hp:aC b0):List Nat:=hp.map (·.1)
theorem uL {b0:Type}[eY b0]:∀ {hp:aC b0} {p:Nat} {k:b0},pat hp p=some k→ ∃ R,(aH hp).Perm (eY.gT p k++R)∧ ∀ k',(aH (cQ hp p k')).Perm (eY.gT p k'++R)
 | [],_,_,h=>by simp [pat] at h
 | (q,wy)::r,p,k,h=>by
   simp only [pat] at h;split at h
   ·rename_i e;subst e;simp only [Option.some.injEq] at h;subst h;exact⟨aH r,.refl _,fun k'=>by simp only [cQ,if_pos];exact .refl _⟩
   rename_i e;obtain⟨R,h1,ae⟩:=uL h;refine⟨eY.gT q wy++R,?_,fun k'=>?_⟩
   ·exact(h1.append_left (eY.gT q wy)).trans (by rw [← List.append_assoc,← List.append_assoc];exact List.perm_append_comm.append_right R)
   simp only [cQ,if_neg e];exact((ae k').append_left (eY.gT q wy)).trans (by rw [← List.append_assoc,← List.append_assoc];exact List.perm_append_comm.append_right R)
theorem TG {b0:Type}[eY b0]{hp:aC b0}{p:Nat}(h:p∈dZ hp):p∈aT (aH hp):=by
 induction hp with
 | nil=>simp [dZ] at h
 | cons x r cA=>
   obtain⟨q,k⟩:=x
   simp only [dZ,List.map_cons,List.mem_cons] at h
   simp only [aH,fG,List.mem_append]
   rcases h with h | h
   ·subst h
    obtain⟨e,he,hk⟩:=eY.root p k
    exact .inl (rQ.2 ⟨e,he,hk⟩)
   exact .inr (cA h)
theorem jV {b0:Type}{hp:aC b0}{p:Nat}{k:b0}(h:pat hp p=some k):p∈dZ hp:=by
 induction hp with
 | nil=>simp [pat] at h
 | cons x r cA=>
   simp only [pat] at h
   split at h
   ·rename_i e;simp [dZ,e]
   simp only [dZ,List.map_cons,List.mem_cons];exact .inr (cA h)
theorem qR {b0:Type}{hp:aC b0}{p:Nat}{k:b0} :dZ (cQ hp p k)=dZ hp:=by
 induction hp with
 | nil=>rfl
 | cons x r cA=>simp only [cQ];split <;> simp_all [dZ]
theorem EE {b0:Type}{hp:aC b0}{p q:Nat}{k:b0} :pat (cQ hp p k) q=if p=q then(pat hp p).map (fun _=>k) else pat hp q:=by
 induction hp with
 | nil=>simp [cQ,pat]
 | cons x r cA=>
   simp only [cQ]
   by_cases e:x.1=p
   ·rw [if_pos e]
    by_cases h:p=q
    ·simp [pat,e,h]
    have: ¬ x.1=q:=fun dc=>h (e ▸ dc)
    simp [pat,e,h]
   rw [if_neg e]
   by_cases h:p=q
   ·subst h
    rw [if_pos rfl] at cA ⊢
    simp [pat,e,cA]
   rw [if_neg h] at cA ⊢
   simp [pat,cA]
section
variable {c:dy} {E:List (Nat×I)} {L:List aR} {ops:Array Oper} {Q:Exit→Act→World→Prop}
variable {d:Option Tmp} {ty:TypeId} {pos:String} {af:Array Edge} {g:Option (Nat×Bool)} {x y:Operand} {t t2:TypeId}
theorem abz {L L':List aR}(p:L.Perm L'){A:List Nat}(k:Nat):k∈aT L++A↔k∈aT L'++A:=by
 simp only [List.mem_append];rw [(yT p).mem_iff]
theorem oT {L L':List aR}(p:L.Perm L'){A:List Nat}{W:World} :Ext (aT L++A) W (aT L'++A) W:= .drop fun k hm=>(abz p k).2 hm
theorem bn.perm {L':List aR}{x:Operand}{τ:I}(p:L.Perm L')(h:bn c E L x τ):bn c E L' x τ:=fun a W s=>
 τ.mono (oT p) (h a W (s.perm p.symm))
theorem ab.perm {l:List Oper}{L':List aR}(p:L.Perm L')(h:ab c ops Q l E L):ab c ops Q l E L':=fun a W s=>h a W (s.perm p.symm)
theorem cG {x:Operand}{r:Ref}{p:Nat}(ar:bn c E L x (.of r))(h:r=some p):bn c E L x (.eq (.pointer (some ⟨p,0,none⟩))):=fun a W s=>by
 subst h;exact xg.1 (ar a W s)
theorem og:bn c E L (.const (.pointer none)) (.of (none:Ref)):=fun a W s=>xg.2 rfl
variable {b0:Type} [eY b0] {hp:aC b0} {loc:List aR}
theorem eb {p n:Nat}{k:b0}{e:aR}(al:L.drop n=aH hp)(h:pat hp p=some k)(hk:eY.gT p k= [e]):e∈L:=by
 obtain⟨R,h1,_⟩:=uL h;rw [hk] at h1;have:e∈L.drop n:=by rw [al];exact h1.mem_iff.2 (by simp)
 exact List.mem_of_mem_drop this
theorem gM {L':List aR}{e:aR}(al:∀ (i:Nat) (e:aR),L[i]? =some e→L'[i]? =some e)(h:e∈L):e∈L':=by
 obtain⟨i,au⟩:=List.mem_iff_getElem?.1 h;exact List.mem_of_getElem? (al i e au)
theorem e0 {x:Operand}{t:TypeId}{p o:Nat}{β γ:Type}[aj β][aj γ]{b:β}(l:aJ β γ){r:γ}(eO:bx c.P t γ)(ar:bn c E L x (.eq (.pointer (some ⟨p,o,none⟩))))
 (hm:(⟨some p,.var b⟩:aR)∈L) (bp:o=l.off) (aI:l.get b=r):b6 c E L ⟨d,.load t x,ty,pos,af,g⟩ (.of r):=by
 obtain⟨i,au⟩:=List.mem_iff_getElem?.1 hm
 exact e8 (i:=i) l eO ar au bp aI
theorem ab.acx {x y:Operand}{t:TypeId}{rest:List Oper}{p o:Nat}{k k':b0}{β γ:Type}[aj β][aj γ]{b b':β}{v:γ}(l:aJ β γ)(eO:bx c.P t γ)(ar:bn c E (loc++aH hp) x (.eq (.pointer (some ⟨p,o,none⟩))))
 (a1:bn c E (loc++aH hp) y (.of v)) (hp':pat hp p=some k) (hk:eY.gT p k= [⟨some p,.var b⟩]) (ke:eY.gT p k'= [⟨some p,.var b'⟩]) (bp:o=l.off) (hb:l.set b v=b')
 (na:ab c ops Q rest E (loc++aH (cQ hp p k'))):ab c ops Q (⟨none,.store t x y,ty,pos,af,none⟩::rest) E (loc++aH hp):=by
 obtain⟨R,h1,ae⟩:=uL hp'
 have ae:=ae k'
 rw [hk] at h1
 rw [ke] at ae
 have cS:∀ {z:β} {M:List aR},M.Perm ([⟨some p,.var z⟩]++R)→ (loc++M).Perm (⟨some p,.var z⟩::(loc++R)):=fun h=>(h.append_left loc).trans (by simp only [List.singleton_append];exact List.perm_middle)
 exact ab.perm (cS h1).symm (ab.store (i:=0) l eO (ar.perm (cS h1)) (a1.perm (cS h1)) rfl bp hb (ab.perm (cS ae) na))
theorem ab.nP {x y:Operand}{t:TypeId}{rest:List Oper}{p o:Nat}{k k':b0}{c6:aC b0}{β γ:Type}[aj β][aj γ]{b b':β}{v:γ}(n:Nat)(al:L.drop n=aH hp)(l:aJ β γ)(eO:bx c.P t γ)(ar:bn c E L x (.eq (.pointer (some ⟨p,o,none⟩))))(a1:bn c E L y (.of v))(hp':pat hp p=some k)(hk:eY.gT p k= [⟨some p,.var b⟩])(ke:eY.gT p k'= [⟨some p,.var b'⟩])(bp:o=l.off)(hb:l.set b v=b')(cJ:cQ hp p k'=c6)(na:ab c ops Q rest E (L.take n++aH c6)):ab c ops Q (⟨none,.store t x y,ty,pos,af,none⟩::rest) E L:=by
 subst cJ;have e:L=L.take n++aH hp:=by rw [← al,List.take_append_drop]
 clear al;generalize L.take n=loc at *;subst e;exact ab.acx l eO ar a1 hp' hk ke bp hb na
theorem bN.fresh {a:Act}{W:World}(s:bN c E (loc++aH hp) a W):W.heap.size ∉ dZ hp:=fun h=>by
 have:=s.lt _ (by rw [fG];exact List.mem_append.2 (.inr (TG h)));omega
theorem ab.afT {t:TypeId}{x:Operand}{rest:List Oper}{bg:Nat}{α:Type}[aj α]{z:α}(mk:b0)(hk:∀ p,eY.gT p mk= [⟨some p,.var z⟩])(ar:bn c E (loc++aH hp) x (.of z))(aQ:Nat.blt bg c.n=true)
 (k:∀ p,p ∉ dZ hp→ab c ops Q rest ((bg,.of (some p:Ref))::E) (loc++aH ((p,mk)::hp))):ab c ops Q (⟨some bg,.box t x,ty,pos,af,none⟩::rest) E (loc++aH hp):=fun a W s=>by
 refine jl rfl (R:=fun v W'=>v= .pointer (some ⟨W.heap.size,0,none⟩)∧W'=W.alloc (.cells (a.eval x).cells t)) (.mL ?_ ⟨rfl,rfl⟩) fun v W' ⟨bm,hw⟩=>?_
 ·simp [execOp,Instr.box,newVar,newRow]
 subst bm
 subst hw
 refine k _ s.fresh _ _ (bN.put ?_ (by simpa using aQ) (xg.2 rfl))
 refine(s.alloc (cp:= .var z) ⟨_,t,rfl,(ar a W s).2⟩).perm ?_
 simp only [aH,hk,List.singleton_append]
 exact List.perm_middle.symm
theorem ab.xy {t:TypeId}{x:Operand}{rest:List Oper}{bg:Nat}{α:Type}[aj α]{z:α}(n:Nat)(al:L.drop n=aH hp)(mk:b0)(hk:∀ p,eY.gT p mk= [⟨some p,.var z⟩])(ar:bn c E L x (.of z))(aQ:Nat.blt bg c.n=true)(k:∀ a:Nat×aC b0,a.1 ∉ hp.map (·.1)∧a.2=(a.1,mk)::hp→ab c ops Q rest ((bg,.of (some a.1:Ref))::E) (L.take n++aH a.2)):ab c ops Q (⟨some bg,.box t x,ty,pos,af,none⟩::rest) E L:=by
 have e:L=L.take n++aH hp:=by rw [← al,List.take_append_drop]
 clear al;generalize L.take n=loc at *;subst e;exact ab.afT mk hk ar aQ fun p h=>k (p,(p,mk)::hp) ⟨h,rfl⟩
theorem nK {A B C:List aR} :((A++B)++C).Perm ((A++C)++B):=by
 rw [List.append_assoc,List.append_assoc];exact List.perm_append_comm.append_left A
theorem ab.iv {rest:List Oper}{bg:Nat}{f:FuncId}{xs:List Operand}{ats:Array TypeId}{τs:List I}{Lin Lr:List aR}{δ:Type}{ρ:δ→I}{Lo:δ→List aR}{hq:δ→aC b0}(eB:bF c.P f)(h:bt c.P f τs (Lin++aH hp) ρ (fun d=>Lo d++aH (hq d)))
 (ar:jf c E ((Lin++Lr)++aH hp) xs τs) (aQ:Nat.blt bg c.n=true) (k:∀ q,ab c ops Q rest ((bg,ρ q)::E) ((Lo q++Lr)++aH (hq q))):
 ab c ops Q (⟨some bg,.call ⟨.value (.func f),xs.toArray,ats⟩,ty,pos,af,none⟩::rest) E ((Lin++Lr)++aH hp):=fun a W s=>
 jl rfl (El (Lr:=Lr) eB h (s.perm nK) ((ar.holds a W s).mono (oT nK))) fun v W' ⟨q,cD,bm⟩=>
  k q _ _ ((cD.perm nK).put (by simpa using aQ) ((ρ q).mono (oT nK) bm))
theorem ab.eS {rest:List Oper}{bg:Nat}{f:FuncId}{xs:List Operand}{ats:Array TypeId}{τs:List I}{Lin Lr:List aR}{δ:Type}{ρ:δ→I}{Lo:δ→List aR}{hq:δ→aC b0}(n m:Nat)(al:L.drop n=aH hp)(eB:bF c.P f)(h:bt c.P f τs (Lin++aH hp) ρ (fun d=>Lo d++aH (hq d)))
 (h1:(L.take n).take m=Lin) (ae:(L.take n).drop m=Lr) (ar:jf c E L xs τs) (aQ:Nat.blt bg c.n=true) (k:∀ q,ab c ops Q rest ((bg,ρ q)::E) ((Lo q++Lr)++aH (hq q))):
 ab c ops Q (⟨some bg,.call ⟨.value (.func f),xs.toArray,ats⟩,ty,pos,af,none⟩::rest) E L:=by
 have e:L=(Lin++Lr)++aH hp:=by rw [← h1,← ae,List.take_append_drop,← al,List.take_append_drop]
 clear al h1 ae
 subst e
 exact ab.iv eB h ar aQ k
theorem eW.adC {f:FuncId}{xs:List Operand}{ats:Array TypeId}{τs:List I}{ρ:I}(eB:bF c.P f)(h:bt c.P f τs (aH hp) (fun _:Unit=>ρ) (fun _=>aH hp))
 (ar:jf c E (loc++aH hp) xs τs):eW c E (loc++aH hp) ⟨d,.call ⟨.value (.func f),xs.toArray,ats⟩,ty,pos,af,g⟩ ρ:=fun a W s=>by
 have cS:(loc++aH hp).Perm (aH hp++loc):=List.perm_append_comm
 have bp:=El (d:=d) (ty:=ty) (pos:=pos) (af:=af) (g:=g) (ats:=ats) (Lr:=loc) eB h (s.perm cS) ((ar.holds a W s).mono (oT cS))
 unfold hK at bp ⊢
 exact Oper.wp_mono (fun hx W' ⟨v,h1,_,ae,aA⟩=>⟨v,h1,ae.perm cS.symm,ρ.mono (oT cS.symm) aA⟩) bp
theorem eW.iv {f:FuncId}{xs:List Operand}{ats:Array TypeId}{τs:List I}{ρ:I}(n:Nat)(al:L.drop n=aH hp)(eB:bF c.P f)(h:bt c.P f τs (aH hp) (fun _:Unit=>ρ) (fun _=>aH hp))(ar:jf c E L xs τs):eW c E L ⟨d,.call ⟨.value (.func f),xs.toArray,ats⟩,ty,pos,af,g⟩ ρ:=by
 have e:L=L.take n++aH hp:=by rw [← al,List.take_append_drop]
 clear al;generalize L.take n=loc at *;subst e;exact eW.adC eB h ar
theorem Lp {P:Program}{e:TypeId}(W:World)(n:Nat){t:TypeId}(a:Option Addr)(h:P.underlying t=some (.pointer e)):(Op.equalIn (n+1) t (.pointer a) (.pointer none)).run P W= .ok a.isNone W:=by
 cases a <;> simp [Op.equalIn,run_underlying h]
theorem kS {r:Ref}{e:TypeId}(hu:c.P.underlying t=some (.pointer e))(ar:bn c E L x (.of r)):b6 c E L ⟨d,.binOp .eql t x (.const (.pointer none)) t2,ty,pos,af,g⟩ (.of r.isNone):= .pure fun a W s=>by
 have h1:=xg.1 (ar a W s);refine⟨.bool r.isNone,?_,of_bool.2 rfl⟩;have aQ:a.eval (.const (.pointer none))= .pointer none:=rfl;simp only [execOp,eqGuard,binOp,h1,aQ,Op.equal,Op.maxDepth];have:=Lp (P:=c.P) W 9999 (r.map fun p=>⟨p,0,none⟩) hu;simp only [Option.isNone_map] at this;simp [this]
theorem Ie {r:Ref}{e:TypeId}(hu:c.P.underlying t=some (.pointer e))(ar:bn c E L x (.of r)):b6 c E L ⟨d,.binOp .neq t x (.const (.pointer none)) t2,ty,pos,af,g⟩ (.of r.isSome):= .pure fun a W s=>by
 have h1:=xg.1 (ar a W s);refine⟨.bool r.isSome,?_,of_bool.2 rfl⟩;have aQ:a.eval (.const (.pointer none))= .pointer none:=rfl;simp only [execOp,eqGuard,binOp,h1,aQ,Op.equal,Op.maxDepth];have:=Lp (P:=c.P) W 9999 (r.map fun p=>⟨p,0,none⟩) hu;simp only [Option.isNone_map] at this;simp [this]
end
theorem Z3 {P:Program}{t e el:TypeId}{n:Nat}(h:P.underlying t=some (.array n e))(fl:bx P e Ref)(hu:P.underlying e=some (.pointer el)){A:List Nat}{W:World}{u v:Value}{x y:Vector Ref n}(ar:(I.of x).holds A W u)(a1:(I.of y).holds A W v)
 (aQ:∀ i,i<n→cd y i=none) (d:Nat) (hd:2≤d):(Op.equalIn d t u v).run P W= .ok (decide (x=y)) W:=by
 obtain⟨d,rfl⟩:∃ e,d=e+1:=⟨d - 1,by omega⟩
 obtain⟨h1,ae⟩:=ar
 obtain⟨aA,aV⟩:=a1
 obtain⟨xs,rfl⟩:∃ cs,u= .agg cs:=by simpa [shaped,aj.agg] using h1
 obtain⟨ys,rfl⟩:∃ cs,v= .agg cs:=by simpa [shaped,aj.agg] using aA
 simp only [Value.cells] at ae aV
 have vT:xs.toList.length=n * aj.size Ref:=aj.len ae
 have F6:ys.toList.length=n * aj.size Ref:=aj.len aV
 have vp:∀ i∈List.range' 0 n,((do
  let a ← part e xs (i * aj.size Ref)
  let b ← part e ys (i * aj.size Ref)
  Op.equalIn d e a b):Sem Bool).run P W= .ok (decide (cd x i=cd y i)) W:=by
  intro i au
  have hX:i<n:=by simpa using au
  have gu:i * aj.size Ref+aj.size Ref≤n * aj.size Ref:=(aJ.idx (α:=Ref) n i hX).hv
  obtain⟨a,a7,vU⟩:=tI (A:=A) (P:=P) (W:=W) (cs:=xs) (off:=i * aj.size Ref) fl (by simp at vT;omega) ((aJ.idx (α:=Ref) n i hX).jU ae)
  obtain⟨b,hb,F7⟩:=tI (A:=A) (P:=P) (W:=W) (cs:=ys) (off:=i * aj.size Ref) fl (by simp at F6;omega) ((aJ.idx (α:=Ref) n i hX).jU aV)
  simp only [Sem.run_bind,a7,hb,Result.andThen_ok]
  obtain⟨d,rfl⟩:∃ e,d=e+1:=⟨d - 1,by omega⟩
  have av:=xg.1 vU
  have aX:=xg.1 F7
  subst av;subst aX
  have aiW:(aJ.idx (α:=Ref) n i hX).get y=none:=aQ i hX
  rw [aiW,Option.map_none,Lp W d _ hu]
  have c0:cd y i=none:=aQ i hX
  rw [c0]
  show Result.ok ((cd x i).map _).isNone W=_
  congr 1
  cases cd x i <;> rfl
 have aY:=Ln (P:=P) (W:=W) _ _ _ vp
 have pA:(List.range' 0 n).all (fun i=>decide (cd x i=cd y i))=decide (x=y):=by
  rw [Bool.eq_iff_iff,List.all_eq_true,decide_eq_true_eq];constructor
  ·intro h;apply Vector.ext;intro i au;have:=h i (by simpa using au);simpa [cd,au] using this
  rintro rfl i _;simp
 rw [pA] at aY
 simp only [Op.equalIn,Sem.run_bind,run_underlying h,Result.andThen_ok,fl.sizeOf,Std.Legacy.Range.forIn_eq_forIn_range']
 simp only [Std.Legacy.Range.size,Nat.sub_zero,Nat.add_one_sub_one,Nat.div_one] at aY ⊢
 simp only [bind_assoc] at aY
 rw [aY]
 by_cases F8:x=y
 ·simp [F8]
 simp [F8]
theorem abh {c:dy}{E:List (Nat×I)}{L:List aR}{d:Option Tmp}{ty:TypeId}{pos:String}{af:Array Edge}{g:Option (Nat×Bool)}{x y:Operand}{t t2 e el:TypeId}{n:Nat}{a b:Vector Ref n}(h:c.P.underlying t=some (.array n e))(fl:bx c.P e Ref)(hu:c.P.underlying e=some (.pointer el))(bO:c.P.eqGuardType c.P.depth t=false)
 (ar:bn c E L x (.of a)) (a1:bn c E L y (.of b)) (aQ:∀ i,i<n→cd b i=none):b6 c E L ⟨d,.binOp .eql t x y t2,ty,pos,af,g⟩ (.of (decide (a=b))):= .pure fun A W s=>by
 have h1:=ar A W s
 have ae:=a1 A W s
 obtain⟨xs,o5⟩:∃ cs,A.eval x= .agg cs:=by simpa [shaped,aj.agg] using h1.1
 obtain⟨ys,xR⟩:∃ cs,A.eval y= .agg cs:=by simpa [shaped,aj.agg] using ae.1
 have aA:=Z3 h fl hu h1 ae aQ 10000 (by decide)
 rw [o5,xR] at aA
 refine⟨.bool (decide (a=b)),?_,of_bool.2 rfl⟩
 simp only [execOp,o5,xR,Sem.run_bind,run_eqGuard_agg W .eql t x y xs ys bO,Result.andThen_ok,run_eql_struct,aA,Sem.run_pure]
section
variable {c:dy} {E:List (Nat×I)} {L:List aR} {ops:Array Oper} {Q:Exit→Act→World→Prop}
theorem ak.acy {α β:Type}{o:Option α}{k:α→ak β}{R:β→Prop}(h:ak.bind (ak.of o) k R):∃ r,o=some r∧k r R:=h
theorem Z4 {F:Fence}{n:Nat}{P:Program}{body:Code}{σ ε:Type}(b:σ→ak (σ ⊕ ε))(fS:σ→Act→World→Prop)(X:ε→Exit→Act→World→Prop)
 (tS:∀ s R,b s R→ ∀ a W,fS s a W→body.wpIn F n P (fun x a W=>(∃ cD,R (.inl cD)∧x= .normal∧fS cD a W)∨ ∃ e,R (.inr e)∧x≠ .normal∧X e x a W) a W)
 (Q:Exit→Act→World→Prop) (R:ε→Prop) (sU:∀ e x a W,R e→X e x a W→Q x a W) {cT:σ} {N:Nat} (ao:pr N b cT R) {a0:Act} {kA:World} (bH:fS cT a0 kA):
 (Code.loop body).wpIn F n P Q a0 kA:=by
 intro eh k cs kG hb aI
 have key:∀ N s,pr N b s R→ ∀ a W,fS s a W→
  ∃ x hx W',Q x hx W'∧ArrivesIn (Machine.fenced P F) P (lone (eh.atR a (.code body::.inLoop body::k)) cs W) eh k cs x hx W':=by
  intro N
  induction N with
  | zero=>intro s h;exact h.elim
  | succ N cA=>
    intro s h a W nC
    obtain⟨x,sg,Cj,hq,oy⟩:=tS s _ h a W nC eh (.inLoop body::k) cs kG hb aI
    rcases hq with⟨cD,h1,ar,OG⟩ | ⟨e,h1,ar,nD⟩
    ·subst ar
     obtain⟨Ob,Oc,Od,NI,Mn⟩:=cA cD h1 sg Cj OG
     exact⟨Ob,Oc,Od,NI,.of_steps (StepsIn.trans oy (.one (fenced_calm hb aI rfl) stepR_inLoop)) Mn⟩
    exact⟨x,sg,Cj,sU _ _ _ _ h1 nD,.pass (x:= .inLoop body) rfl (fun _ _=>.inl ar) oy⟩
 obtain⟨x,hx,W',hq,oy⟩:=key N cT ao a0 kA bH
 exact⟨x,hx,W',hq,.of_steps (.one (fenced_calm hb aI rfl) stepR_loop) oy⟩
def Kd {σ ε γ δ:Type}(c:dy)(E:σ→γ→List (Nat×I))(L:σ→γ→List aR)(xs:ε→Exit)(hy:ε→δ→List (Nat×I))(Lx:ε→δ→List aR)(R:σ ⊕ ε→Prop):Exit→Act→World→Prop:=fun x a W=>
 (∃ s,R (.inl s)∧x= .normal∧ ∃ g,bN c (E s g) (L s g) a W)∨ ∃ e,R (.inr e)∧x≠ .normal∧x=xs e∧ ∃ g,bN c (hy e g) (Lx e g) a W
theorem ad.BM {σ ε γ δ:Type}{E':σ→γ→List (Nat×I)}{L':σ→γ→List aR}{xs:ε→Exit}{hy:ε→δ→List (Nat×I)}{Lx:ε→δ→List aR}{R:σ ⊕ ε→Prop}{s:σ}(kB:R (.inl s))(g:γ)(n:Nat)
 (al:L.drop n=L' s g) (h:gO E (E' s g)):ad c (Kd c E' L' xs hy Lx R) .normal E L:=fun a W st=>.inl ⟨s,kB,rfl,g,by rw [← al];exact(st.r3 n).less h.look⟩
theorem ad.u2 {σ ε γ δ:Type}{E':σ→γ→List (Nat×I)}{L':σ→γ→List aR}{xs:ε→Exit}{hy:ε→δ→List (Nat×I)}{Lx:ε→δ→List aR}{R:σ ⊕ ε→Prop}{e:ε}{x:Exit}(kB:R (.inr e))(g:δ)(n:Nat)
 (ar:x=xs e) (aQ:x≠ .normal) (al:L.drop n=Lx e g) (h:gO E (hy e g)):ad c (Kd c E' L' xs hy Lx R) x E L:=fun a W st=>.inr ⟨e,kB,aQ,ar,g,by rw [← al];exact(st.r3 n).less h.look⟩
theorem ag.pr {σ ε γ δ:Type}{body:Code}{N:Nat}{b:σ→ak (σ ⊕ ε)}{cT:σ}{R:ε→Prop}(ao:Gv.pr N b cT R)
 (E':σ→γ→List (Nat×I)) (L':σ→γ→List aR) (xs:ε→Exit) (hy:ε→δ→List (Nat×I)) (Lx:ε→δ→List aR) (g0:γ) (al:L=L' cT g0) (an:gO E (E' cT g0))
 (zg:∀ s R,b s R→ ∀ g,ag c (Kd c E' L' xs hy Lx R) body (E' s g) (L' s g))
 (sU:∀ e,R e→ ∀ g,ad c Q (xs e) (hy e g) (Lx e g)):ag c Q (.loop body) E L:=fun a W st=>by
 subst al
 exact Z4 b (fun s a W=> ∃ g,bN c (E' s g) (L' s g) a W) (fun e x a W=>x=xs e∧ ∃ g,bN c (hy e g) (Lx e g) a W)
  (fun s R hs a W ⟨g,nC⟩=>wpIn_mono (zg s R hs g a W nC) (fun x a W h=>by
   rcases h with⟨cD,h1,ae,aA⟩ | ⟨e',h1,ae,aA,aV⟩
   ·exact .inl ⟨cD,h1,ae,aA⟩
   exact .inr ⟨e',h1,ae,aA,aV⟩)) Q R (fun e x a W kB ⟨ar,g,hs⟩=>by subst ar;exact sU e kB g a W hs) ao ⟨g0,st.less an.look⟩
theorem S0 {α:Type}{b:Bool}{m n:ak α}{R:α→Prop}(hb:b=true)(h:cond b m n R):m R:=by subst hb;exact h
theorem S1 {α:Type}{b:Bool}{m n:ak α}{R:α→Prop}(hb:b=false)(h:cond b m n R):n R:=by subst hb;exact h
theorem ag.xc {β γ ρ:Type}{pQ:ρ→Prop}{x:Operand}{b:Bool}{y z:Code}{bk bB:ak β}{k:β→ak ρ}(h:ak.bind (bif b then bk else bB) k pQ)(E':β→γ→List (Nat×I))(L':β→γ→List aR)(ao:bn c E L x (.of b))
 (x7:∀ m g,k m pQ→ad c Q .normal (E' m g) (L' m g))
 (bP:(∀ m g,k m pQ→ad c Q .normal (E' m g) (L' m g))→b=true→bk (fun m=>k m pQ)→ag c Q y E L) (aY:(∀ m g,k m pQ→ad c Q .normal (E' m g) (L' m g))→b=false→bB (fun m=>k m pQ)→ag c Q z E L):ag c Q (.cond x y z) E L:=
 ag.cond ao (fun hb=>bP x7 hb (S0 hb h)) (fun hb=>aY x7 hb (S1 hb h))
theorem ag.BL {σ ε γ δ ρ:Type}{body:Code}{N:Nat}{b:σ→ak (σ ⊕ ε)}{cT:σ}{k:ε→ak ρ}{pQ:ρ→Prop}(ao:ak.bind (Gv.pr N b cT) k pQ)
 (E':σ→γ→List (Nat×I)) (L':σ→γ→List aR) (xs:ε→Exit) (hy:ε→δ→List (Nat×I)) (Lx:ε→δ→List aR) (g0:γ) (al:L=L' cT g0) (an:gO E (E' cT g0))
 (zg:∀ s R,b s R→ ∀ g,ag c (Kd c E' L' xs hy Lx R) body (E' s g) (L' s g))
 (sU:∀ e,k e pQ→ ∀ g,ad c Q (xs e) (hy e g) (Lx e g)):ag c Q (.loop body) E L:=
 ag.pr (R:=fun e=>k e pQ) ao E' L' xs hy Lx g0 al an zg sU
theorem aeg {n:Nat} :∀ i,i<n→cd (default:Vector Ref n) i=none:=fun i au=>by
 have:(default:Vector Ref n)=Vector.replicate n none:=rfl;rw [this];simp [cd,au]
end
structure fj where
 p:Option Nat
 deriving DecidableEq,Inhabited
instance akz:aj fj:= .scalar (fun x=>Value.map x.p) fun _=>rfl
instance:bf fj:=⟨[.map none],fun _ _=>rfl⟩
theorem w6 {A W v}{x:fj} :(I.of x).holds A W v↔v= .map x.p:=
 ⟨fun h=>oR h.1 h.2,fun h=>by subst h;exact⟨rfl,rfl⟩⟩
theorem lE {c:dy}{E:List (Nat×I)}{L:List aR}{x:Operand}{r:fj}{p:Nat}(ar:bn c E L x (.of r))(h:r.p=some p):bn c E L x (.of (⟨some p⟩:fj)):=fun a W s=>by
 have:=w6.1 (ar a W s);rw [h] at this;exact w6.2 this
inductive mi {α β:Type}[aj α][aj β](A:List Nat)(W:World):List MapEntry→List (α×β)→Prop
 | nil:mi A W [] []
 | cons {e k v es r} :(I.of k).holds A W e.key→ (I.of v).holds A W e.val→mi A W es r→mi A W (e::es) ((k,v)::r)
theorem mi.mono {α β:Type}[aj α][aj β]{A W dd W'}(h:Ext A W dd W'):∀ {es:List MapEntry} {kv:List (α×β)},mi A W es kv→mi dd W' es kv
 | _,_,.nil=>.nil
 | _,_,.cons h1 ae r=>.cons (I.mono _ h h1) (I.mono _ h ae) (r.mono h)
def e3.map {α β:Type}[aj α][aj β](kv:List (α×β)):e3 where
 holds A W o:= ∃ es clock,o= .map es clock∧mi A W es.toList kv∧ (∀ x∈es.toList,x.born<clock)∧ (es.toList.map MapEntry.born).Nodup
 o1:=False
 mono e h:=let⟨es,clock,h1,ae,aA⟩:=h; ⟨es,clock,h1,ae.mono e,aA⟩
def ec {α β:Type}[DecidableEq α]:List (α×β)→α→Option β
 | [],_=>none
 | (k,v)::r,x=>if x=k then some v else ec r x
def gB {α β:Type}[DecidableEq α]:List (α×β)→α→β→List (α×β)
 | [],x,y=>[(x,y)]
 | (k,v)::r,x,y=>if x=k then(x,y)::r else(k,v)::gB r x y
def jg {α β:Type}[DecidableEq α]:List (α×β)→α→List (α×β)
 | [],_=>[]
 | (k,v)::r,x=>if x=k then r else(k,v)::jg r x
class kC (α:Type) [aj α]:Prop where
 uniq:∀ {A W cs dd W' fh} {x:α},aj.rep A W cs x→aj.rep dd W' fh x→cs=fh
 plain:∀ {A W cs} {x:α},aj.rep A W cs x→ ∀ v∈cs,∀ n,Instr.sameBits n v v=true
instance:kC Int:=⟨fun h dc=>h.trans dc.symm,fun h v bm n=>by subst h;rw [List.mem_singleton.1 bm];simp [Instr.sameBits]⟩
instance:kC (BitVec 64):=⟨fun h dc=>h.trans dc.symm,fun h v bm n=>by subst h;rw [List.mem_singleton.1 bm];simp [Instr.sameBits]⟩
instance:kC Bool:=⟨fun h dc=>h.trans dc.symm,fun h v bm n=>by subst h;rw [List.mem_singleton.1 bm];simp [Instr.sameBits]⟩
instance {α:Type} [aj α] [Inhabited α] [kC α] {n:Nat} :kC (Vector α n):=⟨fun {A W cs dd W' fh x} h dc=>by
 have Ae:cs.length=n * aj.size α:=aj.len h;have PR:fh.length=n * aj.size α:=aj.len dc;have key:∀ m,m≤n→cs.take (m * aj.size α)=fh.take (m * aj.size α):=by
  intro m;induction m with
  | zero=>intro _;simp
  | succ m cA=>
    intro hm
    have Cz:m<n:=hm
    have av:=(aJ.idx (α:=α) n m Cz).jU h
    have aX:=(aJ.idx (α:=α) n m Cz).jU dc
    have c0:=kC.uniq av aX
    rw [Nat.succ_mul,List.take_add,List.take_add,cA (by omega)]
    congr 1
 have:=key n (Nat.le_refl _);rwa [← Ae,List.take_length,Ae,← PR,List.take_length] at this,
 fun {A W cs x} h v bm k=>by
  have Ae:cs.length=n * aj.size α:=aj.len h;obtain⟨i,au,rfl⟩:=List.getElem_of_mem bm;by_cases hs:aj.size α=0
  ·rw [hs,Nat.mul_zero] at Ae;omega
  have hq:i / aj.size α<n:=Nat.div_lt_of_lt_mul (by rw [Ae,Nat.mul_comm] at au;exact au);have av:=(aJ.idx (α:=α) n (i / aj.size α) hq).jU h;refine kC.plain av _ ?_ k;have aI:i % aj.size α<aj.size α:=Nat.mod_lt _ (by omega);have hd:=Nat.div_add_mod i (aj.size α);refine List.mem_iff_getElem?.2 ⟨i % aj.size α,?_⟩;simp only [aJ.idx];rw [List.getElem?_take,if_pos aI,List.getElem?_drop,Nat.mul_comm,hd];exact List.getElem?_eq_getElem au⟩
theorem Ew {cs fh:List Value}(o s:Nat)(h:(cs.drop o).take s=(fh.drop o).take s)(k:cs.drop (o+s)=fh.drop (o+s)):cs.drop o=fh.drop o:=by
 rw [← List.take_append_drop s (cs.drop o),← List.take_append_drop s (fh.drop o),h,List.drop_drop,List.drop_drop,k]
theorem S2 {cs fh:List Value}{n:Nat}(h:cs.length=n)(dc:fh.length=n)(k:cs.drop 0=fh.drop 0):cs=fh:=by simpa using k
theorem S3 {cs fh:List Value}{n m:Nat}(h:cs.length=n)(dc:fh.length=n)(k:n≤m):cs.drop m=fh.drop m:=by
 rw [List.drop_eq_nil_of_le (by omega),List.drop_eq_nil_of_le (by omega)]
theorem Z5 {α:Type}[aj α][kC α]{A W dd W' u v}{x:α}(h:(I.of x).holds A W u)(dc:(I.of x).holds dd W' v):u=v:=by
 obtain⟨h1,ae⟩:=h;obtain⟨aA,aV⟩:=dc;have bc:=kC.uniq ae aV;by_cases a7:aj.agg α=true
 ·simp only [shaped,a7,if_true] at h1 aA;obtain⟨a,rfl⟩:=h1;obtain⟨b,rfl⟩:=aA;simp only [Value.cells] at bc;congr 1;exact Array.toList_inj.1 bc
 simp only [Bool.not_eq_true] at a7;simp only [shaped,a7,Bool.false_eq_true,if_false] at h1 aA;rw [cells_one h1,cells_one aA] at bc;simpa using bc
theorem R3 {P:Value→Value→Bool} :∀ {cs:List Value},(∀ v∈cs,P v v=true)→ ((cs.zip cs).all fun(x,y)=>P x y)=true
 | [],_=>rfl
 | a::r,h=>by
   simp only [List.zip_cons_cons,List.all_cons,Bool.and_eq_true];exact⟨h a (by simp),R3 fun v bm=>h v (by simp [bm])⟩
theorem Z6 {α:Type}[aj α][kC α]{A W u}{x:α}(h:(I.of x).holds A W u)(n:Nat):Instr.sameBits (n+1) u u=true:=by
 obtain⟨h1,ae⟩:=h;by_cases a7:aj.agg α=true
 ·simp only [shaped,a7,if_true] at h1;obtain⟨a,rfl⟩:=h1;simp only [Value.cells] at ae;simp only [Instr.sameBits,beq_self_eq_true,Bool.true_and];exact R3 fun v bm=>kC.plain ae v bm n
 simp only [Bool.not_eq_true] at a7;simp only [shaped,a7,Bool.false_eq_true,if_false] at h1;rw [cells_one h1] at ae;exact kC.plain ae u (by simp) _
theorem aaH {α:Type}[aj α][kC α]{P:Program}{A W dd W' u v}{x:α}(h:(I.of x).holds A W u)(dc:(I.of x).holds dd W' v)(kA:World):(Instr.keyThatStays u v).run P kA= .ok v kA:=by
 have:=Z5 h dc;subst this;simp [Instr.keyThatStays,Z6 h 9999]
def sy (P:Program)(t:TypeId)(α:Type)[aj α](n:Nat):Prop:= ∀ b d A W u (x:α),n≤d→ (I.of x).holds A W u→ (Instr.checkKey b d t u).run P W= .ok () W
theorem LP {P:Program}{t:TypeId}{α:Type}[aj α]{D:TypeDesc}(h:P.underlying t=some D)(hd:(match (motive:=TypeDesc→Bool) D with | .interface _ | .array _ _ | .struct _=>false | _=>true)=true):sy P t α 1:=by
 intro b d A W u x aQ ar;obtain⟨d,rfl⟩:∃ e,d=e+1:=⟨d - 1,by omega⟩;simp only [Instr.checkKey,Sem.run_bind,run_underlying h,Result.andThen_ok];cases D <;> simp at hd <;> rfl
theorem QL {P:Program}{W:World}{GW:Type}(f:GW→Sem Unit):∀ (l:List GW),(∀ i∈l,(f i).run P W= .ok () W)→
 (forIn (m:=Sem) l () (fun i _=>do f i;pure (ForInStep.yield ()))).run P W= .ok () W
 | [],_=>by simp
 | i::r,h=>by
   have h1:=h i (by simp);have ae:=QL (P:=P) (W:=W) f r (fun j aF=>h j (by simp [aF]));rw [List.forIn_cons];simp only [Sem.run_bind,h1,Result.andThen_ok,Sem.run_pure];rw [ae]
theorem QF {P:Program}{W:World}{GW:Type}(f:GW→PUnit→Sem (ForInStep PUnit)):∀ (l:List GW),(∀ i∈l,(f i ()).run P W= .ok (.yield ()) W)→ (forIn (m:=Sem) l PUnit.unit f).run P W= .ok () W
 | [],_=>by simp
 | i::r,h=>by
   have h1:=h i (by simp);have ae:=QF (P:=P) (W:=W) f r (fun j aF=>h j (by simp [aF]));rw [List.forIn_cons];simp only [Sem.run_bind,h1,Result.andThen_ok];exact ae
theorem TH {P:Program}{t e n k:Nat}{α:Type}[aj α][Inhabited α](h:P.underlying t=some (.array n e))(fl:bx P e α)(he:sy P e α k):sy P t (Vector α n) (k+1):=by
 intro b d A W u x hd ar;obtain⟨d,rfl⟩:∃ e,d=e+1:=⟨d - 1,by omega⟩;obtain⟨h1,ae⟩:=ar;obtain⟨xs,rfl⟩:∃ cs,u= .agg cs:=by simpa [shaped,aj.agg] using h1
 simp only [Value.cells] at ae;have vT:xs.toList.length=n * aj.size α:=aj.len ae;have vp:∀ i∈List.range' 0 n,((do
  let z ← Go.sizeOf e
  let a ← part e xs (i * z)
  Instr.checkKey b d e a):Sem Unit).run P W= .ok () W:=by
  intro i au
  have hX:i<n:=by simpa using au
  have gu:i * aj.size α+aj.size α≤n * aj.size α:=(aJ.idx (α:=α) n i hX).hv
  obtain⟨a,a7,vU⟩:=tI (A:=A) (P:=P) (W:=W) (cs:=xs) (off:=i * aj.size α) fl (by simp at vT;omega) ((aJ.idx (α:=α) n i hX).jU ae)
  simp only [Sem.run_bind,fl.sizeOf,a7,Result.andThen_ok]
  exact he b d A W a _ (by omega) vU
 have aY:=QL (P:=P) (W:=W) _ _ vp;simp only [Instr.checkKey,Sem.run_bind,run_underlying h,Result.andThen_ok,Std.Legacy.Range.forIn_eq_forIn_range'];simp only [Std.Legacy.Range.size,Nat.sub_zero,Nat.add_one_sub_one,Nat.div_one] at aY ⊢;simp only [bind_assoc] at aY;rw [aY];rfl
inductive Gp (P:Program)(β:Type)[aj β](k:Nat):List Field→Prop
 | nil:Gp P β k []
 | cons {γ:Type} [aj γ] {f r} (l:aJ β γ):l.off=f.offset→bx P f.type γ→sy P f.type γ k→Gp P β k r→Gp P β k (f::r)
theorem RE {P:Program}{t k:Nat}{β:Type}[aj β]{fs:Array Field}(a7:aj.agg β=true)(h:P.underlying t=some (.struct fs))(ai:Gp P β k fs.toList):sy P t β (k+1):=by
 intro b d A W u x hd ar;obtain⟨d,rfl⟩:∃ e,d=e+1:=⟨d - 1,by omega⟩;obtain⟨h1,ae⟩:=ar;obtain⟨xs,rfl⟩:∃ cs,u= .agg cs:=by simpa [shaped,a7] using h1
 simp only [Value.cells] at ae;have vT:xs.toList.length=aj.size β:=aj.len ae;have vp:∀ f∈fs.toList,((do
  if f.name≠ "_" then do
   let a ← part f.type xs f.offset
   Instr.checkKey b d f.type a):Sem Unit).run P W= .ok () W:=by
  have key:∀ l,Gp P β k l→ ∀ f∈l,((do
   if f.name≠ "_" then do
    let a ← part f.type xs f.offset
    Instr.checkKey b d f.type a):Sem Unit).run P W= .ok () W:=by
   intro l ao
   induction ao with
   | nil=>simp
   | cons l bp fl hk r cA=>
     rename_i f nc
     intro CU tn
     rcases List.mem_cons.1 tn with rfl | tn
     ·split
      ·obtain⟨a,a7,vU⟩:=tI (A:=A) (P:=P) (W:=W) (cs:=xs) (off:=l.off) fl (by have:=l.hv;simp at vT;omega) (l.jU ae)
       rw [← bp]
       simp only [Sem.run_bind,a7,Result.andThen_ok]
       exact hk b d A W a _ (by omega) vU
      rfl
     exact cA CU tn
  exact key _ ai
 simp only [Instr.checkKey,Sem.run_bind,run_underlying h,Result.andThen_ok];rw [← Array.forIn_toList,QF]
 ·rfl
 intro f aY;have:=vp f aY;split
 ·rename_i aQ;rw [if_pos aQ] at this;simp only [Sem.run_bind] at this ⊢;revert this;generalize (part f.type xs f.offset).run P W=r;cases r <;> simp only [Result.andThen] <;> intro h <;> first | rw [h];rfl | cases h
 rfl
structure pR (P:Program)(t:TypeId)(α:Type)[aj α][DecidableEq α]:Prop where
 check:∀ b A W u (x:α),(I.of x).holds A W u→ (Instr.checkKey b 10000 t u).run P W= .ok () W
 same:∀ A W u v (x y:α),(I.of x).holds A W u→ (I.of y).holds A W v→ (Op.equal t u v).run P W= .ok (decide (x=y)) W
 now:∃ D,P.underlying t=some D∧ ∀ A W u v (x y:α),(I.of x).holds A W u→ (I.of y).holds A W v→Instr.sameNow D u v=none∨Instr.sameNow D u v=some (decide (x=y))
def nn {α β:Type}[DecidableEq α]:List (α×β)→α→Nat→Option (Nat×β)
 | [],_,_=>none
 | (k,v)::r,x,i=>if x=k then some (i,v) else nn r x (i+1)
def Found {α β:Type}[aj α][aj β](A:List Nat)(W:World)(kv:List (α×β)):Option (Nat×Value)→Option (Nat×β)→Prop
 | none,none=>True
 | some (i,u),some (j,v)=>i=j∧ (I.of v).holds A W u
 | _,_=>False
theorem QQ {α β:Type}[aj α][aj β][DecidableEq α]{D:TypeDesc}{A:List Nat}{W:World}{u:Value}{x:α}(hu:(I.of x).holds A W u)
 (hs:∀ v (y:α),(I.of y).holds A W v→Instr.sameNow D u v=none∨Instr.sameNow D u v=some (decide (x=y))) (Gq:List (α×β)):∀ {es:List MapEntry} {kv:List (α×β)} (i:Nat),mi A W es kv→
 Instr.findNow D u es i=none∨ ∃ r,Instr.findNow D u es i=some r∧Found A W Gq r (nn kv x i)
 | [],_,i,h=>by cases h;exact .inr ⟨none,rfl,trivial⟩
 | e::es,_,i,h=>by
   cases h with
   | cons h1 ae aA=>
     rename_i k v r
     rcases hs e.key k h1 with aV | aV
     ·exact .inl (by simp [Instr.findNow,aV])
     by_cases hk:x=k
     ·exact .inr ⟨some (i,e.val),by simp [Instr.findNow,aV,hk],by simp only [nn,if_pos hk];exact⟨rfl,ae⟩⟩
     rcases QQ hu hs Gq (i+1) aA with bc | ⟨nc,bc,bs⟩
     ·exact .inl (by simp [Instr.findNow,aV,hk,bc])
     exact .inr ⟨nc,by simp [Instr.findNow,aV,hk,bc],by simp only [nn,if_neg hk];exact bs⟩
theorem Qz {α β:Type}[aj α][aj β][DecidableEq α]{P:Program}{t:TypeId}(ml:pR P t α){A:List Nat}{W:World}{u:Value}{x:α}(hu:(I.of x).holds A W u)(Gq:List (α×β)):∀ {es:List MapEntry} {kv:List (α×β)} (i:Nat),mi A W es kv→
 ∃ r,(Instr.findAsking t u es i).run P W= .ok r W∧Found A W Gq r (nn kv x i)
 | [],_,i,h=>by cases h;exact⟨none,rfl,trivial⟩
 | e::es,_,i,h=>by
   cases h with
   | cons h1 ae aA=>
     rename_i k v r
     have aV:=ml.same A W u e.key x k hu h1
     by_cases hk:x=k
     ·exact⟨some (i,e.val),by simp [Instr.findAsking,Sem.run_bind,aV,hk],by simp only [nn,if_pos hk];exact⟨rfl,ae⟩⟩
     obtain⟨nc,bc,bs⟩:=Qz ml hu Gq (i+1) aA
     exact⟨nc,by simp [Instr.findAsking,Sem.run_bind,aV,hk,bc],by simp only [nn,if_neg hk];exact bs⟩
theorem Lq {α β:Type}[aj α][aj β][DecidableEq α]{P:Program}{t:TypeId}(ml:pR P t α){A:List Nat}{W:World}{u:Value}{x:α}(hu:(I.of x).holds A W u){es:List MapEntry}{kv:List (α×β)}(h:mi A W es kv):
 ∃ r,(Instr.findKey t u es).run P W= .ok r W∧Found A W kv r (nn kv x 0):=by
 obtain⟨D,mZ,hs⟩:=ml.now
 rcases QQ hu (fun v y a1=>hs A W u v x y hu a1) kv 0 h with h1 | ⟨r,h1,ae⟩
 ·obtain⟨r,aA,aV⟩:=Qz ml hu kv 0 h
  exact⟨r,by simp [Instr.findKey,Sem.run_bind,run_underlying mZ,h1,aA],aV⟩
 exact⟨r,by simp [Instr.findKey,Sem.run_bind,run_underlying mZ,h1],ae⟩
theorem L4 {α β:Type}[aj α][aj β][DecidableEq α]{A:List Nat}{W:World}{x:α} :∀ {es:List MapEntry} {kv:List (α×β)} {j i:Nat} {v:β},mi A W es kv→nn kv x j=some (i,v)→
 ∃ m e,i=j+m∧es[m]? =some e∧ (I.of x).holds A W e.key∧ (∀ (e':MapEntry) (y:β),(I.of x).holds A W e'.key→ (I.of y).holds A W e'.val→mi A W (es.set m e') (gB kv x y))∧mi A W (es.eraseIdx m) (jg kv x)
 | [],_,j,i,v,h,aY=>by cases h;cases aY
 | e::es,_,j,i,v,h,aY=>by
   cases h with
   | cons h1 ae aA=>
     rename_i k GS r
     by_cases hk:x=k
     ·subst hk
      simp only [nn,if_pos] at aY
      simp only [Option.some.injEq,Prod.mk.injEq] at aY
      exact⟨0,e,by omega,rfl,h1,fun e' y g1 g2=>by simp only [gB,if_pos];exact .cons g1 g2 aA,by simp only [jg,if_pos];exact aA⟩
     simp only [nn,if_neg hk] at aY
     obtain⟨m,e',g1,g2,g3,g4,g5⟩:=L4 aA aY
     exact⟨m+1,e',by omega,by simpa using g2,g3,fun OZ y aB ef=>by simp only [gB,if_neg hk];exact .cons h1 ae (g4 OZ y aB ef),by simp only [jg,if_neg hk];exact .cons h1 ae g5⟩
theorem LG {α β:Type}[aj α][aj β][DecidableEq α]{A:List Nat}{W:World}{x:α} :∀ {es:List MapEntry} {kv:List (α×β)} {j:Nat},mi A W es kv→nn kv x j=none→
 (∀ (e':MapEntry) (y:β),(I.of x).holds A W e'.key→ (I.of y).holds A W e'.val→mi A W (es++[e']) (gB kv x y))∧jg kv x=kv
 | [],_,j,h,_=>by cases h;exact⟨fun e' y h1 ae=>.cons h1 ae .nil,rfl⟩
 | e::es,_,j,h,aY=>by
   cases h with
   | cons h1 ae aA=>
     rename_i k GS r
     by_cases hk:x=k
     ·simp [nn,hk] at aY
     simp only [nn,if_neg hk] at aY
     obtain⟨g1,g2⟩:=LG aA aY
     exact⟨fun e' y aB ef=>by simp only [gB,if_neg hk];exact .cons h1 ae (g1 e' y aB ef),by simp only [jg,if_neg hk,g2]⟩
theorem mi.length {α β:Type}[aj α][aj β]{A W} :∀ {es:List MapEntry} {kv:List (α×β)},mi A W es kv→es.length=kv.length
 | _,_,.nil=>rfl
 | _,_,.cons _ _ r=>by simp [r.length]
theorem Rh {α β:Type}[DecidableEq α]:∀ (kv:List (α×β)) (x:α) (i:Nat),(nn kv x i).map (·.2)=ec kv x
 | [],_,_=>rfl
 | (k,v)::r,x,i=>by simp only [nn,ec];split <;> simp [Rh]
section
variable {c:dy} {E:List (Nat×I)} {L:List aR} {ops:Array Oper} {Q:Exit→Act→World→Prop}
variable {d:Option Tmp} {ty:TypeId} {pos:String} {af:Array Edge} {g:Option (Nat×Bool)} {x y z:Operand} {t t2:TypeId}
variable {b0:Type} [eY b0] {hp:aC b0} {loc:List aR}
theorem ab.acz {α β:Type}[aj α][aj β]{rest:List Oper}{bg:Nat}(mk:b0)(hk:∀ p,eY.gT p mk= [⟨some p,.map ([]:List (α×β))⟩])(aQ:Nat.blt bg c.n=true)
 (k:∀ p,p ∉ dZ hp→ab c ops Q rest ((bg,.of (⟨some p⟩:fj))::E) (loc++aH ((p,mk)::hp))):ab c ops Q (⟨some bg,.makeMap t none,ty,pos,af,none⟩::rest) E (loc++aH hp):=fun a W s=>by
 refine jl rfl (R:=fun v W'=>v= .map (some W.heap.size)∧W'=W.alloc (.map #[] 0)) (.mL ?_ ⟨rfl,rfl⟩) fun v W' ⟨bm,hw⟩=>?_
 ·simp only [execOp,Instr.makeMap,newObj,Sem.run_bind,Sem.run_pure];rfl
 subst bm
 subst hw
 refine k _ s.fresh _ _ (bN.put ?_ (by simpa using aQ) (w6.2 rfl))
 refine(s.alloc (cp:= .map ([]:List (α×β))) ⟨#[],0,rfl,.nil,by simp,by simp⟩).perm ?_
 simp only [aH,hk,List.singleton_append]
 exact List.perm_middle.symm
theorem ab.EJ {α β:Type}[aj α][aj β]{rest:List Oper}{bg:Nat}(n:Nat)(al:L.drop n=aH hp)(mk:b0)(hk:∀ p,eY.gT p mk= [⟨some p,.map ([]:List (α×β))⟩])(aQ:Nat.blt bg c.n=true)(k:∀ a:Nat×aC b0,a.1 ∉ hp.map (·.1)∧a.2=(a.1,mk)::hp→ab c ops Q rest ((bg,.of (⟨some a.1⟩:fj))::E) (L.take n++aH a.2)):ab c ops Q (⟨some bg,.makeMap t none,ty,pos,af,none⟩::rest) E L:=by
 have e:L=L.take n++aH hp:=by rw [← al,List.take_append_drop]
 clear al;generalize L.take n=loc at *;subst e;exact ab.acz (α:=α) (β:=β) mk hk aQ fun p h=>k (p,(p,mk)::hp) ⟨h,rfl⟩
theorem bN.Fc {a:Act}{W:World}(s:bN c E L a W){p:Nat}{α β:Type}[aj α][aj β]{kv:List (α×β)}(hm:(⟨some p,.map kv⟩:aR)∈L):
 ∃ es clock,W.heap[p]? =some (.map es clock)∧mi (aT L++c.cc) W es.toList kv∧ (∀ x∈es.toList,x.born<clock)∧ (es.toList.map MapEntry.born).Nodup:=by
 obtain⟨o,bp,es,clock,rfl,ae,aA,aV⟩:=s.own _ hm
 exact⟨es,clock,bp,ae,aA,aV⟩
theorem Ri {a:Act}{W:World}(s:bN c E L a W){p key elem:Nat}{α β:Type}[aj α][aj β][DecidableEq α][Inhabited β]{kv:List (α×β)}{i:α}(hu:c.P.underlying t=some (.map key elem))(ml:pR c.P key α)(h9:cI c.P elem (default:β))
 (ar:bn c E L x (.of (⟨some p⟩:fj))) (a1:bn c E L y (.of i)) (hm:(⟨some p,.map kv⟩:aR)∈L):
 ∃ u,(I.of ((ec kv i).getD default)).holds (aT L++c.cc) W u∧ ∀ ok,(Instr.lookup t (a.eval x) (a.eval y) ok).run c.P W= .ok (if ok then .tuple #[u,.bool (ec kv i).isSome] else u) W:=by
 obtain⟨es,clock,bp,ae,aA,aV⟩:=s.Fc hm
 have mV:=w6.1 (ar a W s)
 have rh:=a1 a W s
 obtain⟨r,aI,aY⟩:=Lq ml rh ae
 obtain⟨hg,e4,eL,cJ,OM⟩:=h9.zero
 have bO:(getObj p).run c.P W= .ok (.map es clock) W:=by simp [getObj,Sem.run,bp]
 have ai:=fun b=>ml.check b _ W _ i rh
 have CF:=Rh kv i 0
 cases sn:nn kv i 0 with
 | none=>
   rw [sn] at aY CF
   cases r with
   | some q=>exact aY.elim
   | none=>
     refine⟨e4,by rw [← CF];exact OM _ W,fun ok=>?_⟩
     rw [← CF]
     simp [Instr.lookup,Sem.run_bind,run_underlying hu,mV,bO,ai,aI,zeroValue,typeInfo,eL,cJ]
 | some q=>
   rw [sn] at aY CF
   cases r with
   | none=>exact aY.elim
   | some oa=>
     refine⟨oa.2,by rw [← CF];exact aY.2,fun ok=>?_⟩
     rw [← CF]
     simp [Instr.lookup,Sem.run_bind,run_underlying hu,mV,bO,ai,aI]
theorem uU {p key elem:Nat}{α β:Type}[aj α][aj β][DecidableEq α][Inhabited β]{kv:List (α×β)}{i:α}{r:β}(hu:c.P.underlying t=some (.map key elem))(ml:pR c.P key α)(h9:cI c.P elem (default:β))
 (ar:bn c E L x (.of (⟨some p⟩:fj))) (a1:bn c E L y (.of i)) (hm:(⟨some p,.map kv⟩:aR)∈L) (aI:(ec kv i).getD default=r):
 b6 c E L ⟨d,.lookup t x y false,ty,pos,af,g⟩ (.of r):= .pure fun a W s=>by
 subst aI
 obtain⟨u,h1,ae⟩:=Ri s hu ml h9 ar a1 hm
 have aA:=ae false
 exact⟨u,by simp only [execOp,Sem.run_bind,aA,Result.andThen_ok];rfl,h1⟩
theorem LX {p key elem:Nat}{α β:Type}[aj α][aj β][DecidableEq α][Inhabited β]{kv:List (α×β)}{i:α}{r:Option β}(hu:c.P.underlying t=some (.map key elem))(ml:pR c.P key α)(h9:cI c.P elem (default:β))
 (ar:bn c E L x (.of (⟨some p⟩:fj))) (a1:bn c E L y (.of i)) (hm:(⟨some p,.map kv⟩:aR)∈L) (aI:ec kv i=r):
 b6 c E L ⟨d,.lookup t x y true,ty,pos,af,g⟩ (.c4 [.of (r.getD default),.of r.isSome]):= .pure fun a W s=>by
 subst aI
 obtain⟨u,h1,ae⟩:=Ri s hu ml h9 ar a1 hm
 have aA:=ae true
 exact⟨_,by simp only [execOp,Sem.run_bind,aA,Result.andThen_ok];rfl,_,rfl,.cons h1 (.cons (of_bool.2 rfl) .nil)⟩
theorem abA {es:List MapEntry}{m:Nat}{e e':MapEntry}(h:es[m]? =some e)(hb:e'.born=e.born):(es.set m e').map MapEntry.born=es.map MapEntry.born:=by
 apply List.ext_getElem?;intro j;simp only [List.getElem?_map,List.getElem?_set];split
 ·rename_i aF;subst aF;have:=(List.getElem?_eq_some_iff.1 h).1;rw [if_pos this,h];simp [hb]
 rfl
theorem ab.adD {rest:List Oper}{op:Op}(CG:op= .mapUpdate t x y z∨op= .insert t x y z){p key elem:Nat}{k k':b0}{α β:Type}[aj α][aj β][kC α][DecidableEq α]{kv tq:List (α×β)}{i:α}{v:β}(hu:c.P.underlying t=some (.map key elem))(ml:pR c.P key α)
 (ar:bn c E (loc++aH hp) x (.of (⟨some p⟩:fj))) (a1:bn c E (loc++aH hp) y (.of i)) (cJ:bn c E (loc++aH hp) z (.of v)) (hp':pat hp p=some k) (hk:eY.gT p k= [⟨some p,.map kv⟩]) (zR:gB kv i v=tq) (ke:eY.gT p k'= [⟨some p,.map tq⟩])
 (na:ab c ops Q rest E (loc++aH (cQ hp p k'))):ab c ops Q (⟨none,op,ty,pos,af,none⟩::rest) E (loc++aH hp):=fun a W s=>by
 subst zR
 obtain⟨es,clock,bp,ae,aA,aV⟩:=s.Fc (eb (n:=loc.length) (by simp) hp' hk)
 have mV:=w6.1 (ar a W s)
 have rh:=a1 a W s
 have Ws:=cJ a W s
 obtain⟨r,aI,aY⟩:=Lq ml rh ae
 have bO:(getObj p).run c.P W= .ok (.map es clock) W:=by simp [getObj,Sem.run,bp]
 have ai:=ml.check false _ W _ i rh
 have cH:p<W.heap.size:=(Array.getElem?_eq_some_iff.1 bp).1
 have lT:∀ o,(setObj p o).run c.P W= .ok () (W.putObj p o):=fun o=>by simp only [setObj,Sem.run,bp];rfl
 have key:∃ n4 y5,(Instr.mapUpdate t (a.eval x) (a.eval y) (a.eval z)).run c.P W= .ok () (W.putObj p (.map n4 y5))∧mi (aT (loc++aH hp)++c.cc) W n4.toList (gB kv i v)∧ (∀ x∈n4.toList,x.born<y5)∧ (n4.toList.map MapEntry.born).Nodup:=by
  cases sn:nn kv i 0 with
  | none=>
    rw [sn] at aY
    cases r with
    | some q=>exact aY.elim
    | none=>
      obtain⟨g1,_⟩:=LG ae sn
      refine⟨es.push { key:=a.eval y,val:=a.eval z,born:=clock },clock+1,by simp [Instr.mapUpdate,Sem.run_bind,run_underlying hu,mV,bO,ai,aI,lT],by simpa using g1 { key:=a.eval y,val:=a.eval z,born:=clock } v rh Ws,?_,?_⟩
      ·intro q hq
       simp only [Array.toList_push,List.mem_append,List.mem_singleton] at hq
       rcases hq with hq | rfl
       ·exact Nat.lt_succ_of_lt (aA q hq)
       exact Nat.lt_succ_self _
      simp only [Array.toList_push,List.map_append,List.map_cons,List.map_nil]
      refine List.nodup_append.2 ⟨aV,by simp,fun b hb b' Wt=>?_⟩
      simp only [List.mem_singleton] at Wt
      subst Wt
      obtain⟨q,hq,rfl⟩:=List.mem_map.1 hb
      exact Nat.ne_of_lt (aA q hq)
  | some q=>
    rw [sn] at aY
    cases r with
    | none=>exact aY.elim
    | some oa=>
      obtain⟨m,e,g1,g2,g3,g4,_⟩:=L4 ae sn
      have kg:oa.1=m:=by have:=aY.1;omega
      have hq:es[m]? =some e:=by simpa using g2
      have dk:=aaH (P:=c.P) g3 rh W
      let e':MapEntry:= { e with key:=a.eval y,val:=a.eval z }
      have zz:(es.modify m fun e=>{ e with key:=a.eval y,val:=a.eval z }).toList=es.toList.set m e':=by
       apply List.ext_getElem?;intro j;rw [Array.getElem?_toList,Array.getElem?_modify,List.getElem?_set,Array.getElem?_toList];by_cases aF:m=j
       ·subst aF;rw [if_pos rfl,if_pos rfl,hq,if_pos (by simpa using (Array.getElem?_eq_some_iff.1 hq).1)];rfl
       rw [if_neg aF,if_neg aF]
      refine⟨es.modify m fun e=>{ e with key:=a.eval y,val:=a.eval z },clock,by simp [Instr.mapUpdate,Sem.run_bind,run_underlying hu,mV,bO,ai,aI,lT,kg,hq,dk],by rw [zz];exact g4 e' v rh Ws,?_,?_⟩
      ·rw [zz]
       intro w hw
       rcases List.mem_or_eq_of_mem_set hw with hw | rfl
       ·exact aA w hw
       exact aA e (List.mem_of_getElem? g2)
      rw [zz,abA (e':=e') g2 rfl];exact aV
 obtain⟨n4,y5,ka,av,aX,c0⟩:=key
 obtain⟨R,bk,bB⟩:=uL hp'
 have bB:=bB k'
 rw [hk] at bk
 rw [ke] at bB
 have cS:∀ {z:List (α×β)} {M:List aR},M.Perm ([⟨some p,.map z⟩]++R)→ (loc++M).Perm (⟨some p,.map z⟩::(loc++R)):=fun h=>(h.append_left loc).trans (by simp only [List.singleton_append];exact List.perm_middle)
 have cD:=(s.perm (cS bk)).s8 (i:=0) (cp':= .map (gB kv i v)) rfl (o':= .map n4 y5) ⟨n4,y5,rfl,av.mono (oT (cS bk)),aX,c0⟩
 refine jl rfl (R:=fun v W'=>W'=W.putObj p (.map n4 y5)) (.BC ?_ rfl) fun v W' hw=>?_
 ·rcases CG with rfl | rfl <;> simp [execOp,ka]
 subst hw
 exact na _ _ (cD.perm (cS bB).symm)
theorem ab.E6 {rest:List Oper}{op:Op}(n:Nat)(al:L.drop n=aH hp)(CG:op= .mapUpdate t x y z∨op= .insert t x y z){p key elem:Nat}{k k':b0}{c6:aC b0}{α β:Type}[aj α][aj β][kC α][DecidableEq α]{kv tq:List (α×β)}{i:α}{v:β}(hu:c.P.underlying t=some (.map key elem))(ml:pR c.P key α)(ar:bn c E L x (.of (⟨some p⟩:fj)))(a1:bn c E L y (.of i))(cJ:bn c E L z (.of v))(hp':pat hp p=some k)(hk:eY.gT p k= [⟨some p,.map kv⟩])(zR:gB kv i v=tq)(ke:eY.gT p k'= [⟨some p,.map tq⟩])(cJ:cQ hp p k'=c6)(na:ab c ops Q rest E (L.take n++aH c6)):ab c ops Q (⟨none,op,ty,pos,af,none⟩::rest) E L:=by
 subst cJ;have e:L=L.take n++aH hp:=by rw [← al,List.take_append_drop]
 clear al;generalize L.take n=loc at *;subst e;exact ab.adD CG hu ml ar a1 cJ hp' hk zR ke na
theorem ab.adE {rest:List Oper}{p key elem:Nat}{k k':b0}{α β:Type}[aj α][aj β][DecidableEq α]{kv tq:List (α×β)}{i:α}(hu:c.P.underlying t=some (.map key elem))(ml:pR c.P key α)
 (ar:bn c E (loc++aH hp) x (.of (⟨some p⟩:fj))) (a1:bn c E (loc++aH hp) y (.of i)) (hp':pat hp p=some k) (hk:eY.gT p k= [⟨some p,.map kv⟩]) (zR:jg kv i=tq) (ke:eY.gT p k'= [⟨some p,.map tq⟩])
 (na:ab c ops Q rest E (loc++aH (cQ hp p k'))):ab c ops Q (⟨none,.call ⟨.builtin .delete,#[x,y],#[t,t2]⟩,ty,pos,af,none⟩::rest) E (loc++aH hp):=fun a W s=>by
 subst zR
 obtain⟨es,clock,bp,ae,aA,aV⟩:=s.Fc (eb (n:=loc.length) (by simp) hp' hk)
 have mV:=w6.1 (ar a W s)
 have rh:=a1 a W s
 obtain⟨r,aI,aY⟩:=Lq ml rh ae
 have bO:(getObj p).run c.P W= .ok (.map es clock) W:=by simp [getObj,Sem.run,bp]
 have ai:=fun b=>ml.check b _ W _ i rh
 have lT:∀ o,(setObj p o).run c.P W= .ok () (W.putObj p o):=fun o=>by simp only [setObj,Sem.run,bp];rfl
 have key:∃ n4,(Builtin.delete_ #[t,t2] ty #[a.eval x,a.eval y]).run c.P W= .ok (.tuple #[]) (W.putObj p (.map n4 clock))∧mi (aT (loc++aH hp)++c.cc) W n4.toList (jg kv i)∧ (∀ x∈n4.toList,x.born<clock)∧ (n4.toList.map MapEntry.born).Nodup:=by
  cases sn:nn kv i 0 with
  | none=>
    rw [sn] at aY
    cases r with
    | some q=>exact aY.elim
    | none=>
      obtain⟨_,g1⟩:=LG ae sn
      exact⟨es,by simp [Builtin.delete_,Sem.run_bind,run_underlying hu,mV,bO,ai,aI,lT],by rw [g1];exact ae,aA,aV⟩
  | some q=>
    rw [sn] at aY
    cases r with
    | none=>exact aY.elim
    | some oa=>
      obtain⟨m,e,g1,g2,_,_,g5⟩:=L4 ae sn
      have kg:oa.1=m:=by have:=aY.1;omega
      have hm:m<es.size:=by simpa using (List.getElem?_eq_some_iff.1 g2).1
      have he:(es.eraseIdxIfInBounds m).toList=es.toList.eraseIdx m:=by simp [Array.eraseIdxIfInBounds,hm]
      have nZ:(es.toList.eraseIdx m).Sublist es.toList:=List.eraseIdx_sublist _ _
      exact⟨es.eraseIdxIfInBounds m,by simp [Builtin.delete_,Sem.run_bind,run_underlying hu,mV,bO,ai,aI,lT,kg],by rw [he];exact g5,by rw [he];exact fun w hw=>aA w (nZ.subset hw),by rw [he];exact(nZ.map _).nodup aV⟩
 obtain⟨n4,ka,av,aX,c0⟩:=key
 obtain⟨R,bk,bB⟩:=uL hp'
 have bB:=bB k'
 rw [hk] at bk
 rw [ke] at bB
 have cS:∀ {z:List (α×β)} {M:List aR},M.Perm ([⟨some p,.map z⟩]++R)→ (loc++M).Perm (⟨some p,.map z⟩::(loc++R)):=fun h=>(h.append_left loc).trans (by simp only [List.singleton_append];exact List.perm_middle)
 have cD:=(s.perm (cS bk)).s8 (i:=0) (cp':= .map (jg kv i)) rfl (o':= .map n4 clock) ⟨n4,clock,rfl,av.mono (oT (cS bk)),aX,c0⟩
 refine jl rfl (R:=fun v W'=>W'=W.putObj p (.map n4 clock)) (.mL (v:= .tuple #[]) ?_ rfl) fun v W' hw=>?_
 ·simp [execOp,resolve,invoke,builtin,ka]
 subst hw
 exact na _ _ (cD.perm (cS bB).symm)
theorem ab.Jk {rest:List Oper}{p key elem:Nat}{k k':b0}{c6:aC b0}{α β:Type}[aj α][aj β][DecidableEq α]{kv tq:List (α×β)}{i:α}(n:Nat)(al:L.drop n=aH hp)(hu:c.P.underlying t=some (.map key elem))(ml:pR c.P key α)(ar:bn c E L x (.of (⟨some p⟩:fj)))(a1:bn c E L y (.of i))(hp':pat hp p=some k)(hk:eY.gT p k= [⟨some p,.map kv⟩])(zR:jg kv i=tq)(ke:eY.gT p k'= [⟨some p,.map tq⟩])(cJ:cQ hp p k'=c6)(na:ab c ops Q rest E (L.take n++aH c6)):ab c ops Q (⟨none,.call ⟨.builtin .delete,#[x,y],#[t,t2]⟩,ty,pos,af,none⟩::rest) E L:=by
 subst cJ;have e:L=L.take n++aH hp:=by rw [← al,List.take_append_drop]
 clear al;generalize L.take n=loc at *;subst e;exact ab.adE hu ml ar a1 hp' hk zR ke na
theorem ab8 {p key elem:Nat}{α β:Type}[aj α][aj β]{kv:List (α×β)}(hu:c.P.underlying t=some (.map key elem))(ar:bn c E L x (.of (⟨some p⟩:fj)))(hm:(⟨some p,.map kv⟩:aR)∈L):
 b6 c E L ⟨d,.call ⟨.builtin .len,#[x],#[t]⟩,ty,pos,af,g⟩ (.of (kv.length:Int)):= .pure fun a W s=>by
 obtain⟨es,clock,bp,ae,aA,aV⟩:=s.Fc hm
 have mV:=w6.1 (ar a W s)
 have bO:(getObj p).run c.P W= .ok (.map es clock) W:=by simp [getObj,Sem.run,bp]
 have ao:es.size=kv.length:=by simpa using ae.length
 refine⟨.int .i64 kv.length,?_,of_int.2 rfl⟩
 simp [execOp,resolve,invoke,builtin,Builtin.len_,mV,bO,ao,run_underlying hu,goInt]
end
theorem adF {P:Program}{t:TypeId}(h:P.underlying t=some (.int .i64)):pR P t Int where
 check b A W u x ar:=LP (α:=Int) h rfl b 10000 A W u x (by decide) ar
 same A W u v x y ar a1:=by
  have:=(SU h).run 10000 (by decide) A W u v x y ar a1;simpa [Op.equal,Op.maxDepth] using this
 now:=⟨_,h,fun A W u v x y ar a1=>.inr (by
  rw [of_int.1 ar,of_int.1 a1];simp only [Instr.sameNow,if_pos];rfl)⟩
theorem MY {P:Program}{t:TypeId}{α:Type}[aj α][DecidableEq α]{D:TypeDesc}{n m:Nat}(h:P.underlying t=some D)(mZ:(match (motive:=TypeDesc→Bool) D with | .array _ _ | .struct _=>true | _=>false)=true)(akh:sy P t α n)(Ab:nw P t α m)(aQ:Nat.ble n 10000=true)(hm:Nat.ble m 10000=true):pR P t α where
 check b A W u x ar:=akh b 10000 A W u x (Nat.le_of_ble_eq_true aQ) ar
 same A W u v x y ar a1:=by
  have:=Ab.run 10000 (Nat.le_of_ble_eq_true hm) A W u v x y ar a1;simpa [Op.equal,Op.maxDepth] using this
 now:=⟨_,h,fun A W u v x y ar a1=>.inl (by cases D <;> simp at mZ <;> rfl)⟩
structure lA (P:Program)(t:TypeId)(name:String)(f:FuncId):Prop where
 run:∀ v W args,(callMethod (.iface t v) name args).run P W= .ok (.enter f (#[v]++args)) W
theorem lA.of {P:Program}{t:TypeId}{name:String}{f:FuncId}{i:TypeInfo}{D:TypeDesc}{m:Method}(au:P.info? t=some i)(hm:i.methods.find? (fun x=>x.name==name)=some m)(hp:m.path= #[])(aY:m.func=some (f,false))(mZ:P.underlying t=some D)
 (aQ:(match (motive:=TypeDesc→Bool) D with | .pointer _=>false | _=>true)=true) (eB:bF P f):lA P t name f where
 run v W args:=by
  have aiX:∀ args,(callFunc f args).run P W= .ok (.enter f args) W:=fun args=>eB.run ..;have dT:∀ n,(method (n+1) t v name).run P W= .ok (f,v) W:=fun n=>by
   simp only [method,Sem.run_bind,typeInfo,run_program,Result.andThen_ok,au,Sem.run_pure,hm,hp,aY,follow,receiverAt,run_underlying mZ];cases D <;> simp at aQ <;> simp [Place.get]
  obtain⟨n,aQ⟩:∃ n,P.types.size+Made.depth=n+1:=⟨P.types.size+Made.depth - 1,by simp [Made.depth]⟩;simp only [callMethod,Sem.run_bind,run_program,Result.andThen_ok,aQ,dT,aiX]
theorem lA.vZ {P:Program}{t:TypeId}{name:String}{f:FuncId}{D:TypeDesc}(hm:((P.info? t).bind fun i=>(i.methods.find? (fun x=>x.name==name)).map fun m=>(m.path.size,m.func))=some (0,some (f,false)))(mZ:P.underlying t=some D)
 (aQ:(match (motive:=TypeDesc→Bool) D with | .pointer _=>false | _=>true)=true) (eB:bF P f):lA P t name f:=by
 cases au:P.info? t with
 | none=>rw [au] at hm;cases hm
 | some i=>
   rw [au] at hm
   simp only [Option.bind_some] at hm
   cases ae:i.methods.find? (fun x=>x.name==name) with
   | none=>rw [ae] at hm;cases hm
   | some m=>
     rw [ae] at hm
     simp only [Option.map_some,Option.some.injEq,Prod.mk.injEq] at hm
     exact lA.of au ae (Array.eq_empty_of_size_eq_zero hm.1) hm.2 mZ aQ eB
theorem bt.map {P:Program}{f:FuncId}{τs:List I}{Lin:List aR}{δ zS:Type}{ρ:δ→I}{Lo:δ→List aR}{xX:zS→I}{Wu:zS→List aR}(F:δ→zS)(aI:∀ d,xX (F d)=ρ d)(ao:∀ d,Wu (F d)=Lo d)(h:bt P f τs Lin ρ Lo):bt P f τs Lin xX Wu:=
 fun A W vs h1 ae aA aV bc=>(h A W vs h1 ae aA aV bc).mono fun e W' ⟨v,d,aB,ef,ev,gw,ez,ky⟩=>⟨v,F d,aB,ef,by rw [ao];exact ev,by rw [ao];exact gw,by rw [ao];exact ez,by rw [ao,aI];exact ky⟩
structure oo (P:Program)(name:String)(τ:I)(τs:List I)(Lin:List aR){δ:Type}(ρ:δ→I)(Lo:δ→List aR):Prop where
 go:∀ (A:List Nat) (W:World) (u:Value) (vs:List Value),(∀ k∈A,k<W.heap.size∧k ∉ aT Lin)→ (aT Lin).Nodup→ (∀ k∈aT Lin,k<W.heap.size)→ (∀ e∈Lin,e.ok (aT Lin++A) W)→hB (aT Lin++A) W (τ::τs) (u::vs)→
  ∃ f v,(∀ args,(callMethod u name args).run P W= .ok (.enter f (#[v]++args)) W)∧Calls P f (v::vs).toArray W (ma (aT Lin) A W ρ Lo)
theorem oo.of {P:Program}{name:String}{t:TypeId}{f:FuncId}{τ σ:I}{τs:List I}{Lin:List aR}{δ:Type}{ρ:δ→I}{Lo:δ→List aR}(mt:lA P t name f)(Gr:∀ A W u,τ.holds A W u→ ∃ v,u= .iface t v∧σ.holds A W v)
 (h:bt P f (σ::τs) Lin ρ Lo):oo P name τ τs Lin ρ Lo where
 go A W u vs h1 ae aA aV bc:=by
  cases bc with
  | cons bs df=>
    obtain⟨v,rfl,dz⟩:=Gr _ _ _ bs
    exact⟨f,v,fun args=>mt.run v W args,h A W (v::vs) h1 ae aA aV (.cons dz df)⟩
section
variable {c:dy} {E:List (Nat×I)} {L:List aR} {ops:Array Oper} {Q:Exit→Act→World→Prop}
variable {d:Option Tmp} {ty:TypeId} {pos:String} {af:Array Edge} {g:Option (Nat×Bool)} {x y z:Operand} {t t2:TypeId}
theorem R4 {a:Act}{W:World}{name:String}{xs:List Operand}{ats:Array TypeId}{τ:I}{τs:List I}{Lin Lr:List aR}{δ:Type}{ρ:δ→I}{Lo:δ→List aR}(h:oo c.P name τ τs Lin ρ Lo)
 (s:bN c E (Lin++Lr) a W) (ar:hB (aT (Lin++Lr)++c.cc) W (τ::τs) ((x::xs).map a.eval)):
 hK c.P ⟨d,.call ⟨.invoke x name,xs.toArray,ats⟩,ty,pos,af,g⟩ a W fun v W'=> ∃ bg,bN c E (Lo bg++Lr) a W'∧ (ρ bg).holds (aT (Lo bg++Lr)++c.cc) W' v:=by
 have mR:=s.nodup
 rw [fG] at mR
 obtain⟨oG,qs,rb⟩:=List.nodup_append.1 mR
 have lT:Ext (aT (Lin++Lr)++c.cc) W (aT Lin++(aT Lr++c.cc)) W:=BD
 have fT:∀ k∈aT Lr++c.cc,k<W.heap.size∧k ∉ aT Lin:=fun k hm=>by
  rcases List.mem_append.1 hm with hm | hm
  ·exact⟨s.lt k (by rw [fG];exact List.mem_append.2 (.inr hm)),fun h=>rb k h k hm rfl⟩
  obtain⟨h1,ae⟩:=s.fB k hm;exact⟨h1,fun h=>ae (by rw [fG];exact List.mem_append.2 (.inl h))⟩
 have cH:∀ k∈aT Lin,k<W.heap.size:=fun k hm=>s.lt k (by rw [fG];exact List.mem_append.2 (.inl hm))
 obtain⟨f,v,ka,ai⟩:=h.go (aT Lr++c.cc) W (a.eval x) (xs.map a.eval) fT oG cH (fun e he=>aR.uY (s.own e (List.mem_append.2 (.inl he))) lT fun _ _=>rfl) (by simpa using ar.mono lT)
 refine .wX (f:=f) (args:=(v::xs.map a.eval).toArray) (W':=W) ?_ (ai.mono fun e W' ⟨v,bg,he,aY,h1,ae,aA,aV⟩=>?_)
 ·have:=ka (xs.map a.eval).toArray
  simp only [execOp,resolve,Sem.run_bind,Sem.run_pure,Result.andThen_ok,invoke]
  simp only [List.map_toArray] at this ⊢
  simp
  rw [List.take_of_length_le (by simp),this]
  simp
 refine⟨v,he,bg,s.after aY h1 ae aA,(ρ bg).mono Ip aV⟩
variable {b0:Type} [eY b0] {hp:aC b0}
theorem ab.Fz {rest:List Oper}{bg:Nat}{name:String}{xs:List Operand}{ats:Array TypeId}{τ:I}{τs:List I}{Lin Lr:List aR}{δ:Type}{ρ:δ→I}{Lo:δ→List aR}{hq:δ→aC b0}(n m:Nat)(al:L.drop n=aH hp)(h:oo c.P name τ τs (Lin++aH hp) ρ (fun d=>Lo d++aH (hq d)))
 (h1:(L.take n).take m=Lin) (ae:(L.take n).drop m=Lr) (ar:jf c E L (x::xs) (τ::τs)) (aQ:Nat.blt bg c.n=true) (k:∀ q,ab c ops Q rest ((bg,ρ q)::E) ((Lo q++Lr)++aH (hq q))):
 ab c ops Q (⟨some bg,.call ⟨.invoke x name,xs.toArray,ats⟩,ty,pos,af,none⟩::rest) E L:=by
 have e:L=(Lin++Lr)++aH hp:=by rw [← h1,← ae,List.take_append_drop,← al,List.take_append_drop]
 clear al h1 ae
 subst e
 exact fun a W s=>jl rfl (R4 (Lr:=Lr) h (s.perm nK) ((ar.holds a W s).mono (oT nK))) fun v W' ⟨q,cD,bm⟩=>
  k q _ _ ((cD.perm nK).put (by simpa using aQ) ((ρ q).mono (oT nK) bm))
theorem eW.Fz {name:String}{xs:List Operand}{ats:Array TypeId}{τ:I}{τs:List I}{ρ:I}(n:Nat)(al:L.drop n=aH hp)(h:oo c.P name τ τs (aH hp) (fun _:Unit=>ρ) (fun _=>aH hp))
 (ar:jf c E L (x::xs) (τ::τs)):eW c E L ⟨d,.call ⟨.invoke x name,xs.toArray,ats⟩,ty,pos,af,g⟩ ρ:=fun a W s=>by
 have e:L=L.take n++aH hp:=by rw [← al,List.take_append_drop]
 have cS:L.Perm (aH hp++L.take n):=by
  conv=>lhs;rw [e]
  exact List.perm_append_comm
 have bp:=R4 (d:=d) (ty:=ty) (pos:=pos) (af:=af) (g:=g) (ats:=ats) (Lr:=L.take n) h (s.perm cS) ((ar.holds a W s).mono (oT cS))
 unfold hK at bp ⊢
 exact Oper.wp_mono (fun hx W' ⟨v,h1,_,ae,aA⟩=>⟨v,h1,ae.perm cS.symm,ρ.mono (oT cS.symm) aA⟩) bp
theorem MN {D:TypeDesc}{σ τ:I}(hu:c.P.underlying t=some D)(mZ:(match (motive:=TypeDesc→Bool) D with | .interface _=>false | _=>true)=true)(ar:bn c E L x σ)(Gr:∀ A W v,σ.holds A W v→τ.holds A W (.iface t v)):
 b6 c E L ⟨d,.makeInterface t x,ty,pos,af,g⟩ τ:= .pure fun a W s=>
 ⟨.iface t (a.eval x),by
   simp only [execOp,Instr.makeInterface,Sem.run_bind,run_underlying hu,Result.andThen_ok];cases D <;> simp at mZ <;> rfl,Gr _ _ _ (ar a W s)⟩
end
def JP (P:Program)(u:Value){α σ ε γ:Type}(τ:α→I)(Ls:σ→γ→List aR)(Lx:ε→γ→List aR)(step:α→σ→ak (σ ⊕ ε))(aki:List Nat→World→Prop):Prop:=
 ∃ l,u= .func (.yield l) #[] #[]∧ ∀ x s R,step x s R→ ∀ g A W v,aki (aT (Ls s g)++A) W→FI A W (Ls s g)→ (τ x).holds (aT (Ls s g)++A) W v→
   YieldAt Fence.wide 8 P l #[v] W (fun e W'=>(∃ cD,R (.inl cD)∧ma (aT (Ls s g)) A W (fun _:γ=>I.of true) (fun g=>Ls cD g) e W')∨ ∃ q,R (.inr q)∧ma (aT (Ls s g)) A W (fun _:γ=>I.of false) (fun g=>Lx q g) e W')
structure EN (P:Program)(f:FuncId)(τs:List I){b0:Type}[eY b0]{α:Type}(τ:α→I)(run:∀ {σ ε:Type},(σ→aC b0)→ (α→σ→ak (σ ⊕ ε))→σ→ak (σ ⊕ ε)):Prop where
 go:∀ {σ ε γ:Type} (Ls:σ→γ→List aR) (Lx:ε→γ→List aR) (hq:σ→aC b0) (l2:σ→γ→List aR),(∀ s g,Ls s g=l2 s g++aH (hq s))→ ∀ (step:α→σ→ak (σ ⊕ ε)) (cT:σ) (g0:γ) (R:σ ⊕ ε→Prop),run hq step cT R→
  ∀ (A:List Nat) (W:World) (u:Value) (vs:List Value),FI A W (Ls cT g0)→hB (aT (Ls cT g0)++A) W τs vs→
    JP P u τ Ls Lx step (fun dd W'=>Ext (aT (Ls cT g0)++A) W dd W')→
    Calls P f (u::vs).toArray W (ma (aT (Ls cT g0)) A W (δ:= {r // R r}×γ) (fun _=>.c4 []) (fun d=>Lr Ls Lx d.1.1 d.2))
theorem EN.of {P:Program}{f:FuncId}{fn:Func}{code:Code}{n:Nat}{τs:List I}{b0:Type}[eY b0]{α:Type}{τ:α→I}{run:∀ {σ ε:Type},(σ→aC b0)→ (α→σ→ak (σ ⊕ ε))→σ→ak (σ ⊕ ε)}
 (aY:P.funcs[f]? =some fn) (hb:fn.body=some code) (aQ:fn.ntmps=n) (hlen:Nat.ble (τs.length+1) n=true)
 (h:∀ {σ ε γ:Type} (Ls:σ→γ→List aR) (Lx:ε→γ→List aR) (hq:σ→aC b0) (l2:σ→γ→List aR),(∀ s g,Ls s g=l2 s g++aH (hq s))→ ∀ (step:α→σ→ak (σ ⊕ ε)) (cT:σ) (g0:γ) (R:σ ⊕ ε→Prop),run hq step cT R→
  ∀ W A u,JP P u τ Ls Lx step (fun dd W'=>Ext (aT (Ls cT g0)++A) W dd W')→
    ag ⟨P,n,W,aT (Ls cT g0),A,none,[]⟩ (bodyPost P fn (ma (aT (Ls cT g0)) A W (δ:= {r // R r}×γ) (fun _=>.c4 []) (fun d=>Lr Ls Lx d.1.1 d.2))) code (params 0 (.eq u::τs)) (Ls cT g0)):EN P f τs τ run:=by
 refine⟨?_⟩
 intro σ ε γ Ls Lx hq l2 pF step cT g0 R aI A W u vs ao bm a1
 refine calls_of_wp aY hb (wpIn_wide.1 (h Ls Lx hq l2 pF step cT g0 R aI W A u a1 _ _ ?_))
 have vX:hB (aT (Ls cT g0)++A) W (.eq u::τs) (u::vs):= .cons rfl bm
 have lW:=vX.length
 have hle:τs.length+1≤n:=Nat.le_of_ble_eq_true hlen
 exact
 {defers:=rfl
  size:=by simp at lW;simp [aQ,lW];omega
  env:=fun t τ ft=>by
   obtain⟨_,v,ae,aA⟩:=Bk vX 0 t τ ft;refine⟨v,?_,aA⟩;have cH:t<(u::vs).length:=(List.getElem?_eq_some_iff.1 ae).1;rw [Array.getElem?_append_left (by simpa using cH)];simpa using ae
  eh:= .refl _ _
  own:=ao.ok
  nodup:=ao.nodup
  lt:=ao.lt
  hf:=fun k hk _=>hk
  fB:=ao.fB }
section
variable {c:dy} {E:List (Nat×I)} {L:List aR} {ops:Array Oper} {Q:Exit→Act→World→Prop}
variable {d:Option Tmp} {ty:TypeId} {pos:String} {af:Array Edge} {g:Option (Nat×Bool)} {x y:Operand} {t t2:TypeId}
theorem Un {b0:Type}[eY b0]{σ γ:Type}{Ls l2:σ→γ→List aR}{hq:σ→aC b0}{s:σ}{g:γ}{p:Nat}{k:b0}{e:aR}(n:Nat)(al:L.drop n=Ls s g)(pF:∀ s g,Ls s g=l2 s g++aH (hq s))(h:pat (hq s) p=some k)(hk:eY.gT p k= [e]):e∈L:=by
 obtain⟨R,h1,_⟩:=uL h;rw [hk] at h1;have:e∈L.drop n:=by rw [al,pF];exact List.mem_append.2 (.inr (h1.mem_iff.2 (by simp)))
 exact List.mem_of_mem_drop this
theorem ab.ac2 {rest:List Oper}{bg wv:Nat}{ats:Array TypeId}{u:Value}{α σ ε γ:Type}{τ:α→I}{Ls:σ→γ→List aR}{Lx:ε→γ→List aR}{step:α→σ→ak (σ ⊕ ε)}{Lin:List aR}{x:Operand}{v:α}{s:σ}{gg:γ}{R:σ ⊕ ε→Prop}
 (ai:c.rd=none) (a1:JP c.P u τ Ls Lx step (fun dd W'=>Ext (c.X++c.cc) c.kA dd W')) (aY:look E wv=some (.eq u)) (ar:bn c E (Lin++Ls s gg) x (τ v)) (aI:step v s R) (aQ:Nat.blt bg c.n=true)
 (aU:∀ cD,R (.inl cD)→ ∀ eG,ab c ops Q rest ((bg,.of true)::E) (Lin++Ls cD eG)) (bK:∀ q,R (.inr q)→ ∀ eG,ab c ops Q rest ((bg,.of false)::E) (Lin++Lx q eG)):
 ab c ops Q (⟨some bg,.call ⟨.value (.tmp wv),#[x],ats⟩,ty,pos,af,none⟩::rest) E (Lin++Ls s gg):=fun a W st=>by
 obtain⟨l,rfl,a1⟩:=a1
 obtain⟨PM,h1,ae⟩:=st.env wv _ aY
 have hu:PM= .func (.yield l) #[] #[]:=ae
 subst hu
 have rf:bN c E (Ls s gg++Lin) a W:=st.perm List.perm_append_comm
 have bm:=ar a W st
 have vX:(τ v).holds (aT (Ls s gg)++(aT Lin++c.cc)) W (a.eval x):=(τ v).mono (.drop fun k hm=>by
  rw [fG];simp only [List.mem_append] at hm ⊢;rcases hm with hm | hm | hm
  ·exact .inl (.inr hm)
  ·exact .inl (.inl hm)
  exact .inr hm) bm
 obtain⟨fn,tmps,assign,body,ka,kB⟩:=a1 v s R aI gg (aT Lin++c.cc) W (a.eval x) (rf.U1.trans BD) rf.JO vX
 have NJ:(execOp a.eval ⟨some bg,.call ⟨.value (.tmp wv),#[x],ats⟩,ty,pos,af,none⟩).run c.P W= .ok (.round l fn tmps assign body) W:=by
  rw [← ka];simp [execOp,resolve,Deferred.ofValue,Act.eval,h1,invoke,Sem.run_bind,Sem.run_pure,Result.andThen]
 refine wpListIn_plain rfl fun K wk=>?_
 refine⟨fun _ _=>trivial,?_⟩
 rw [Oper.semAt_eq _ _ _ (fun _ h=>by cases h),NJ,Oper.uponIn_round]
 refine⟨fun h=>by simp at h,?_⟩
 have OS:RoundIn c.F (9 - 1) c.P l fn tmps assign body W _:=kB
 refine OS.mono fun e W' he=>?_
 rcases he with⟨cD,hs,w,eG,rfl,tn,aA,aV,bc,bs⟩ | ⟨q,hs,w,eG,rfl,tn,aA,aV,bc,bs⟩
 ·obtain rfl:=of_bool.1 bs
  refine wk _ _ (aU cD hs eG _ _ ?_)
  exact(((rf.after tn aA aV bc).perm List.perm_append_comm).put (by simpa using aQ) (of_bool.2 rfl))
 obtain rfl:=of_bool.1 bs
 refine wk _ _ (bK q hs eG _ _ ?_)
 exact(((rf.after tn aA aV bc).perm List.perm_append_comm).put (by simpa using aQ) (of_bool.2 rfl))
def Wv {σ ε γ:Type}(c:dy)(js:ε→Code)(l D:Nat)(rec:Loop)(Ls:σ→γ→List aR)(Lx:ε→γ→List aR)(R:σ ⊕ ε→Prop):Exit→Act→World→Prop:=fun x a W=>
 (∃ cD,R (.inl cD)∧x= .normal∧ ∃ g,bN c [] (⟨some l,.is (.loop rec)⟩::⟨some D,.fR⟩::Ls cD g) a W)∨
 ∃ q,R (.inr q)∧y4 (js q)=true∧x=EU (js q)∧ ∃ g,bN c [] (⟨some l,.is (.loop rec)⟩::⟨some D,.fR⟩::Lx q g) a W
theorem ad.ag8 {σ ε γ:Type}{js:ε→Code}{l D:Nat}{rec:Loop}{Ls:σ→γ→List aR}{Lx:ε→γ→List aR}{R:σ ⊕ ε→Prop}{cD:σ}(kB:R (.inl cD))(g:γ)(n:Nat)(al:L.drop n=⟨some l,.is (.loop rec)⟩::⟨some D,.fR⟩::Ls cD g):
 ad c (Wv c js l D rec Ls Lx R) .normal E L:=fun a W s=>.inl ⟨cD,kB,rfl,g,by rw [← al];exact(s.r3 n).less (fun t τ h=>by simp [look] at h)⟩
theorem aap {gt p:Nat}{assign body:Code}{f:FuncId}{q6:List I}{b0:Type}[eY b0]{α σ ε γ ρ:Type}{τ:α→I}{run:∀ {σ ε:Type},(σ→aC b0)→ (α→σ→ak (σ ⊕ ε))→σ→ak (σ ⊕ ε)}
 {Ls:σ→γ→List aR} {Lx:ε→γ→List aR} {hq:σ→aC b0} {step:α→σ→ak (σ ⊕ ε)} {cT:σ} {g0:γ} {k:σ ⊕ ε→ak ρ} {pQ:ρ→Prop} (l2:σ→γ→List aR) (js:ε→Code)
 (ai:c.rd=none) (eB:bF c.P f) (bO:look E gt=some (.kc f q6)) (nC:EN c.P f q6 τ run) (aI:ak.bind (run hq step cT) k pQ) (pF:∀ s g,Ls s g=l2 s g++aH (hq s)) (al:L=Ls cT g0) (hp:Nat.blt p c.n=true)
 (tS:∀ x s R,step x s R→ ∀ g (qk:World) (qz ql:List Nat) (l D:Nat) (rec:Loop),rec.state= .ready→
  ag ⟨c.P,c.n,qk,qz,ql,some l,[]⟩ (Exit.then (KB ⟨c.P,c.n,qk,qz,ql,some l,[]⟩ l body (Wv ⟨c.P,c.n,qk,qz,ql,some l,[]⟩ js l D { rec with state:= .busy } Ls Lx R)) (fun _ _ _=>False)) assign ((p,τ x)::E) (⟨some l,.is (.loop rec)⟩::⟨some D,.fR⟩::Ls s g))
 (sZ:∀ cD,k (.inl cD) pQ→ ∀ g D,ad { c with ds:=D::c.ds } Q .normal E (⟨some D,.fR⟩::Ls cD g))
 (Fa:∀ q,k (.inr q) pQ→ ∀ g D,ag { c with ds:=D::c.ds } Q (js q) E (⟨some D,.fR⟩::Lx q g)):
 ag c Q (.rangeFunc (.tmp gt) #[p] assign body) E L:=fun a W st=>by
 subst al
 refine wpIn_rangeFunc fun fn vY=>?_
 show ∃ l mark zA d afR CU args ahW,(Instr.enterLoop fn a.tmps #[p] assign body c.rd).run c.P W=_∧_
 rw [ai]
 obtain⟨rec,mx⟩:∃ rec:Loop,rec= { state:= .ready,pending:=none,fn,tmps:=a.tmps,params:= #[p],assign,body,defers:=W.heap.size } :=⟨_,rfl⟩
 obtain⟨v,Gh,fI,zQ,aiN⟩:=st.env gt _ bO
 obtain⟨iF,Gi⟩:∃ iF,(W.alloc (.deferred (some []))).alloc (.loop rec)=iF:=⟨_,rfl⟩
 have s1:=(st.alloc (o:= .deferred (some [])) (cp:= .fR) rfl).alloc (o:= .loop rec) (cp:= .is (.loop rec)) rfl
 rw [Gi,World.size_alloc] at s1
 obtain⟨D,mZ⟩:∃ D,D=W.heap.size:=⟨_,rfl⟩
 obtain⟨l,ao⟩:∃ l,l=W.heap.size+1:=⟨_,rfl⟩
 have Gj:=run_enterLoop_outer (P:=c.P) (w:=W) fn a.tmps #[p] assign body
 rw [← mx,Gi,← ao,← mZ] at Gj
 rw [← ao,← mZ] at s1
 obtain⟨nA,tp⟩:∃ nA:σ→γ→List aR,nA=fun s g=>⟨some l,.is (.loop rec)⟩::⟨some D,.fR⟩::Ls s g:=⟨_,rfl⟩
 obtain⟨qt,Gk⟩:∃ qt:ε→γ→List aR,qt=fun q g=>⟨some l,.is (.loop { rec with state:= .done,pending:=some (js q) })⟩::⟨some D,.fR⟩::Lx q g:=⟨_,rfl⟩
 have s2:bN c E (nA cT g0) a iF:=by rw [tp];exact s1
 have OU:hB (aT (nA cT g0)++c.cc) iF q6 fI:=by
  have h1:(I.kc f q6).holds (aT (nA cT g0)++c.cc) iF v:=by
   obtain⟨GS,h1,ae⟩:=s2.env gt _ bO;rw [Gh] at h1;cases h1;exact ae
  obtain⟨OV,av,aX⟩:=h1;rw [zQ] at av;have:OV=fI:=by injection av with _ _ av;injection av with av;exact av.symm
  rw [← this];exact aX
 have Gl:bN c E ((nA cT g0)++[]) a iF:=by rw [List.append_nil];exact s2
 have Fb:=Gl.JO
 simp only [aT,List.nil_append] at Fb
 have Oh:JP c.P (.func (.yield l) #[] #[]) τ nA qt step (fun dd W'=>Ext (aT (nA cT g0)++c.cc) iF dd W'):=by
  refine⟨l,rfl,fun x s KC hs g A qJ v2 iN hle bm=>?_⟩;have FJ:=hle;rw [tp] at FJ;obtain⟨o,cF,fp⟩:=FJ.ok ⟨some l,.is (.loop rec)⟩ (by simp);have s9:o= .loop rec:=fp;subst s9;have a1:=run_yield (P:=c.P) (args:= #[v2]) cF (by rw [mx];rfl);refine⟨_,_,_,_,a1,roundIn_of_wpIn trivial ?_⟩;have av:rec.assign=assign:=by rw [mx]
  have aX:rec.body=body:=by rw [mx]
  have c0:rec.params= #[p]:=by rw [mx]
  have gb:rec.tmps=a.tmps:=by rw [mx]
  rw [av,aX,c0,gb];refine Ig (n:=9) rfl ?_;have NK:((#[p]:Array Tmp).zip #[v2]).foldl (fun tmps (t,a)=>tmps.setIfInBounds t a) a.tmps=a.tmps.setIfInBounds p v2:=by simp
  rw [NK];subst tp Gk;refine wpIn_mono ((tS x s KC hs g qJ (aT (⟨some l,.is (.loop rec)⟩::⟨some D,.fR⟩::Ls s g)) A l D rec (by rw [mx])) { tmps:=a.tmps.setIfInBounds p v2,defers:= [] } qJ ?_) ?_
  ·have kH:p<c.n:=by simpa using hp
   exact
   {defers:=rfl
    size:=by simp [s2.size]
    env:=fun t vQ ft=>by
     simp only [look] at ft;by_cases e:Nat.beq p t=true
     ·rw [e] at ft;simp only [cond_true,Option.some.injEq] at ft;subst ft;have:=fm.1 e;subst this;exact⟨v2,by simp [s2.size,kH],bm⟩
     simp only [Bool.not_eq_true] at e;rw [e] at ft;simp only [cond_false] at ft;obtain⟨u,h1,ae⟩:=s2.env t vQ ft;have dC:p≠t:=fun h=>by rw [fm.2 h] at e;cases e
     exact⟨u,by rw [Array.getElem?_setIfInBounds_ne dC];exact h1,vQ.mono iN ae⟩
    eh:= .refl _ _
    own:=hle.ok
    nodup:=hle.nodup
    lt:=hle.lt
    hf:=fun k hk _=>hk
    fB:=hle.fB }
  intro e a3 ake hq;cases e with
  | normal=>
    obtain⟨PN,OW,hb⟩:=hq
    refine⟨PN,OW,Ig (n:=9) rfl (wpIn_mono hb ?_)⟩
    intro e a5 GU Ka
    have fin:∀ (jump:Option Code) {Lr:List aR},bN ⟨c.P,c.n,qJ,aT (⟨some l,.is (.loop rec)⟩::⟨some D,.fR⟩::Ls s g),A,some l,[]⟩ [] (⟨some l,.is (.loop { rec with state:= .busy })⟩::⟨some D,.fR⟩::Lr) a5 GU→
     ∃ ru,(Instr.endRound l jump).run c.P GU= .ok (.bool jump.isNone) ru∧bN ⟨c.P,c.n,qJ,aT (⟨some l,.is (.loop rec)⟩::⟨some D,.fR⟩::Ls s g),A,some l,[]⟩ [] (⟨some l,.is (.loop { rec with state:=if jump.isNone then .ready else .done,pending:=jump })⟩::⟨some D,.fR⟩::Lr) a5 ru:=fun jump Lr jD=>by
     obtain⟨o,h1,ae⟩:=jD.own ⟨some l,.is (.loop { rec with state:= .busy })⟩ (by simp)
     have mA:o= .loop { rec with state:= .busy } :=ae
     subst mA
     exact⟨_,run_endRound jump h1,jD.s8 (i:=0) rfl rfl⟩
    rcases Ka with⟨cD,j2,rfl,eG,jD⟩ | ⟨q,j2,aF,rfl,eG,jD⟩
    ·obtain⟨ru,bs,kx⟩:=fin none jD
     refine⟨_,ru,bs,.inl ⟨cD,j2,?_⟩⟩
     have OX:({ rec with state:=if (none:Option Code).isNone then .ready else .done,pending:=none } :Loop)=rec:=by rw [mx];rfl
     rw [OX] at kx
     exact kx.ends (ρ:=fun _:γ=>I.of true) (Lo:=fun g=>⟨some l,.is (.loop rec)⟩::⟨some D,.fR⟩::Ls cD g) eG (List.Sublist.refl _) (of_bool.2 rfl)
    obtain⟨ru,bs,kx⟩:=fin (some (js q)) jD
    have key:ma (aT (⟨some l,.is (.loop rec)⟩::⟨some D,.fR⟩::Ls s g)) A qJ (fun _:γ=>I.of false) (fun g=>⟨some l,.is (.loop { rec with state:= .done,pending:=some (js q) })⟩::⟨some D,.fR⟩::Lx q g) (.returned (.bool false)) ru:=
     kx.ends (ρ:=fun _:γ=>I.of false) (Lo:=fun g=>⟨some l,.is (.loop { rec with state:= .done,pending:=some (js q) })⟩::⟨some D,.fR⟩::Lx q g) eG (List.Sublist.refl _) (of_bool.2 rfl)
    exact QK aF bs (.inr ⟨q,j2,key⟩)
  | exit id=>exact hq.elim
  | goto t=>exact hq.elim
  | ret=>exact hq.elim
  | panic l3=>exact hq.elim
  | outgrown=>exact hq.elim
 have zi:=nC.go nA qt hq (fun s g=>⟨some l,.is (.loop rec)⟩::⟨some D,.fR⟩::l2 s g) (fun s g=>by rw [tp];simp only [pF,List.cons_append]) step cT g0 (fun r=>k r pQ) aI c.cc iF (.func (.yield l) #[] #[]) fI Fb OU Oh
 have ny:a.eval (.tmp gt)= .func (.func f) #[] fI.toArray:=by simp [Act.eval,Gh,zQ]
 refine⟨l,[JL D],iF,{ target:= .fn (.func f) fI.toArray,args:= #[.func (.yield l) #[] #[]] },iF,f,#[.func (.yield l) #[] #[]]++fI.toArray,iF,Gj,?_,fun _ _=>trivial,?_,fun h=>by simp at h,?_⟩
 ·simp only [resolve,ny]
  simp [go_sem]
 ·simp [invoke,go_sem,eB.run]
 refine CallsIn.Mm ?_
 have NL:(#[.func (.yield l) #[] #[]]++fI.toArray:Array Value)=(.func (.yield l) #[] #[]::fI).toArray:=by simp
 rw [NL]
 refine zi.mono fun e PO ⟨akf,⟨⟨r,Ww⟩,eG⟩,he,aY,aA,aV,bc,bs⟩=>?_
 subst he
 have rv:=Gl.after aY aA (by simpa [aT] using aV) (by simpa [aT] using bc)
 rw [List.append_nil] at rv
 cases r with
 | inl cD=>
   simp only [Lr] at rv
   subst tp
   obtain⟨o,cF,fp⟩:=rv.own ⟨some l,.is (.loop rec)⟩ (by simp)
   have s9:o= .loop rec:=fp
   subst s9
   have o4:=run_endLoop (P:=c.P) cF (by rw [mx];simp)
   have kH:rec.pending=none:=by rw [mx]
   rw [kH] at o4
   refine⟨none,_,o4,?_⟩
   have wx:=(rv.s8 (i:=0) (cp':= .is (.loop { rec with state:= .exhausted })) (o':= .loop { rec with state:= .exhausted }) rfl rfl).r3 1
   rw [kH] at wx
   exact sZ cD Ww eG D _ _ (wx.mark D)
 | inr q=>
   simp only [Lr] at rv
   subst Gk
   obtain⟨o,cF,fp⟩:=rv.own ⟨some l,.is (.loop { rec with state:= .done,pending:=some (js q) })⟩ (by simp)
   have s9:o= .loop { rec with state:= .done,pending:=some (js q) } :=fp
   subst s9
   have o4:=run_endLoop (P:=c.P) cF (by simp)
   refine⟨some (js q),_,o4,?_⟩
   have wx:=(rv.s8 (i:=0) (cp':= .is (.loop { rec with state:= .exhausted,pending:=some (js q) })) (o':= .loop { rec with state:= .exhausted,pending:=some (js q) }) rfl rfl).r3 1
   exact Fa q Ww eG D _ _ (wx.mark D)
end
def ak.any (α:Type):ak α:=fun Q=> ∀ x,Q x
theorem ak.any_bind {α β:Type}{k:α→ak β}{R:β→Prop}(h:ak.bind (ak.any α) k R)(x:α):k x R:=h x
theorem hB.append {A:List Nat}{W:World} :∀ {τs σs:List I} {vs us:List Value},hB A W τs vs→hB A W σs us→hB A W (τs++σs) (vs++us)
 | _,_,_,_,.nil,h=>h
 | _,_,_,_,.cons h r,ae=>.cons h (r.append ae)
section
variable {c:dy} {E:List (Nat×I)} {L:List aR} {ops:Array Oper} {Q:Exit→Act→World→Prop}
variable {d:Option Tmp} {ty:TypeId} {pos:String} {af:Array Edge} {g:Option (Nat×Bool)} {x y:Operand} {t t2:TypeId}
def e2 (c:dy)(E:List (Nat×I))(L:List aR)(o:Oper){δ:Type}(ρ:δ→I)(L':δ→List aR):Prop:=
 ∀ a W,bN c E L a W→hK c.P o a W fun v W'=> ∃ q,bN c E (L' q) a W'∧ (ρ q).holds (aT (L' q)++c.cc) W' v
theorem ab.rr {o:Oper}{rest:List Oper}{bg:Nat}{δ:Type}{ρ:δ→I}{L':δ→List aR}(h:e2 c E L o ρ L')(bO:o.guard=none)(hd:o.dst=some bg)(aQ:Nat.blt bg c.n=true)
 (k:∀ q,ab c ops Q rest ((bg,ρ q)::E) (L' q)):ab c ops Q (o::rest) E L:=fun a W s=>
 jl bO (h a W s) fun v W' ⟨q,f,bm⟩=>by
  rw [hd];exact k q _ _ (f.put (by simpa using aQ) bm)
theorem ab.W7 {o:Oper}{rest:List Oper}{bg j gs:Nat}{b want:Bool}{δ β:Type}{σ:β→I}{L2:β→List aR}{K:β→Prop}{val:δ→β}{ρ:δ→I}{L':δ→List aR}(bO:o.guard=some (j,want))(aF:(ops[j]?).bind (·.dst)=some gs)
 (ao:look E gs=some (.of b)) (hd:o.dst=some bg) (aQ:Nat.blt bg c.n=true) (h:b=want→e2 c E L o ρ L')
 (h1:b=want→ ∀ q,K (val q)∧ρ q=σ (val q)∧L' q=L2 (val q)) (ae: ¬ b=want→ ∃ y,K y∧L=L2 y)
 (k:∀ y,K y→ab c ops Q rest ((bg,.cond (b=want) (σ y))::E) (L2 y)):ab c ops Q (o::rest) E L:=fun a W s=>by
 have a1:=H7 aF ao s
 unfold dy.ti wpListIn
 by_cases hb:b=want
 ·rw [if_pos (by simp [Region.wanted,bO,a1,hb])]
  refine((h hb a W s).wpIn fun v W' ⟨q,f,bm⟩=>?_)
  obtain⟨av,aX,c0⟩:=h1 hb q
  rw [aX] at bm
  rw [c0] at f bm
  rw [hd]
  exact k _ av _ _ (f.put (by simpa using aQ) ⟨fun _=>bm,fun h=>absurd hb h⟩)
 rw [if_neg (by simp [Region.wanted,bO,a1,hb])]
 rw [hd]
 obtain⟨y,av,aX⟩:=ae hb
 rw [aX] at s
 exact⟨fun _ _=>trivial,k y av _ _ (s.put (by simpa using aQ) ⟨fun h=>absurd h hb,fun _=>rfl⟩)⟩
theorem e2.perm {il:List aR}{o:Oper}{δ:Type}{ρ:δ→I}{L' L2:δ→List aR}(p:L.Perm il)(Af:∀ q,(L' q).Perm (L2 q))(h:e2 c E il o ρ L'):e2 c E L o ρ L2:=fun a W s=>by
 have:=h a W (s.perm p);unfold hK at this ⊢;exact Oper.wp_mono (fun hx W' ⟨v,h1,q,ae,aA⟩=>⟨v,h1,q,ae.perm (Af q),(ρ q).mono (oT (Af q)) aA⟩) this
theorem e2.to {o:Oper}{δ:Type}{ρ:δ→I}{L' L2:δ→List aR}(e:∀ q,L' q=L2 q)(h:e2 c E L o ρ L'):e2 c E L o ρ L2:=by
 have:L'=L2:=funext e;subst this;exact h
theorem e2.map {o:Oper}{δ zS:Type}{ρ:δ→I}{L':δ→List aR}{xX:zS→I}{L2:zS→List aR}(F:δ→zS)(aI:∀ d,xX (F d)=ρ d)(ao:∀ d,L2 (F d)=L' d)(h:e2 c E L o ρ L'):e2 c E L o xX L2:=fun a W s=>by
 have:=h a W s;unfold hK at this ⊢;exact Oper.wp_mono (fun hx W' ⟨v,h1,q,ae,aA⟩=>⟨v,h1,F q,by rw [ao];exact ae,by rw [ao,aI];exact aA⟩) this
theorem e2.iS {α:Type}[aj α]{o:Oper}{i s cap T:Nat}{key:Option Nat}{xs:List α}{δ:Type}{ρ:δ→I}{L':δ→List aR}(ao:look E s=some (.eq (aS key xs.length cap)))(al:L[i]? =some ⟨key,.row T xs cap⟩)
 (h:e2 c ((s,.of xs)::E) (L.set i ⟨none,.dead⟩) o ρ L'):e2 c E L o ρ L':=fun a W st=>by
 have h1:=h a W (st.freeze ao al)
 unfold hK at h1 ⊢
 refine Oper.wp_mono (fun hx W' ⟨v,ae,q,cD,aA⟩=>⟨v,ae,q,{ cD with env:=fun t τ ft=>?_ },aA⟩) h1
 by_cases e:Nat.beq s t=true
 ·have:=fm.1 e
  subst this
  rw [ao] at ft
  cases ft
  obtain⟨v,aV,bc⟩:=st.env s _ ao
  exact⟨v,aV,bc⟩
 refine cD.env t τ ?_
 simp only [look]
 rw [Bool.not_eq_true] at e
 rw [e]
 exact ft
theorem e2.aI {o:Oper}{τ:I}(h:b6 c E L o τ):e2 c E L o (fun _:Unit=>τ) (fun _=>L):=fun a W s=>by
 have h1:=h a W s;unfold hK at h1 ⊢;exact Oper.wp_mono (fun hx W' ⟨v,ae,f,aA⟩=>⟨v,ae,(),s.world f,aA⟩) h1
theorem e2.ahY {o:Oper}{δ:Type}{τ:I}(h:e2 c E L o (fun _:δ=>τ) (fun _=>L)):eW c E L o τ:=fun a W s=>by
 have:=h a W s;unfold hK at this ⊢;exact Oper.wp_mono (fun hx W' ⟨v,h1,q,ae,aA⟩=>⟨v,h1,ae,aA⟩) this
theorem e2.call {o:Oper}{f:FuncId}{ik:Act→List Value}{τs:List I}{Lin Lr:List aR}{δ:Type}{ρ:δ→I}{Lo:δ→List aR}(h:bt c.P f τs Lin ρ Lo)
 (ai:∀ a W,bN c E (Lin++Lr) a W→ (execOp a.eval o).run c.P W= .ok (.enter f (ik a).toArray) W∧hB (aT (Lin++Lr)++c.cc) W τs (ik a)):e2 c E (Lin++Lr) o ρ (fun q=>Lo q++Lr):=fun a W s=>by
 obtain⟨ka,ar⟩:=ai a W s
 have mR:=s.nodup
 rw [fG] at mR
 obtain⟨oG,qs,rb⟩:=List.nodup_append.1 mR
 have lT:Ext (aT (Lin++Lr)++c.cc) W (aT Lin++(aT Lr++c.cc)) W:=BD
 have fT:∀ k∈aT Lr++c.cc,k<W.heap.size∧k ∉ aT Lin:=fun k hm=>by
  rcases List.mem_append.1 hm with hm | hm
  ·exact⟨s.lt k (by rw [fG];exact List.mem_append.2 (.inr hm)),fun h=>rb k h k hm rfl⟩
  obtain⟨h1,ae⟩:=s.fB k hm;exact⟨h1,fun h=>ae (by rw [fG];exact List.mem_append.2 (.inl h))⟩
 have cH:∀ k∈aT Lin,k<W.heap.size:=fun k hm=>s.lt k (by rw [fG];exact List.mem_append.2 (.inl hm))
 refine .wX (f:=f) (args:=(ik a).toArray) (W':=W) ka ?_
 refine(h (aT Lr++c.cc) W (ik a) fT oG cH (fun e he=>aR.uY (s.own e (List.mem_append.2 (.inl he))) lT fun _ _=>rfl) (ar.mono lT)).mono fun e W' ⟨v,bg,he,aY,h1,ae,aA,aV⟩=>?_
 exact⟨v,he,bg,s.after aY h1 ae aA,(ρ bg).mono Ip aV⟩
theorem e2.U4 {o:Oper}{b0:Type}[eY b0]{hp:aC b0}{Lin Lr:List aR}{δ:Type}{ρ:δ→I}{Lo:δ→List aR}{hq:δ→aC b0}(n m:Nat)(al:L.drop n=aH hp)(h1:(L.take n).take m=Lin)(ae:(L.take n).drop m=Lr)
 (h:e2 c E ((Lin++aH hp)++Lr) o ρ (fun q=>(Lo q++aH (hq q))++Lr)):e2 c E L o ρ (fun q=>(Lo q++Lr)++aH (hq q)):=by
 have e:L=(Lin++Lr)++aH hp:=by rw [← h1,← ae,List.take_append_drop,← al,List.take_append_drop]
 clear al h1 ae
 subst e
 exact h.perm nK fun q=>nK
theorem e2.eS {f:FuncId}{xs:List Operand}{ats:Array TypeId}{b0:Type}[eY b0]{hp:aC b0}{τs:List I}{Lin Lr:List aR}{δ:Type}{ρ:δ→I}{Lo:δ→List aR}{hq:δ→aC b0}(n m:Nat)(al:L.drop n=aH hp)(eB:bF c.P f)(h:bt c.P f τs (Lin++aH hp) ρ (fun d=>Lo d++aH (hq d)))
 (h1:(L.take n).take m=Lin) (ae:(L.take n).drop m=Lr) (ar:jf c E L xs τs):e2 c E L ⟨d,.call ⟨.value (.func f),xs.toArray,ats⟩,ty,pos,af,g⟩ ρ (fun q=>(Lo q++Lr)++aH (hq q)):=by
 have e:L=(Lin++Lr)++aH hp:=by rw [← h1,← ae,List.take_append_drop,← al,List.take_append_drop]
 refine e2.U4 n m al h1 ae (e2.call (ik:=fun a=>xs.map a.eval) h fun a W s=>⟨by simp [execOp,resolve,Deferred.ofValue,Act.eval,invoke,eB.run],?_⟩)
 subst e
 exact(ar.holds a W (s.perm nK.symm)).mono (oT nK)
theorem e2.mq {f:FuncId}{xs:List Operand}{ats:Array TypeId}{τs:List I}{Lin Lr:List aR}{δ:Type}{ρ:δ→I}{Lo:δ→List aR}(m:Nat)(eB:bF c.P f)(h:bt c.P f τs Lin ρ Lo)
 (h1:L.take m=Lin) (ae:L.drop m=Lr) (ar:jf c E L xs τs):e2 c E L ⟨d,.call ⟨.value (.func f),xs.toArray,ats⟩,ty,pos,af,g⟩ ρ (fun q=>Lo q++Lr):=by
 have e:L=Lin++Lr:=by rw [← h1,← ae,List.take_append_drop]
 clear h1 ae
 subst e
 exact e2.call (ik:=fun a=>xs.map a.eval) h fun a W s=>⟨by simp [execOp,resolve,Deferred.ofValue,Act.eval,invoke,eB.run],ar.holds a W s⟩
theorem bn.acA {qG:Operand}{f:FuncId}{ta τs:List I}{xs:List Operand}{ats:Array TypeId}(eB:bF c.P f)(aY:bn c E L qG (.kc f ta))(ar:jf c E L xs τs){a:Act}{W:World}(s:bN c E L a W):
 ∃ fI:List Value,(execOp a.eval ⟨d,.call ⟨.value qG,xs.toArray,ats⟩,ty,pos,af,g⟩).run c.P W= .ok (.enter f (xs.map a.eval++fI).toArray) W∧hB (aT L++c.cc) W (τs++ta) (xs.map a.eval++fI):=by
 obtain⟨fI,h1,ae⟩:=aY a W s
 exact⟨fI,by simp [execOp,resolve,Deferred.ofValue,h1,invoke,eB.run],(ar.holds a W s).append ae⟩
theorem e2.kc {qG:Operand}{f:FuncId}{ta τs:List I}{xs:List Operand}{ats:Array TypeId}{Lin Lr:List aR}{δ:Type}{ρ:δ→I}{Lo:δ→List aR}(m:Nat)(eB:bF c.P f)(aY:bn c E L qG (.kc f ta))(h:bt c.P f (τs++ta) Lin ρ Lo)
 (h1:L.take m=Lin) (ae:L.drop m=Lr) (ar:jf c E L xs τs):e2 c E L ⟨d,.call ⟨.value qG,xs.toArray,ats⟩,ty,pos,af,g⟩ ρ (fun q=>Lo q++Lr):=by
 have e:L=Lin++Lr:=by rw [← h1,← ae,List.take_append_drop]
 clear h1 ae
 subst e
 intro a W s
 obtain⟨fI,aA,aV⟩:=bn.acA (d:=d) (ty:=ty) (pos:=pos) (af:=af) (g:=g) (ats:=ats) eB aY ar s
 have mR:=s.nodup
 rw [fG] at mR
 obtain⟨oG,qs,rb⟩:=List.nodup_append.1 mR
 have lT:Ext (aT (Lin++Lr)++c.cc) W (aT Lin++(aT Lr++c.cc)) W:=BD
 have fT:∀ k∈aT Lr++c.cc,k<W.heap.size∧k ∉ aT Lin:=fun k hm=>by
  rcases List.mem_append.1 hm with hm | hm
  ·exact⟨s.lt k (by rw [fG];exact List.mem_append.2 (.inr hm)),fun h=>rb k h k hm rfl⟩
  obtain⟨h1,ae⟩:=s.fB k hm;exact⟨h1,fun h=>ae (by rw [fG];exact List.mem_append.2 (.inl h))⟩
 have cH:∀ k∈aT Lin,k<W.heap.size:=fun k hm=>s.lt k (by rw [fG];exact List.mem_append.2 (.inl hm))
 refine .wX (f:=f) (W':=W) aA ?_
 refine(h (aT Lr++c.cc) W _ fT oG cH (fun e he=>aR.uY (s.own e (List.mem_append.2 (.inl he))) lT fun _ _=>rfl) (aV.mono lT)).mono fun e W' ⟨v,bg,he,aY,h1,ae,aA,aV⟩=>?_
 exact⟨v,he,bg,s.after aY h1 ae aA,(ρ bg).mono Ip aV⟩
theorem jf.perm {il:List aR}(p:L.Perm il):∀ {xs:List Operand} {τs:List I},jf c E L xs τs→jf c E il xs τs
 | [],[],h=>h
 | _::_,_::_,h=>⟨h.1.perm p,jf.perm p h.2⟩
 | [],_::_,h=>h.elim
 | _::_,[],h=>h.elim
theorem e2.ag3 {qG:Operand}{f:FuncId}{ta τs:List I}{xs:List Operand}{ats:Array TypeId}{b0:Type}[eY b0]{hp:aC b0}{Lin Lr:List aR}{δ:Type}{ρ:δ→I}{Lo:δ→List aR}{hq:δ→aC b0}(n m:Nat)(al:L.drop n=aH hp)(eB:bF c.P f)(aY:bn c E L qG (.kc f ta))(h:bt c.P f (τs++ta) (Lin++aH hp) ρ (fun d=>Lo d++aH (hq d)))
 (h1:(L.take n).take m=Lin) (ae:(L.take n).drop m=Lr) (ar:jf c E L xs τs):e2 c E L ⟨d,.call ⟨.value qG,xs.toArray,ats⟩,ty,pos,af,g⟩ ρ (fun q=>(Lo q++Lr)++aH (hq q)):=by
 have e:L=(Lin++Lr)++aH hp:=by rw [← h1,← ae,List.take_append_drop,← al,List.take_append_drop]
 refine e2.U4 n m al h1 ae ?_
 subst e
 refine e2.to (fun q=>rfl) (e2.kc (Lin++aH hp).length eB (aY.perm nK) h List.take_left List.drop_left (ar.perm nK))
theorem e2.obj {f:FuncId}{xs:List Operand}{ats:Array TypeId}{b0:Type}[eY b0]{hp:aC b0}{p:Nat}{k:b0}{τs:List I}{Lin:List aR}{δ:Type}{ρ:δ→I}{Lo:δ→List aR}(n:Nat)(k':δ→b0)(al:L.drop n=aH hp)(hp':pat hp p=some k)(eB:bF c.P f)(h:bt c.P f τs Lin ρ Lo)
 (hk:eY.gT p k=Lin) (ke:∀ q,eY.gT p (k' q)=Lo q) (ar:jf c E L xs τs):e2 c E L ⟨d,.call ⟨.value (.func f),xs.toArray,ats⟩,ty,pos,af,g⟩ ρ (fun q=>L.take n++aH (cQ hp p (k' q))):=by
 obtain⟨R,bk,bB⟩:=uL hp'
 have e:L=L.take n++aH hp:=by rw [← al,List.take_append_drop]
 have cS:∀ {M X:List aR},M.Perm (X++R)→ (L.take n++M).Perm (X++(R++L.take n)):=fun h=>List.perm_append_comm.trans ((h.append_right _).trans (by rw [List.append_assoc]))
 have O0:L.Perm (Lin++(R++L.take n)):=by
  conv=>lhs;rw [e]
  exact cS (by rw [← hk];exact bk)
 refine e2.perm O0 (fun q=>(cS (bB (k' q))).symm) ?_
 refine e2.to (fun q=>by rw [ke]) (e2.call (Lr:=R++L.take n) (ik:=fun a=>xs.map a.eval) h fun a W s=>⟨by simp [execOp,resolve,Deferred.ofValue,Act.eval,invoke,eB.run],?_⟩)
 exact(ar.holds a W (s.perm O0.symm)).mono (oT O0)
theorem eW.obj {f:FuncId}{xs:List Operand}{ats:Array TypeId}{b0:Type}[eY b0]{hp:aC b0}{p:Nat}{k:b0}{τs:List I}{Lin:List aR}{δ:Type}{τ:I}(n:Nat)(al:L.drop n=aH hp)(hp':pat hp p=some k)(eB:bF c.P f)(h:bt c.P f τs Lin (fun _:δ=>τ) (fun _=>Lin))
 (hk:eY.gT p k=Lin) (ar:jf c E L xs τs):eW c E L ⟨d,.call ⟨.value (.func f),xs.toArray,ats⟩,ty,pos,af,g⟩ τ:=by
 have e:L=L.take n++aH hp:=by rw [← al,List.take_append_drop]
 have xY:cQ hp p k=hp:=by
  clear e al h hk;induction hp with
  | nil=>rfl
  | cons z r cA=>
    obtain⟨q,akj⟩:=z
    simp only [pat] at hp'
    simp only [cQ]
    split at hp'
    ·rename_i e;simp only [Option.some.injEq] at hp';rw [if_pos e,hp']
    rename_i e;rw [if_neg e,cA hp']
 refine e2.ahY (e2.to (fun q=>?_) (e2.obj (d:=d) (ty:=ty) (pos:=pos) (af:=af) (g:=g) (ats:=ats) n (fun _=>k) al hp' eB h hk (fun _=>hk) ar))
 rw [xY,← e]
theorem ab.Uq {l:List Oper}{b0:Type}[eY b0]{hp:aC b0}{p:Nat}{Lin Lr:List aR}(n m:Nat)(mk:b0)(al:L.drop n=aH hp)(h1:(L.take n).take m=Lin)(ae:(L.take n).drop m=Lr)(hk:eY.gT p mk=Lin)(hm:p∈aT Lin)
 (k:∀ a:Nat×aC b0,a.1 ∉ hp.map (·.1)∧a.2=(a.1,mk)::hp→a.1=p→ab c ops Q l E (Lr++aH a.2)):ab c ops Q l E L:=fun a W s=>by
 have e:L=(Lin++Lr)++aH hp:=by rw [← h1,← ae,List.take_append_drop,← al,List.take_append_drop]
 have cS:L.Perm (Lr++aH ((p,mk)::hp)):=by
  rw [e,aH,hk,← List.append_assoc];exact List.perm_append_comm.append_right _
 refine k (p,(p,mk)::hp) ⟨fun Gs=>?_,rfl⟩ rfl _ _ (s.perm cS)
 have k9:=s.nodup
 rw [e,fG,fG] at k9
 exact(List.nodup_append.1 k9).2.2 p (List.mem_append.2 (.inl hm)) p (TG Gs) rfl
end
section
variable {c:dy} {E:List (Nat×I)} {L:List aR} {ops:Array Oper} {Q:Exit→Act→World→Prop}
theorem bY.q {hs:List eC}{i np:Nat}{o:Oper}{h:eC}(cB:bY c ops Q hs E L i o h):MX c ops Q hs E L np i o h:=fun hd E' L' h1 ae _=>cB hd E' L' h1 ae
structure EO (P:Program)(f:FuncId)(τs:List I){b0:Type}[eY b0](hp:aC b0){α:Type}(τ:α→I)(run:∀ {σ ε:Type},(α→σ→Option (σ ⊕ ε))→σ→Option (σ ⊕ ε)):Prop where
 go:∀ {σ ε γ:Type} (Ls:σ→γ→List aR) (Lx:ε→γ→List aR) (l2:σ→γ→List aR),(∀ s g,Ls s g=l2 s g++aH hp)→OT P f τs [] τ (run (σ:=σ) (ε:=ε)) Ls Lx
theorem EO.of {P:Program}{f:FuncId}{fn:Func}{code:Code}{n:Nat}{τs:List I}{b0:Type}[eY b0]{hp:aC b0}{α:Type}{τ:α→I}{run:∀ {σ ε:Type},(α→σ→Option (σ ⊕ ε))→σ→Option (σ ⊕ ε)}
 (aY:P.funcs[f]? =some fn) (hb:fn.body=some code) (aQ:fn.ntmps=n) (hlen:Nat.ble (τs.length+1) n=true)
 (h:∀ {σ ε γ:Type} (Ls:σ→γ→List aR) (Lx:ε→γ→List aR) (l2:σ→γ→List aR),(∀ s g,Ls s g=l2 s g++aH hp)→ ∀ (step:α→σ→Option (σ ⊕ ε)) (cT:σ) (g0:γ) (r:σ ⊕ ε),run step cT=some r→
  ∀ W A u,J9 P u τ Ls Lx step (fun dd W'=>Ext (aT (Ls cT g0)++A) W dd W')→
    ag ⟨P,n,W,aT (Ls cT g0),A,none,[]⟩ (bodyPost P fn (ma (aT (Ls cT g0)) A W (fun _:γ=>.c4 []) (fun g=>[]++Lr Ls Lx r g))) code (params 0 (.eq u::τs)) (Ls cT g0)):EO P f τs hp τ run:=by
 refine⟨?_⟩
 intro σ ε γ Ls Lx l2 pF step cT g0 r aI A W u vs ao bm a1
 refine calls_of_wp aY hb (wpIn_wide.1 (h Ls Lx l2 pF step cT g0 r aI W A u a1 _ _ ?_))
 have vX:hB (aT (Ls cT g0)++A) W (.eq u::τs) (u::vs):= .cons rfl bm
 have lW:=vX.length
 have hle:τs.length+1≤n:=Nat.le_of_ble_eq_true hlen
 exact
 {defers:=rfl
  size:=by simp at lW;simp [aQ,lW];omega
  env:=fun t τ ft=>by
   obtain⟨_,v,ae,aA⟩:=Bk vX 0 t τ ft;refine⟨v,?_,aA⟩;have cH:t<(u::vs).length:=(List.getElem?_eq_some_iff.1 ae).1;rw [Array.getElem?_append_left (by simpa using cH)];simpa using ae
  eh:= .refl _ _
  own:=ao.ok
  nodup:=ao.nodup
  lt:=ao.lt
  hf:=fun k hk _=>hk
  fB:=ao.fB }
theorem aev {b0:Type}[eY b0]{σ γ:Type}{Ls l2:σ→γ→List aR}{hp:aC b0}{s:σ}{g:γ}{p:Nat}{k:b0}{e:aR}(n:Nat)(al:L.drop n=Ls s g)(pF:∀ s g,Ls s g=l2 s g++aH hp)(h:pat hp p=some k)(hk:eY.gT p k= [e]):e∈L:=
 Un (hq:=fun _=>hp) n al pF h hk
theorem Rv {gt p:Nat}{assign body:Code}{f:FuncId}{q6:List I}{b0:Type}[eY b0]{hp:aC b0}{α σ ε γ:Type}{τ:α→I}{run:∀ {σ ε:Type},(α→σ→Option (σ ⊕ ε))→σ→Option (σ ⊕ ε)}
 {Ls:σ→γ→List aR} {Lx:ε→γ→List aR} {step:α→σ→Option (σ ⊕ ε)} {cT:σ} {g0:γ} {r:σ ⊕ ε} (l2:σ→γ→List aR) (js:ε→Code)
 (ai:c.rd=none) (eB:bF c.P f) (bO:look E gt=some (.kc f q6)) (nC:EO c.P f q6 hp τ run) (aI:run step cT=some r) (pF:∀ s g,Ls s g=l2 s g++aH hp) (al:L=Ls cT g0) (hp':Nat.blt p c.n=true)
 (tS:∀ x s r,step x s=some r→ ∀ g (qk:World) (qz ql:List Nat) (l D:Nat) (rec:Loop),rec.state= .ready→
  ag ⟨c.P,c.n,qk,qz,ql,some l,[]⟩ (Exit.then (KB ⟨c.P,c.n,qk,qz,ql,some l,[]⟩ l body (KA ⟨c.P,c.n,qk,qz,ql,some l,[]⟩ js l D { rec with state:= .busy } Ls Lx r)) (fun _ _ _=>False)) assign ((p,τ x)::E) (⟨some l,.is (.loop rec)⟩::⟨some D,.fR⟩::Ls s g))
 (sZ:∀ cD,r= .inl cD→ ∀ g D,ad { c with ds:=D::c.ds } Q .normal E (⟨some D,.fR⟩::Ls cD g))
 (Fa:∀ q,r= .inr q→ ∀ g D,ag { c with ds:=D::c.ds } Q (js q) E (⟨some D,.fR⟩::Lx q g)):
 ag c Q (.rangeFunc (.tmp gt) #[p] assign body) E L:=
 aaG (Lin:= []) (run:=run) js ai eB bO (fun av aX qt=>nC.go (fun s g=>av::aX::Ls s g) qt (fun s g=>av::aX::l2 s g) (fun s g=>by rw [pF];rfl)) aI al hp' tS sZ Fa
end
structure Raw where
 f:FuncId
 us:Option (List Value)
instance:Inhabited Raw:=⟨⟨0,none⟩⟩
def Raw.val:Raw→Value
 | ⟨f,some us⟩=>.func (.func f) #[] us.toArray
 | ⟨_,none⟩=>.nilFunc
instance:aj Raw where
 size:=1
 agg:=false
 rep _ _ cs x:=cs= [x.val]
 len h:=by rw [h];rfl
 one h:=by
  intro v bm;rw [h,List.mem_singleton] at bm;subst bm;rename_i x;obtain⟨f,us⟩:=x;cases us <;> rfl
 flat _:=rfl
 mono _ h:=h
instance:bf Raw:=⟨[.nilFunc],fun _ _=>rfl⟩
theorem TI {A W v}{x:Raw} :(I.of x).holds A W v↔v=x.val:=by
 constructor
 ·intro h;exact oR (by have:=h.1;exact this) h.2
 intro h;subst h;obtain⟨f,us⟩:=x;cases us <;> exact⟨rfl,rfl⟩
section
variable {c:dy} {E:List (Nat×I)} {L:List aR} {ops:Array Oper} {Q:Exit→Act→World→Prop}
variable {d:Option Tmp} {ty:TypeId} {pos:String} {af:Array Edge} {g:Option (Nat×Bool)} {x y:Operand} {t t2:TypeId}
theorem hB.eqs {A:List Nat}{W:World} :∀ {us vs:List Value},hB A W (us.map I.eq) vs→vs=us
 | [],_,.nil=>rfl
 | _::_,_,.cons h r=>by rw [r.eqs];congr 1
theorem hB.U5 {A:List Nat}{W:World} :∀ {us:List Value},hB A W (us.map I.eq) us
 | []=>.nil
 | _::_=>.cons rfl .U5
theorem aeX {f:FuncId}{xs:List Operand}{us:List Value}(ar:jf c E L xs (us.map I.eq)):b6 c E L ⟨d,.makeFunc (.func f) #[] xs.toArray,ty,pos,af,g⟩ (.of (⟨f,some us⟩:Raw)):= .pure fun a W s=>
 ⟨.func (.func f) #[] us.toArray,by
   have h:=(ar.holds a W s).eqs;simp [execOp,Instr.makeFunc,h],TI.2 rfl⟩
theorem abj {f:FuncId}{us:List Value}(ar:bn c E L x (.of (⟨f,some us⟩:Raw))):bn c E L x (.kc f (us.map I.eq)):=fun a W s=>
 ⟨us,TI.1 (ar a W s),.U5⟩
theorem ab.aj7 {o:Oper}{rest:List Oper}{bg j gs:Nat}{b want:Bool}{β γ xX:Type}{m:ak β}{z:β}{k:β→ak xX}{R:xX→Prop}(h:ak.bind (bif decide (b=want) then m else ak.ret z) k R)(σ:β→I)(L2:β→γ→List aR)(g0:γ)(al:L=L2 z g0)
 (bO:o.guard=some (j,want)) (aF:(ops[j]?).bind (·.dst)=some gs) (ao:look E gs=some (.of b)) (hd:o.dst=some bg) (aQ:Nat.blt bg c.n=true)
 (bP:b=want→m (fun r=>k r R)→e2 c E L o (fun q: {r // k r R}×γ=>σ q.1.1) (fun q=>L2 q.1.1 q.2))
 (na:∀ y g,k y R→ab c ops Q rest ((bg,.cond (b=want) (σ y))::E) (L2 y g)):ab c ops Q (o::rest) E L:=by
 by_cases hb:b=want
 ·have hm:m (fun r=>k r R):=by
   have dc:(bif decide (b=want) then m else ak.ret z) (fun r=>k r R):=h;rw [decide_eq_true hb] at dc;exact dc
  exact ab.W7 (β:=β×γ) (K:=fun y=>k y.1 R) (σ:=fun y=>σ y.1) (L2:=fun y=>L2 y.1 y.2) (val:=fun q=>(q.1.1,q.2)) bO aF ao hd aQ (fun _=>bP hb hm) (fun _ q=>⟨q.1.2,rfl,rfl⟩) (fun h=>absurd hb h) fun y a1=>na y.1 y.2 a1
 have hm:k z R:=by
  have dc:(bif decide (b=want) then m else ak.ret z) (fun r=>k r R):=h;rw [decide_eq_false hb] at dc;exact dc
 exact ab.W7 (δ:=Unit) (β:=β×γ) (K:=fun y=>k y.1 R) (σ:=fun y=>σ y.1) (L2:=fun y=>L2 y.1 y.2) (val:=fun _=>(z,g0)) (ρ:=fun _=>σ z) (L':=fun _=>L2 z g0) bO aF ao hd aQ (fun h=>absurd h hb) (fun h=>absurd h hb) (fun _=>⟨(z,g0),hm,al⟩) fun y a1=>na y.1 y.2 a1
end
section
variable {c:dy} {E:List (Nat×I)} {L:List aR} {ops:Array Oper} {Q:Exit→Act→World→Prop}
theorem ab.Ur {l:List Oper}{p q:Nat}(gH:Nat)(ao:look E gH=some (.eq (.pointer (some ⟨p,0,none⟩))))(he:q=p)(k:ab c ops Q l ((gH,.of (some q:Ref))::E) L):ab c ops Q l E L:=fun a W s=>by
 subst he;refine k a W (s.less fun t τ h=>?_);simp only [look] at h;by_cases e:Nat.beq gH t=true
 ·rw [e] at h;simp only [cond_true,Option.some.injEq] at h;have:=fm.1 e;subst this;subst h;exact⟨_,ao,fun A W v bm=>xg.2 bm⟩
 simp only [Bool.not_eq_true] at e;rw [e] at h;exact⟨τ,h,fun _ _ _ h=>h⟩
end
section
variable {c:dy} {E:List (Nat×I)} {L:List aR} {ops:Array Oper} {Q:Exit→Act→World→Prop}
def xu (ops:Array Oper)(n:Nat)(hs:List (Option Nat×List Nat×List Nat×List Nat))(E:List Nat):Bool:=
 decide (hs.length=n)&&decide (n≤ops.size)&&decide (hs.filterMap (·.1)).Nodup&&((List.range n).all fun m=>match hs[m]? with | some (some s,up,_)=> !E.contains s||(List.range n).all fun k=>decide (k=m)||up.contains k | _=>true)&&
 ((List.range n).all fun i=>match hs[i]? with
   | none=>false
   | some (_,up,rd,wr)=>
     (((ops[i]?).map fun o=>(o.dst==(hs[i]?).bind (·.1))&&o.after.all fun e=> !Region.binds .any e||decide (e.on<i)).getD false)&&
     (up.all fun k=>Region.waitsFor .any ops i k||(List.range i).any fun m=>Region.waitsFor .any ops i m&&((hs[m]?).map fun h=>h.2.1.contains k).getD false)&&
     ((List.range n).all fun k=>match hs[k]? with
       | none=>true
       | some (_,aiY,_,Wx)=>
         (!(decide (k<i)&&Wx.any rd.contains)||up.contains k)&&(!(decide (i<k)&&Wx.any fun j=>rd.contains j||wr.contains j)||aiY.contains i)))&&
 (decide (n=ops.size)||(Region.sinkB .any ops n&&Region.chainB .any ops n))&&
 Region.seqB .any ops (ops.size - n) n ((List.range n).foldl (fun l i=>l.setIfInBounds i true) (Array.replicate ops.size false))
theorem Z7 {n:Nat}{hs:List eC}{np:Nat}(hw:∀ h∈hs,∀ j∈h.wr,j<np∨L.length≤j)(jF:xu ops n (oJ hs) (E.map (·.1))=true)(cB:sN c ops Q hs E L np 0 (ops.toList.take n) hs)
 (bP:∀ hd,ab c ops Q (ops.toList.drop n) (jN (fun _=>true) hd E 0 hs) (jt (fun _=>true) hd 0 hs L)):
 ∀ m (bD:Array Bool) (hd:Nat→Hid) (a:Act) (W:World),((List.range n).filter fun i=> !bD.getD i true).length≤m→HeadInv .any ops n bD→
   bN c (jN (fun i=>bD.getD i false) hd E 0 hs) (jt (fun i=>bD.getD i false) hd 0 hs L) a W→wpAnyIn c.F 9 c.P .any ops Q (m+(ops.size - n)) bD a W:=by
 simp only [xu,Bool.and_eq_true,decide_eq_true_eq,Bool.or_eq_true] at jF
 obtain⟨⟨⟨⟨⟨⟨afU,aQ⟩,k9⟩,VV⟩,pA⟩,Fe⟩,zB⟩:=jF
 have hlen:hs.length=n:=by simpa [oJ] using afU
 have qh:∀ i,i<n→ ∃ h o,hs[i]? =some h∧ops[i]? =some o:=fun i au=>⟨hs[i]'(by omega),ops[i],by simp,by simp⟩
 have zj:∀ (i:Nat) (h:eC) (o:Oper),hs[i]? =some h→ops[i]? =some o→
  o.dst=h.slot∧ (∀ e∈o.after,Region.binds .any e=true→e.on<i)∧
  (∀ k∈h.up,Region.waitsFor .any ops i k=true∨ ∃ m,m<i∧Region.waitsFor .any ops i m=true∧ ∃ x,hs[m]? =some x∧k∈x.up)∧
  (∀ (k:Nat) (x:eC),hs[k]? =some x→ (k<i→ (∃ j∈x.wr,h.rd.contains j=true)→k∈h.up)∧ (i<k→ (∃ j∈x.wr,h.rd.contains j=true∨h.wr.contains j=true)→i∈x.up)):=by
  intro i h o au bp
  have cH:i<n:=by have:=(List.getElem?_eq_some_iff.1 au).1;omega
  have h1:=List.all_eq_true.1 pA i (List.mem_range.2 cH)
  rw [Mq au] at h1
  simp only [Bool.and_eq_true] at h1
  obtain⟨⟨ae,aA⟩,aV⟩:=h1
  simp only [bp,Option.map_some,Option.getD_some,Bool.and_eq_true,Option.bind_some,beq_iff_eq] at ae
  refine⟨ae.1,fun e he hb=>?_,fun k hk=>?_,fun k x ar=>?_⟩
  ·have:=Array.all_eq_true_iff_forall_mem.1 ae.2 e he
   simp [hb] at this
   exact this
  ·have:=List.all_eq_true.1 aA k hk
   simp only [Bool.or_eq_true,List.any_eq_true,Bool.and_eq_true,List.mem_range] at this
   rcases this with bc | ⟨m,bc,bs,df⟩
   ·exact .inl bc
   have hm:m<hs.length:=by omega
   rw [Mq (List.getElem?_eq_getElem hm)] at df
   exact .inr ⟨m,bc,bs,hs[m],List.getElem?_eq_getElem hm,by simpa using df⟩
  have O1:k<n:=by have:=(List.getElem?_eq_some_iff.1 ar).1;omega
  have:=List.all_eq_true.1 aV k (List.mem_range.2 O1)
  rw [Mq ar] at this
  simp only [Bool.and_eq_true,Bool.or_eq_true,Bool.not_eq_true',Bool.and_eq_false_iff,decide_eq_false_iff_not,List.contains_iff_mem] at this
  refine⟨fun o6 ⟨j,aF,aI⟩=>?_,fun vS ⟨j,aF,aI⟩=>?_⟩
  ·rcases this.1 with(bc | bc) | bc
   ·exact absurd o6 bc
   ·have:=List.any_eq_false.1 bc j aF
    exact absurd aI this
   exact bc
  rcases this.2 with(bc | bc) | bc
  ·exact absurd vS bc
  ·have:=List.any_eq_false.1 bc j aF
   simp only [Bool.or_eq_true] at this
   exact absurd aI this
  exact bc
 have NM:∀ (i j s:Nat) (x y:eC),hs[i]? =some x→hs[j]? =some y→x.slot=some s→y.slot=some s→i=j:=by
  have key:∀ (l:List eC),((oJ l).filterMap (·.1)).Nodup→ ∀ (i j s:Nat) (x y:eC),l[i]? =some x→l[j]? =some y→x.slot=some s→y.slot=some s→i=j:=by
   intro l;induction l with
   | nil=>intro _ i j s x y h;simp at h
   | cons z r cA=>
     intro k9 i j s x y au aF ar a1
     have aI:((oJ r).filterMap (·.1)).Nodup:=by
      cases cJ:z.slot with
      | none=>simpa [oJ,cJ] using k9
      | some w=>
        simp only [oJ,List.map_cons,List.filterMap_cons,cJ] at k9
        exact(List.nodup_cons.1 k9).2
     have FE:z.slot=some s→ ∀ (q:Nat) (v:eC),r[q]? =some v→v.slot≠some s:=fun cJ q v hq bm=>by
      simp only [oJ,List.map_cons,List.filterMap_cons,cJ] at k9;exact(List.nodup_cons.1 k9).1 (List.mem_filterMap.2 ⟨_,List.mem_map.2 ⟨v,List.mem_of_getElem? hq,rfl⟩,bm⟩)
     cases i with
     | zero=>
       simp only [List.getElem?_cons_zero,Option.some.injEq] at au
       subst au
       cases j with
       | zero=>rfl
       | succ j=>simp only [List.getElem?_cons_succ] at aF;exact absurd a1 (FE ar j y aF)
     | succ i=>
       simp only [List.getElem?_cons_succ] at au
       cases j with
       | zero=>
         simp only [List.getElem?_cons_zero,Option.some.injEq] at aF
         subst aF
         exact absurd ar (FE a1 i x au)
       | succ j=>simp only [List.getElem?_cons_succ] at aF;rw [cA aI i j s x y au aF ar a1]
  exact key hs k9
 have afV:∀ (t:Nat) (τ:I),look E t=some τ→ ∀ (m:Nat) (h:eC),hs[m]? =some h→h.slot=some t→ ∀ k,k<n→k≠m→k∈h.up:=by
  intro t τ ao m h hm j2 k hk Gt;have tg:m<n:=by have:=(List.getElem?_eq_some_iff.1 hm).1;omega
  have h1:=List.all_eq_true.1 VV m (List.mem_range.2 tg);rw [show(oJ hs)[m]? =some (h.slot,h.up,h.rd,h.wr) by simp [oJ,hm],j2] at h1;have Cl:t∈E.map (·.1):=by
   clear VV h1 cB bP hm j2;induction E with
   | nil=>simp [look] at ao
   | cons x r cA=>
     obtain⟨s,σ⟩:=x
     simp only [look] at ao
     by_cases e:Nat.beq s t=true
     ·have:=fm.1 e;subst this;simp
     simp only [Bool.not_eq_true] at e
     rw [e] at ao
     simp only [List.map_cons,List.mem_cons]
     exact .inr (cA ao)
  replace h1:(!(E.map (·.1)).contains t||(List.range n).all fun k=>decide (k=m)||h.up.contains k)=true:=h1;rw [show(E.map (·.1)).contains t=true by simpa using Cl] at h1;have ae:∀ x,x<n→x=m∨x∈h.up:=by simpa using h1
  exact(ae k hk).resolve_left Gt
 have xZ:∀ (bD:Array Bool),HeadInv .any ops n bD→ ∀ (d i:Nat),i≤d→ ∀ (h:eC) (o:Oper),hs[i]? =some h→ops[i]? =some o→ (∀ e∈o.after,Region.binds .any e=true→bD.getD e.on false=true)→ ∀ k∈h.up,bD.getD k false=true:=by
  intro bD inv d;induction d with
  | zero=>
    intro i au h o gW CH hw k hk
    rcases (zj i h o gW CH).2.2.1 k hk with h1 | ⟨m,hm,_⟩
    ·obtain⟨x9,qv,e,he,hb,zT⟩:=Region.waitsFor_spec h1
     rw [CH] at qv;cases qv
     rw [← zT];exact hw e he hb
    omega
  | succ d cA=>
    intro i au h o gW CH hw k hk
    rcases (zj i h o gW CH).2.2.1 k hk with h1 | ⟨m,hm,h1,x,ar,aiZ⟩
    ·obtain⟨x9,qv,e,he,hb,zT⟩:=Region.waitsFor_spec h1
     rw [CH] at qv;cases qv
     rw [← zT];exact hw e he hb
    obtain⟨x9,qv,e,he,hb,zT⟩:=Region.waitsFor_spec h1
    rw [CH] at qv;cases qv
    have tg:=hw e he hb
    rw [zT] at tg
    obtain⟨aW,GX,qw,Gu⟩:=qh m (by have:=(List.getElem?_eq_some_iff.1 gW).1;omega)
    exact cA m (by omega) x GX ar Gu (fun e he hb=>inv.closed m GX Gu tg e he hb) k aiZ
 have sZ:∀ (bD:Array Bool) (hd:Nat→Hid) (a:Act) (W:World),(∀ i,i<n→bD.getD i true=true)→HeadInv .any ops n bD→
  bN c (jN (fun i=>bD.getD i false) hd E 0 hs) (jt (fun i=>bD.getD i false) hd 0 hs L) a W→wpAnyIn c.F 9 c.P .any ops Q (ops.size - n) bD a W:=by
  intro bD hd a W xv inv st
  have ao:=Q9 inv aQ xv
  rw [← ao] at zB
  have Jw:(ops.toList.drop n).length=ops.size - n:=by simp
  rw [← Jw]
  rw [← Jw] at zB
  refine HR (ops.toList.drop n) n bD a W (fun j=>by simp) zB (bP hd a W ?_)
  have CI:∀ m,m<hs.length→bD.getD (0+m) false=true:=fun m hm=>by
   have h1:=xv m (by omega);have ae:m<bD.size:=by rw [inv.size];omega
   simpa [ae] using h1
  rw [Rf (ls':=fun _=>true) CI,R1 (ls':=fun _=>true) CI] at st
  exact st
 have more:∀ f (bD:Array Bool) a W,wpAnyIn c.F 9 c.P .any ops Q f bD a W→wpAnyIn c.F 9 c.P .any ops Q (f+1) bD a W:=by
  intro f;induction f with
  | zero=>intro bD a W h;exact⟨fun _=>h.2,fun i au=>by rw [h.1] at au;cases au⟩
  | succ f O2=>intro bD a W h;exact⟨h.1,fun i au=>wpOpIn_mono (fun hx qB dc=>O2 _ hx qB dc) (h.2 i au)⟩
 intro m
 induction m with
 | zero=>
   intro bD hd a W hm inv st
   rw [Nat.zero_add]
   refine sZ bD hd a W (fun i au=>?_) inv st
   cases h:bD.getD i true with
   | true=>rfl
   | false=>
     have:i∈ (List.range n).filter fun i=> !bD.getD i true:=List.mem_filter.2 ⟨List.mem_range.2 au,by rw [h];rfl⟩
     rw [List.length_eq_zero_iff.1 (Nat.le_zero.1 hm)] at this
     cases this
 | succ m cA=>
   intro bD hd a W hm inv st
   rw [show m+1+(ops.size - n)=(m+(ops.size - n))+1 by omega]
   by_cases Ff:∀ i,i<n→bD.getD i true=true
   ·have h1:=sZ bD hd a W Ff inv st
    have key:∀ k,wpAnyIn c.F 9 c.P .any ops Q (k+(ops.size - n)) bD a W:=by
     intro k;induction k with
     | zero=>rw [Nat.zero_add];exact h1
     | succ k O3=>rw [show k+1+(ops.size - n)=(k+(ops.size - n))+1 by omega];exact more _ _ _ _ O3
    exact more _ _ _ _ (key m)
   have hex:∃ i,i<n∧bD.getD i true=false:=by
    false_or_by_contra;rename_i ae;exact Ff fun i au=>by
     cases h:bD.getD i true with
     | true=>rfl
     | false=>exact absurd ⟨i,au,h⟩ ae
   have MZ:∀ t∈Region.ready .any ops bD,t<n:=by
    intro t zO;rcases Nat.lt_or_ge t n with h | h
    ·exact h
    obtain⟨i,au,nz⟩:=hex;have akP:n<ops.size∨n=ops.size:=by omega
    have ahZ:t<ops.size:=by
     obtain⟨_,o,bp,_⟩:=mem_ready.1 zO;exact(Array.getElem?_eq_some_iff.1 bp).1
    rcases Fe with h1 | h1
    ·omega
    exact absurd zO (tail_waits h1.1 h1.2 (by omega) inv _ i rfl au nz t h)
   refine⟨fun bH=>?_,fun i au=>?_⟩
   ·exfalso
    have key:∀ d i,i≤d→i<n→bD.getD i true=true:=by
     intro d;induction d with
     | zero=>
       intro i Gw au
       cases ao:bD.getD i true with
       | true=>rfl
       | false=>
         obtain⟨h,o,gW,bp⟩:=qh i au
         have:i∈Region.ready .any ops bD:=mem_ready.2 ⟨ao,o,bp,fun e he hb=>by have:=(zj i h o gW bp).2.1 e he hb;omega⟩
         rw [bH] at this;cases this
     | succ d O4=>
       intro i Gw au
       cases ao:bD.getD i true with
       | true=>rfl
       | false=>
         obtain⟨h,o,gW,bp⟩:=qh i au
         have:i∈Region.ready .any ops bD:=mem_ready.2 ⟨ao,o,bp,fun e he hb=>by
          have h1:=(zj i h o gW bp).2.1 e he hb;have ae:=O4 e.on (by omega) (by omega);have aA:e.on<bD.size:=by rw [inv.size];omega
          simpa [aA] using ae⟩
         rw [bH] at this;cases this
    obtain⟨i,au,nz⟩:=hex
    have:=key i i (Nat.le_refl _) au
    rw [nz] at this;cases this
   have gu:i<n:=MZ i au
   obtain⟨nz,o,bp,EF⟩:=mem_ready.1 au
   obtain⟨h,_,gW,_⟩:=qh i gu
   have zC:bD.getD i false=false:=getD_both nz
   have Cn:i<bD.size:=by rw [inv.size];omega
   have Oi:((List.range n).filter fun j=> !(bD.setIfInBounds i true).getD j true).length≤m:=by
    have:((List.range n).filter fun j=> !(bD.setIfInBounds i true).getD j true).length<((List.range n).filter fun j=> !bD.getD j true).length:=by
     refine TE (fun j=> !bD.getD j true) (fun j=> !(bD.setIfInBounds i true).getD j true) i (by simp only [nz];rfl) ?_ (fun j aF=>?_) n gu
     ·simp [Cn]
     by_cases e:i=j
     ·subst e;simp only [nz];rfl
     rw [getD_set_ne true e] at aF;exact aF
    omega
   have ah0:=inv.set au gu
   obtain⟨akQ,akD,akH,VW⟩:=zj i h o gW bp
   have JQ:=xZ bD inv i i (Nat.le_refl _) h o gW bp EF
   have TJ:∀ (k:Nat) (x:eC),hs[k]? =some x→i<k→ (∃ j∈x.wr,h.rd.contains j=true∨h.wr.contains j=true)→bD.getD k false=false:=fun k x ar vS aF=>by
    have h1:=(VW k x ar).2 vS aF;cases hk:bD.getD k false with
    | false=>rfl
    | true=>
      obtain⟨_,ok,_,jA⟩:=qh k (by have:=(List.getElem?_eq_some_iff.1 ar).1;omega)
      have:=xZ bD inv k k (Nat.le_refl _) x ok ar jA (fun e he hb=>inv.closed k ok jA hk e he hb) i h1
      rw [zC] at this;cases this
   have y6:hs=hs.take i++h::hs.drop (i+1):=by
    have ri:i<hs.length:=by omega
    rw [List.getElem?_eq_getElem ri] at gW;cases gW;rw [List.getElem_cons_drop];exact(List.take_append_drop i hs).symm
   have Ke:(hs.take i).length=i:=by rw [List.length_take];omega
   have xU:∀ (t:Nat) (τ:I),look E t=some τ→ ∀ (m:Nat) (x:eC),hs[m]? =some x→bD.getD (0+m) false=true→x.slot≠some t:=fun t τ ao m x ar Kf j2=>by
    rw [Nat.zero_add] at Kf;have ai0:i≠m:=fun e=>by subst e;rw [zC] at Kf;cases Kf
    obtain⟨_,GX,_,Gu⟩:=qh m (by have:=(List.getElem?_eq_some_iff.1 ar).1;omega);have:=xZ bD inv m m (Nat.le_refl _) x GX ar Gu (fun e he hb=>inv.closed m GX Gu Kf e he hb) i (afV t τ ao m x ar j2 i gu ai0);rw [zC] at this;cases this
   have U6:=(sN.get cB i h o gW (by rw [List.getElem?_take,if_pos gu,Array.getElem?_toList];exact bp))
   rw [Nat.zero_add] at U6
   have O5:=U6 hd (jN (fun i=>bD.getD i false) hd E 0 hs) (jt (fun i=>bD.getD i false) hd 0 hs L) (fun t τ ao=>?_) (fun j e aF aI=>?_) (Mr hw)
   ·have hw:=HU (K:=fun a W=> ∃ x,bN c (sh h.slot (h.τ (iC h.up i (oI hd i x))) (jN (fun i=>bD.getD i false) hd E 0 hs)) (pC (jt (fun i=>bD.getD i false) hd 0 hs L) (h.ej (iC h.up i (oI hd i x))) h.wr) a W) bp (O5 a W st)
    refine wpOpIn_mono (fun hx W' ⟨x,rf⟩=>?_) hw
    have Wy:∀ j,j≠i→oI hd i x j=hd j:=fun j aF=>by
     have:Nat.beq j i=false:=by
      cases hb:Nat.beq j i
      ·rfl
      exact absurd (fm.1 hb) aF
     simp only [oI,this,cond_false]
    have O6:∀ (j:Nat) (y:eC),hs[j]? =some y→bD.getD j false=true→iC y.up j (oI hd i x)=iC y.up j hd:=fun j y a1 aF=>by
     obtain⟨_,x9,_,qv⟩:=qh j (by have:=(List.getElem?_eq_some_iff.1 a1).1;omega);refine aaF (Wy j fun e=>by subst e;rw [zC] at aF;cases aF) fun k hk=>Wy k fun e=>?_;have:=xZ bD inv j j (Nat.le_refl _) y x9 a1 qv (fun e he hb=>inv.closed j x9 qv aF e he hb) k hk;subst e;rw [zC] at this;cases this
    have Kg:(bD.setIfInBounds i true).getD i false=true:=by simp [Cn]
    have ij:∀ j,j≠i→ (bD.setIfInBounds i true).getD j false=bD.getD j false:=fun j aF=>getD_set_ne false (fun e=>aF e.symm)
    refine cA _ (oI hd i x) hx W' Oi ah0 ?_
    have ah1:jt (fun j=>(bD.setIfInBounds i true).getD j false) (oI hd i x) 0 hs L=pC (jt (fun i=>bD.getD i false) hd 0 hs L) (h.ej (iC h.up i (oI hd i x))) h.wr:=by
     apply List.ext_getElem?;intro j;rw [IZ,L1,IZ];by_cases aF:h.wr.contains j=true
     ·rw [if_pos aF];have av:∀ (ls:Nat→Bool) (g:Nat→Hid) (v:Option aR),(∀ k x,hs[k]? =some x→i<k→x.wr.contains j=true→ls k=false)→n0 ls g j 0 hs v=(bif ls i then(n0 ls g j 0 (hs.take i) v).map (fun _=>h.ej (iC h.up i g) j) else n0 ls g j 0 (hs.take i) v):=fun ls g v Gd=>by
       conv=>lhs;rw [y6]
       rw [Lz,Ke,Nat.zero_add,n0,aF,Bool.and_true,LN];intro k x ar hw;rw [List.getElem?_drop] at ar;exact Gd (i+1+k) x ar (by omega) hw
      have gF:∀ k x,hs[k]? =some x→i<k→x.wr.contains j=true→bD.getD k false=false:=fun k x ar vS hw=>TJ k x ar vS ⟨j,by simpa using hw,.inr aF⟩;rw [av (fun j=>(bD.setIfInBounds i true).getD j false) (oI hd i x) _ (fun k x ar vS hw=>by rw [ij k (by omega)];exact gF k x ar vS hw),av (fun j=>bD.getD j false) hd _ gF];simp only [Kg,zC,cond_true,cond_false];rw [H9 (ls':=fun j=>bD.getD j false) (hd':=hd) fun q x ar _=>by
       have hq:q<i:=by have:=(List.getElem?_eq_some_iff.1 ar).1;omega
       rw [List.getElem?_take,if_pos hq] at ar;rw [Nat.zero_add];exact⟨ij q (by omega),fun ao=>O6 q x ar (by rw [ij q (by omega)] at ao;exact ao)⟩]
     rw [if_neg aF];refine H9 fun q x ar hw=>?_;rw [Nat.zero_add];have hq:q≠i:=fun e=>by subst e;rw [gW] at ar;cases ar;exact aF hw
     exact⟨ij q hq,fun ao=>O6 q x ar (by rw [ij q hq] at ao;exact ao)⟩
    rw [ah1]
    refine rf.less fun t τ ao=>?_
    rcases RZ ao with⟨j,y,h1,ae,aA,aV⟩ | ⟨h1,gF⟩
    ·rw [Nat.zero_add] at ae aV
     by_cases kf:j=i
     ·subst kf
      rw [gW] at h1
      cases h1
      exact⟨τ,by rw [aA,aV];simp [sh,look,Nat.beq_refl],fun _ _ _ h=>h⟩
     rw [ij j kf] at ae
     rw [O6 j y h1 ae] at aV
     have bc:=L3 (ls:=fun i=>bD.getD i false) (hd:=hd) (E:=E) (k:=0) h1 (by rw [Nat.zero_add];exact ae) aA fun q z hq cJ=>NM q j t z y hq h1 cJ aA
     rw [Nat.zero_add,← aV] at bc
     refine⟨τ,?_,fun _ _ _ h=>h⟩
     cases x0:h.slot with
     | none=>exact bc
     | some s=>
       have dC:Nat.beq s t=false:=by
        cases hb:Nat.beq s t
        ·rfl
        have:=fm.1 hb;subst this;exact absurd (NM j i s y h h1 gW aA x0) kf
       simp only [sh,look,dC,cond_false]
       exact bc
    have hb:=xU t τ h1
    have bc:=LO (ls:=fun i=>bD.getD i false) (hd:=hd) (E:=E) (k:=0) hb
    refine⟨τ,?_,fun _ _ _ h=>h⟩
    cases x0:h.slot with
    | none=>simp only [sh];rw [bc];exact h1
    | some s=>
      have dC:Nat.beq s t=false:=by
       cases oD:Nat.beq s t
       ·rfl
       have:=fm.1 oD;subst this;exact absurd x0 (gF i h gW (by rw [Nat.zero_add];exact Kg))
      simp only [sh,look,dC,cond_false]
      rw [bc];exact h1
   ·rcases SY ao with⟨j,aF,y,h1,ae,aA⟩ | h1
    ·have bc:=L3 (ls:=fun i=>bD.getD i false) (hd:=hd) (E:=E) (k:=0) h1 (by rw [Nat.zero_add];exact JQ j aF) ae fun q z hq cJ=>NM q j t z y hq h1 cJ ae
     rw [Nat.zero_add,← aA] at bc
     exact bc
    rw [LO (xU t τ h1)];exact h1
   rw [IZ] at aF ⊢
   rw [← aF]
   conv=>lhs;rw [y6]
   rw [Lz,LN]
   ·refine H9 fun q x ar hw=>?_
    rw [Nat.zero_add]
    have hq:q<i:=by have:=(List.getElem?_eq_some_iff.1 ar).1;omega
    rw [List.getElem?_take,if_pos hq] at ar
    exact⟨JQ q ((VW q x ar).1 hq ⟨j,by simpa using hw,aI⟩),fun _=>rfl⟩
   intro q x ar hw
   rw [Ke,Nat.zero_add]
   cases q with
   | zero=>exact zC
   | succ q=>
     simp only [List.getElem?_cons_succ] at ar
     rw [List.getElem?_drop] at ar
     exact TJ (i+(q+1)) x (by rw [← ar];congr 1;omega) (by omega) ⟨j,by simpa using hw,.inl aI⟩
theorem ag.I0 {oH:Nat}{l:List Oper}(n:Nat){np:Nat}(hm:c.P.follows .mixedOrders=true)(hs:List eC)(ds:List (Option Nat×List Nat×List Nat×List Nat))(es:List Nat)(gv:oJ hs=ds)(rj:E.map (·.1)=es)(jF:Gv.xu l.toArray n ds es=true)(xN:∀ h∈hs,∀ j∈h.wr,j<np∨L.length≤j)
 (cB:sN c l.toArray Q hs E L np 0 (l.take n) hs) (bP:∀ hd,ab c l.toArray Q (l.drop n) (jN (fun _=>true) hd E 0 hs) (jt (fun _=>true) hd 0 hs L)):ag c Q (.region oH l.toArray true) E L:=fun a W s=>by
 subst gv rj
 refine wpIn_region_any hm ?_
 have aQ:n≤l.toArray.size:=by
  simp only [Gv.xu,Bool.and_eq_true,decide_eq_true_eq] at jF;exact jF.1.1.1.1.1.2
 have ah2:HeadInv .any l.toArray n (Array.replicate l.toArray.size false):=
  {size:=by simp
   closed:=fun j x9 _ ao=>by rw [getD_replicate_false] at ao;cases ao
   tail:=fun t _ bP=>by simp at bP;simp [bP] }
 have h:=Z7 xN (ops:=l.toArray) (Q:=Q) jF (by simpa using cB) (by simpa using bP) n (Array.replicate l.toArray.size false) (fun _ _=>none) a W.drew (Nat.le_trans (List.length_filter_le _ _) (by simp)) ah2 ?_
 ·rw [show n+(l.toArray.size - n)=l.toArray.size by omega] at h
  exact h
 have h1:∀ (hs:List eC) (k:Nat),jN (fun i=>(Array.replicate l.toArray.size false).getD i false) (fun _ _=>none) E k hs=E:=by
  intro hs;induction hs with
  | nil=>intro k;rfl
  | cons h r cA=>
    intro k
    have ae:=cA (k+1)
    simp only [getD_replicate_false] at ae
    unfold jN
    simp only [getD_replicate_false]
    exact ae
 have ae:∀ (hs:List eC) (k:Nat) (L:List aR),jt (fun i=>(Array.replicate l.toArray.size false).getD i false) (fun _ _=>none) k hs L=L:=by
  intro hs;induction hs with
  | nil=>intro k L;rfl
  | cons h r cA=>intro k L;rw [jt,cA];simp only [getD_replicate_false,cond_false]
 rw [h1,ae]
 exact s.world (Fr.drew W)
theorem ag.WX {oH:Nat}{l:List Oper}{ds:List (Option Nat×List Nat×List Nat×List Nat)}(n np:Nat)(hm:c.P.follows .mixedOrders=true)(hs:List eC)(es:List Nat)
 (cB:sN c l.toArray Q hs E L np 0 (l.take n) hs) (bP:∀ hd,ab c l.toArray Q (l.drop n) (jN (fun _=>true) hd E 0 hs) (jt (fun _=>true) hd 0 hs L))
 (gv:oJ hs=ds:=by rfl) (rj:E.map (·.1)=es:=by rfl) (jF:Gv.xu l.toArray n ds es=true:=by kernel_rfl) (hw:(ds.all fun d=>d.2.2.2.all fun j=>Nat.blt j np)=true:=by kernel_rfl):ag c Q (.region oH l.toArray true) E L:=
 ag.I0 n hm hs ds es gv rj jF (U0 gv hw) cB bP
theorem ag.oN {oH:Nat}{l:List Oper}{ds:List (Option Nat×List Nat×List Nat×List Nat)}(np:Nat)(hm:c.P.follows .mixedOrders=true)(hs:List eC)(es:List Nat)
 (cB:sN c l.toArray Q hs E L np 0 l hs) (bP:∀ hd,ad c Q .normal (jN (fun _=>true) hd E 0 hs) (jt (fun _=>true) hd 0 hs L))
 (gv:oJ hs=ds:=by rfl) (rj:E.map (·.1)=es:=by rfl) (jF:Gv.xu l.toArray l.length ds es=true:=by kernel_rfl) (hw:(ds.all fun d=>d.2.2.2.all fun j=>Nat.blt j np)=true:=by kernel_rfl):ag c Q (.region oH l.toArray true) E L:=
 ag.I0 l.length hm hs ds es gv rj jF (U0 gv hw) (by rw [List.take_length];exact cB) (fun hd=>by rw [List.drop_length];exact ab.nil (bP hd))
theorem ag.j5 {oH:Nat}{l:List Oper}{ds:List (Option Nat×List Nat×List Nat×List Nat)}(hm:c.P.follows .mixedOrders=true)(hs:List eC)(es:List Nat)
 (cB:ET c l.toArray Q hs E L 0 l hs) (bP:∀ hd,ad c Q .normal (jN (fun _=>true) hd E 0 hs) (jt (fun _=>true) hd 0 hs L))
 (gv:oJ hs=ds:=by rfl) (rj:E.map (·.1)=es:=by rfl) (jF:Gv.xu l.toArray l.length ds es=true:=by kernel_rfl):ag c Q (.region oH l.toArray true) E L:=
 ag.I0 (np:=L.length) l.length hm hs ds es gv rj jF (fun _ _ j _=>by omega) (by rw [List.take_length];exact cB.Ge) (fun hd=>by rw [List.drop_length];exact ab.nil (bP hd))
def rg:Nat→Nat→List (Option Nat)
 | _,0=>[]
 | a,n+1=>some a::rg (a+1) n
theorem bb.tail {l:List Oper}{f:Nat}{bD:Array Bool}(n:Nat)(aY:(l.drop n).length=f)(hs:Region.seqB .any l.toArray f n bD=true)(h:ab c l.toArray Q (l.drop n) E L):bb c l.toArray Q f bD E L:=fun a W s=>by
 subst aY;exact HR (l.drop n) n bD a W (fun j=>by simp) hs (h a W s)
theorem ak.bG {α β:Type}{o:Option α}{k:α→ak β}{R:β→Prop}{P:Prop}(h:ak.bind (ak.of o) k R)(g:∀ y,o=some y→k y R→P):P:=(ak.acy h).elim fun y h=>g y h.1 h.2
theorem ak.ex {α β:Type}{m:ak α}{k:α→ak β}{R:β→Prop}(h:ak.bind m k R):∃ K:α→Prop,m K∧ ∀ r,K r→k r R:=⟨_,h,fun _ h=>h⟩
end
theorem bt.law {P:Program}{f:FuncId}{τs:List I}{b0:Type}[eY b0]{R:Bool×aC b0→Prop}{Lo: {r:Bool×aC b0 // R r}×Unit→List aR}(h:bt P f τs ([]++aH ([]:aC b0)) (fun d: {r:Bool×aC b0 // R r}×Unit=>I.of d.1.1.1) Lo)(kB:∀ r,R r→r.1=true):b2 P f τs (I.of true):=by
 intro A W vs fT bm;refine(h A W vs (fun k hk=>⟨fT k hk,by simp [aH,aT]⟩) (by simp [aH,aT]) (fun k hk=>by simp [aH,aT] at hk) (fun e he=>by simp [aH] at he) (by simpa [aH,aT] using bm)).mono ?_;intro e W' ⟨v,d,h1,ae,_,_,_,aA⟩;refine⟨v,h1,by simpa [aH,aT] using ae,?_⟩;have aV:=kB d.1.1 d.1.2;rw [of_bool] at aA ⊢;rw [aA,aV]
end Gv
