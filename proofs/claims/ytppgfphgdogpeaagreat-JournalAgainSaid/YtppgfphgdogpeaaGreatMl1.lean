/-
  The library of the decompiler, as far as it is needed here. Conditions: none.
-/
import Derived.Lib.AppendZerosOnto
import Derived.Lib.Overlaps
import Derived.MapKept
import Derived.Test.YtppgfphgdogpeaaGreatMl0
set_option linter.unusedVariables false
set_option linter.unusedSimpArgs false
namespace Gv
open Go
abbrev Hid:=Nat→Option Nat
def cP (l:List (Option Nat)):Hid:=fun i=>(l[i]?).getD none
structure dz where
 slot:Option Nat
 up:List Nat
 rd:List Nat
 wr:List Nat
 τ:(Nat→Hid)→I
 dF:(Nat→Hid)→Nat→aF
def hG (up:List Nat)(i:Nat)(hd:Nat→Hid):Nat→Hid:=fun j=>bif Nat.beq j i||up.any (fun k=>Nat.beq k j) then hd j else fun _=>none
def mC (hd:Nat→Hid)(i:Nat)(x:Hid):Nat→Hid:=fun j=>bif Nat.beq j i then x else hd j
theorem acJ {up:List Nat}{i:Nat}{hd hd':Nat→Hid}(h:hd i=hd' i)(cL:∀ k∈up,hd k=hd' k):hG up i hd=hG up i hd':=by
 funext j;unfold hG;cases h1:Nat.beq j i
 ·cases ab:up.any (fun k=>Nat.beq k j)
  ·rfl
  obtain⟨k,hk,he⟩:=List.any_eq_true.1 ab;have:=eS.1 he;subst this;simp only [Bool.false_or,cond_true];exact cL k hk
 have:=eS.1 h1;subst this;simp only [Bool.true_or,cond_true];exact h
def oQ:List aF→ (Nat→aF)→List Nat→List aF
 | L,_,[]=>L
 | L,f,j::r=>oQ (L.set j (f j)) f r
theorem RB:∀ {L:List aF} {f:Nat→aF} {js:List Nat},(oQ L f js).length=L.length
 | _,_,[]=>rfl
 | L,f,j::r=>by rw [oQ,RB,List.length_set]
theorem LO:∀ {L:List aF} {f:Nat→aF} {js:List Nat} (i:Nat),(oQ L f js)[i]? =if js.contains i=true then L[i]?.map (fun _=>f i) else L[i]?
 | _,_,[],i=>by simp [oQ]
 | L,f,j::r,i=>by
   rw [oQ,LO i];by_cases h:j=i
   ·subst h;simp only [List.contains_cons,BEq.rfl,Bool.true_or,if_true,List.getElem?_set];by_cases ak:j<L.length
    ·simp [ak]
    simp [ak]
   have hb:(i==j)=false:=by simp;exact fun e=>h e.symm
   rw [List.contains_cons,hb,Bool.false_or,List.getElem?_set_ne h]
def gI (ls:Nat→Bool)(hd:Nat→Hid):Nat→List dz→List aF→List aF
 | _,[],L=>L
 | k,h::r,L=>gI ls hd (k+1) r (bif ls k then oQ L (h.dF (hG h.up k hd)) h.wr else L)
def h9 (ls:Nat→Bool)(hd:Nat→Hid)(E:List (Nat×I)):Nat→List dz→List (Nat×I)
 | _,[]=>E
 | k,h::r=>match ls k,h.slot with
   | true,some s=>(s,h.τ (hG h.up k hd))::h9 ls hd E (k+1) r
   | _,_=>h9 ls hd E (k+1) r
def nE (ls:Nat→Bool)(hd:Nat→Hid)(j:Nat):Nat→List dz→Option aF→Option aF
 | _,[],v=>v
 | k,h::r,v=>nE ls hd j (k+1) r (bif ls k&&h.wr.contains j then v.map (fun _=>h.dF (hG h.up k hd) j) else v)
theorem IU {ls:Nat→Bool}{hd:Nat→Hid}(j:Nat):∀ {k:Nat} {hs:List dz} {L:List aF},(gI ls hd k hs L)[j]? =nE ls hd j k hs L[j]?
 | _,[],_=>rfl
 | k,h::r,L=>by
   rw [gI,nE,IU j];congr 1;cases ls k
   ·rfl
   simp only [cond_true,Bool.true_and];rw [LO];cases h.wr.contains j <;> rfl
theorem LA {ls:Nat→Bool}{hd:Nat→Hid}{j:Nat} :∀ {k:Nat} {hs:List dz} {v:Option aF},(∀ m h,hs[m]? =some h→h.wr.contains j=true→ls (k+m)=false)→nE ls hd j k hs v=v
 | _,[],_,_=>rfl
 | k,h::r,v,aH=>by
   rw [nE,LA fun m x hm al=>by have:=aH (m+1) x (by simpa using hm) al;rw [← this];congr 1;omega];cases hw:h.wr.contains j
   ·simp
   have:=aH 0 h rfl hw;simp only [Nat.add_zero] at this;rw [this];rfl
theorem Li {ls:Nat→Bool}{hd:Nat→Hid}{j:Nat} :∀ {k:Nat} {hs rs:List dz} {v:Option aF},nE ls hd j k (hs++rs) v=nE ls hd j (k+hs.length) rs (nE ls hd j k hs v)
 | _,[],_,_=>rfl
 | k,h::r,rs,v=>by
   rw [List.cons_append,nE,Li,nE,List.length_cons];congr 1;omega
theorem H3 {ls ls':Nat→Bool}{hd hd':Nat→Hid}{j:Nat} :∀ {k:Nat} {hs:List dz} {v:Option aF},(∀ m h,hs[m]? =some h→h.wr.contains j=true→ls (k+m)=ls' (k+m)∧ (ls (k+m)=true→hG h.up (k+m) hd=hG h.up (k+m) hd'))→nE ls hd j k hs v=nE ls' hd' j k hs v
 | _,[],_,_=>rfl
 | k,h::r,v,aH=>by
   have b2:=H3 (ls:=ls) (ls':=ls') (hd:=hd) (hd':=hd') (j:=j) (k:=k+1) (hs:=r) (v:=bif ls k&&h.wr.contains j then v.map (fun _=>h.dF (hG h.up k hd) j) else v) fun m x hm al=>by
    have:=aH (m+1) x (by simpa using hm) al;rw [show k+1+m=k+(m+1) by omega];exact this
   rw [nE,nE,b2];congr 1;cases hw:h.wr.contains j
   ·simp
   have:=aH 0 h rfl hw;simp only [Nat.add_zero] at this;rw [← this.1];cases ak:ls k
   ·rfl
   rw [this.2 ak]
theorem LB {ls:Nat→Bool}{hd:Nat→Hid}{E:List (Nat×I)}{t:Nat} :∀ {k:Nat} {hs:List dz},(∀ (m:Nat) (h:dz),hs[m]? =some h→ls (k+m)=true→h.slot≠some t)→look (h9 ls hd E k hs) t=look E t
 | _,[],_=>rfl
 | k,h::r,aH=>by
   have b2:=LB (ls:=ls) (hd:=hd) (E:=E) (t:=t) (k:=k+1) (hs:=r) fun m x hm ak=>aH (m+1) x (by simpa using hm) (by rw [← ak];congr 1;omega);unfold h9;split
   ·rename_i s h1 ab;have de:Nat.beq s t=false:=by
     cases hb:Nat.beq s t
     ·rfl
     have:=eS.1 hb;subst this;exact absurd ab (aH 0 h rfl h1)
    simp only [look,de,cond_false];exact b2
   exact b2
theorem LP {ls:Nat→Bool}{hd:Nat→Hid}{E:List (Nat×I)}{s:Nat} :∀ {k:Nat} {hs:List dz} {j:Nat} {h:dz},hs[j]? =some h→ls (k+j)=true→h.slot=some s→ (∀ m x,hs[m]? =some x→x.slot=some s→m=j)→look (h9 ls hd E k hs) s=some (h.τ (hG h.up (k+j) hd))
 | _,[],_,_,h,_,_,_=>by simp at h
 | k,x::r,0,h,aB,ak,hs,_=>by
   simp only [List.getElem?_cons_zero,Option.some.injEq] at aB;subst aB;simp only [Nat.add_zero] at ak;unfold h9;rw [ak,hs];simp [look,Nat.beq_refl]
 | k,x::r,j+1,h,aB,ak,hs,hu=>by
   have b2:=LP (ls:=ls) (hd:=hd) (E:=E) (s:=s) (k:=k+1) (hs:=r) (j:=j) (h:=h) (by simpa using aB) (by rw [← ak];congr 1;omega) hs fun m y hm aR=>by
    have:=hu (m+1) y (by simpa using hm) aR;omega
   rw [show k+1+j=k+(j+1) by omega] at b2;unfold h9;split
   ·rename_i cf h1 ab;have de:Nat.beq cf s=false:=by
     cases hb:Nat.beq cf s
     ·rfl
     have:=eS.1 hb;subst this;have:=hu 0 x rfl ab;omega
    simp only [look,de,cond_false];exact b2
   exact b2
theorem SJ {ls:Nat→Bool}{hd:Nat→Hid}{E:List (Nat×I)}{t:Nat}{τ:I} :∀ {k:Nat} {hs:List dz},look (h9 ls hd E k hs) t=some τ→ (∃ (j:Nat) (h:dz),hs[j]? =some h∧ls (k+j)=true∧h.slot=some t∧τ=h.τ (hG h.up (k+j) hd))∨ (look E t=some τ∧ ∀ (m:Nat) (h:dz),hs[m]? =some h→ls (k+m)=true→h.slot≠some t)
 | _,[],h=>.inr ⟨h,fun m h hm=>by simp at hm⟩
 | k,x::r,h=>by
   unfold h9 at h;have go:(ls k=true→x.slot≠some t)→look (h9 ls hd E (k+1) r) t=some τ→ (∃ (j:Nat) (h:dz),(x::r)[j]? =some h∧ls (k+j)=true∧h.slot=some t∧τ=h.τ (hG h.up (k+j) hd))∨ (look E t=some τ∧ ∀ (m:Nat) (h:dz),(x::r)[m]? =some h→ls (k+m)=true→h.slot≠some t):=fun al h=>by
    rcases SJ h with⟨j,y,h1,ab,ax,aO⟩ | ⟨h1,ab⟩
    ·exact .inl ⟨j+1,y,by simpa using h1,by rw [← ab];congr 1;omega,ax,by rw [aO];congr 2;omega⟩
    refine .inr ⟨h1,fun m y hm ak=>?_⟩;cases m with
    | zero=>simp only [List.getElem?_cons_zero,Option.some.injEq] at hm;subst hm;exact al ak
    | succ m=>exact ab m y (by simpa using hm) (by rw [← ak];congr 1;omega)
   split at h
   ·rename_i s h1 ab;simp only [look] at h;by_cases e:Nat.beq s t=true
    ·rw [e] at h;simp only [cond_true,Option.some.injEq] at h;have:=eS.1 e;subst this;exact .inl ⟨0,x,rfl,h1,ab,h.symm⟩
    rw [Bool.not_eq_true] at e;rw [e] at h;exact go (fun _ iM=>by rw [ab] at iM;cases iM;rw [Nat.beq_refl] at e;cases e) h
   rename_i fx;exact go (fun ak iM=>fx t ak iM) h
def kb (hd:Nat→Hid)(hs:List dz)(E:List (Nat×I)):List Nat→List (Nat×I)
 | []=>E
 | j::r=>match hs[j]? with
   | some h=>match h.slot with
     | some s=>(s,h.τ (hG h.up j hd))::kb hd hs E r
     | none=>kb hd hs E r
   | none=>kb hd hs E r
theorem TG {hd:Nat→Hid}{hs:List dz}{E:List (Nat×I)}{t:Nat}{τ:I} :∀ {ds:List Nat},look (kb hd hs E ds) t=some τ→ (∃ j∈ds,∃ h:dz,hs[j]? =some h∧h.slot=some t∧τ=h.τ (hG h.up j hd))∨look E t=some τ
 | [],h=>.inr h
 | j::r,h=>by
   have go:look (kb hd hs E r) t=some τ→ (∃ i∈j::r,∃ h:dz,hs[i]? =some h∧h.slot=some t∧τ=h.τ (hG h.up i hd))∨look E t=some τ:=fun h=>by
    rcases TG h with⟨i,h1,ab⟩ | h1
    ·exact .inl ⟨i,by simp [h1],ab⟩
    exact .inr h1
   unfold kb at h;split at h
   ·rename_i x al;split at h
    ·rename_i s r8;simp only [look] at h;by_cases e:Nat.beq s t=true
     ·rw [e] at h;simp only [cond_true,Option.some.injEq] at h;have:=eS.1 e;subst this;exact .inl ⟨j,by simp,x,al,r8,h.symm⟩
     simp only [Bool.not_eq_true] at e;rw [e] at h;exact go h
    exact go h
   exact go h
def w6 (E:List (Nat×I))(v:Value):List Nat→Prop
 | []=>True
 | s::r=>look E s=some (.eq v)∧w6 E v r
theorem w6.get {E:List (Nat×I)}{v:Value} :∀ {eN:List Nat},w6 E v eN→ ∀ s∈eN,look E s=some (.eq v)
 | _::_,h,s,hs=>by
   rcases List.mem_cons.1 hs with rfl | hs
   ·exact h.1
   exact w6.get h.2 s hs
def zH (τ:I)(E:List (Nat×I)):List Nat→List (Nat×I)
 | []=>E
 | s::r=>(s,τ)::zH τ E r
theorem SK {τ:I}{E:List (Nat×I)}{t:Nat}{σ:I} :∀ {eN:List Nat},look (zH τ E eN) t=some σ→ (t∈eN∧σ=τ)∨look E t=some σ
 | [],h=>.inr h
 | s::r,h=>by
   simp only [zH,look] at h;by_cases e:Nat.beq s t=true
   ·rw [e] at h;simp only [cond_true,Option.some.injEq] at h;have:=eS.1 e;subst this;exact .inl ⟨by simp,h.symm⟩
   simp only [Bool.not_eq_true] at e;rw [e] at h;rcases SK h with⟨h1,ab⟩ | h1
   ·exact .inl ⟨by simp [h1],ab⟩
   exact .inr h1
def zi {w:Nat}(a b:BitVec w):BitVec w:=if a≤b then a else b
def qZ:Option Nat→I→List (Nat×I)→List (Nat×I)
 | some s,τ,E=>(s,τ)::E
 | none,_,E=>E
section
variable {c:cF} {E:List (Nat×I)} {L:List aF} {ops:Array Oper} {Q:Exit→Act→World→Prop}
theorem bI.j2 {a:Act}{W:World}{α:Type}[ah α]{i cap T:Nat}{eN:List Nat}{key:Option Nat}{xs:List α}(h:bI c E L a W)(ak:w6 E (aJ key xs.length cap) eN)(aq:L[i]? =some ⟨key,.row T xs cap⟩):
 bI c (zH (.of xs) E eN) (L.set i ⟨none,.dead⟩) a W:=by
 have hk:=h.kill i
 refine { hk with env:=fun t τ e1=>?_ }
 rcases SK e1 with⟨hm,rfl⟩ | h1
 ·obtain⟨v,h1,ab⟩:=h.env t _ (ak.get t hm)
  refine⟨v,h1,pf.2 ?_⟩
  have mb:v=aJ key xs.length cap:=ab
  subst mb
  have bg:=h.own _ (List.mem_of_getElem? aq)
  cases key with
  | none=>exact .inl ⟨rfl,bg.1⟩
  | some p=>
    obtain⟨o,e7,cs,rfl,dK,aH,zx,aA⟩:=bg
    obtain⟨ax,aO⟩:=Lh dK aH aA
    refine .inr ⟨p,0,cap,cs,T,(0,0),rfl,h.ED aq,e7,aH,by omega,ax,?_⟩
    have nD:=A3 (L:=L) (i:=i) (cp:= .dead)
    exact aO.mono (.drop fun k hm=>by
     rcases List.mem_append.1 hm with hm | hm
     ·exact List.mem_append.2 (.inl (nD.subset hm))
     exact List.mem_append.2 (.inr hm))
 exact hk.env t τ h1
theorem J.j2 {l:List Oper}{α:Type}[ah α]{key:Option Nat}{xs:List α}{cap T:Nat}(i:Nat)(eN:List Nat)(ak:w6 E (aJ key xs.length cap) eN)(aq:L[i]? =some ⟨key,.row T xs cap⟩)
 (k:J c ops Q l (zH (.of xs) E eN) (L.set i ⟨none,.dead⟩)):J c ops Q l E L:=fun a W st=>k a W (st.j2 ak aq)
theorem aj.j2 {x:Exit}{α:Type}[ah α]{key:Option Nat}{xs:List α}{cap T:Nat}(i:Nat)(eN:List Nat)(ak:w6 E (aJ key xs.length cap) eN)(aq:L[i]? =some ⟨key,.row T xs cap⟩)
 (k:aj c Q x (zH (.of xs) E eN) (L.set i ⟨none,.dead⟩)):aj c Q x E L:=fun a W st=>k a W (st.j2 ak aq)
theorem aw.j2 {code:Code}{α:Type}[ah α]{key:Option Nat}{xs:List α}{cap T:Nat}(i:Nat)(eN:List Nat)(ak:w6 E (aJ key xs.length cap) eN)(aq:L[i]? =some ⟨key,.row T xs cap⟩)
 (k:aw c Q code (zH (.of xs) E eN) (L.set i ⟨none,.dead⟩)):aw c Q code E L:=fun a W st=>k a W (st.j2 ak aq)
def ei (c:cF)(ops:Array Oper)(Q:Exit→Act→World→Prop)(hs:List dz)(E:List (Nat×I))(L:List aF)(i:Nat)(o:Oper)(h:dz):Prop:=
 ∀ (hd:Nat→Hid) (E':List (Nat×I)) (L':List aF),(∀ t τ,look (kb hd hs E h.up) t=some τ→look E' t=some τ)→
   (∀ j e,(gI (fun _=>true) hd 0 (hs.take i) L)[j]? =some e→h.rd.contains j=true→L'[j]? =some e)→
   J c ops (qD (fun a W=> ∃ x,bI c (qZ h.slot (h.τ (hG h.up i (mC hd i x))) E') (oQ L' (h.dF (hG h.up i (mC hd i x))) h.wr) a W) Q) [o] E' L'
def BJ (c:cF)(ops:Array Oper)(Q:Exit→Act→World→Prop)(hs:List dz)(E:List (Nat×I))(L:List aF):Nat→List Oper→List dz→Prop
 | _,[],[]=>True
 | i,o::os,h::r=>ei c ops Q hs E L i o h∧BJ c ops Q hs E L (i+1) os r
 | _,_,_=>False
theorem RS {ls ls':Nat→Bool}{hd:Nat→Hid} :∀ {k:Nat} {hs:List dz},(∀ m,m<hs.length→ls (k+m)=ls' (k+m))→h9 ls hd E k hs=h9 ls' hd E k hs
 | _,[],_=>rfl
 | k,h::r,aH=>by
   have b2:=RS (ls:=ls) (ls':=ls') (hd:=hd) (k:=k+1) (hs:=r) fun m hm=>by
    have:=aH (m+1) (by simp;omega);rw [show k+1+m=k+(m+1) by omega];exact this
   have bq:=aH 0 (by simp);simp only [Nat.add_zero] at bq;unfold h9;rw [bq,b2]
theorem SL {ls ls':Nat→Bool}{hd:Nat→Hid} :∀ {k:Nat} {hs:List dz} {L:List aF},(∀ m,m<hs.length→ls (k+m)=ls' (k+m))→gI ls hd k hs L=gI ls' hd k hs L
 | _,[],_,_=>rfl
 | k,h::r,L,aH=>by
   have bq:=aH 0 (by simp);simp only [Nat.add_zero] at bq;rw [gI,gI,bq];exact SL fun m hm=>by
    have:=aH (m+1) (by simp;omega);rw [show k+1+m=k+(m+1) by omega];exact this
def lB (hs:List dz):List (Option Nat×List Nat×List Nat×List Nat):=hs.map fun h=>(h.slot,h.up,h.rd,h.wr)
theorem Mh {hs:List dz}{i:Nat}{h:dz}(ao:hs[i]? =some h):(lB hs)[i]? =some (h.slot,h.up,h.rd,h.wr):=by simp [lB,ao]
def wV (c:cF)(ops:Array Oper)(Q:Exit→Act→World→Prop)(hs:List dz)(E:List (Nat×I))(L:List aF)(np:Nat)(i:Nat)(o:Oper)(h:dz):Prop:=
 ∀ (hd:Nat→Hid) (E':List (Nat×I)) (L':List aF),(∀ t τ,look (kb hd hs E h.up) t=some τ→look E' t=some τ)→
   (∀ j e,(gI (fun _=>true) hd 0 (hs.take i) L)[j]? =some e→h.rd.contains j=true→L'[j]? =some e)→L'.drop np=L.drop np→
   J c ops (qD (fun a W=> ∃ x,bI c (qZ h.slot (h.τ (hG h.up i (mC hd i x))) E') (oQ L' (h.dF (hG h.up i (mC hd i x))) h.wr) a W) Q) [o] E' L'
def pg (c:cF)(ops:Array Oper)(Q:Exit→Act→World→Prop)(hs:List dz)(E:List (Nat×I))(L:List aF)(np:Nat):Nat→List Oper→List dz→Prop
 | _,[],[]=>True
 | i,o::os,h::r=>wV c ops Q hs E L np i o h∧pg c ops Q hs E L np (i+1) os r
 | _,_,_=>False
theorem pg.get {hs:List dz}{np:Nat} :∀ {k:Nat} {os:List Oper} {rs:List dz},pg c ops Q hs E L np k os rs→ ∀ i h o,rs[i]? =some h→os[i]? =some o→wV c ops Q hs E L np (k+i) o h
 | k,[],[],_,i,h,o,ao,_=>by simp at ao
 | k,asQ::os,bq::r,bQ,i,h,o,ao,bg=>by
   cases i with
   | zero=>
     simp only [List.getElem?_cons_zero,Option.some.injEq] at ao bg
     subst ao;subst bg;exact bQ.1
   | succ i=>
     have:=pg.get bQ.2 i h o (by simpa using ao) (by simpa using bg)
     rw [show k+1+i=k+(i+1) by omega] at this
     exact this
 | k,[],_::_,bQ,_,_,_,_,_=>bQ.elim
 | k,_::_,[],bQ,_,_,_,_,_=>bQ.elim
theorem BJ.F9 {hs:List dz}{np:Nat} :∀ {k:Nat} {os:List Oper} {rs:List dz},BJ c ops Q hs E L k os rs→pg c ops Q hs E L np k os rs
 | _,[],[],_=>trivial
 | _,_::_,_::_,h=>⟨fun hd E' L' h1 ab _=>h.1 hd E' L' h1 ab,BJ.F9 h.2⟩
 | _,[],_::_,h=>h.elim
 | _,_::_,[],h=>h.elim
theorem Si {n:Nat} :∀ {L:List aF} {f:Nat→aF} {js:List Nat},(∀ j∈js,j<n∨L.length≤j)→ (oQ L f js).drop n=L.drop n
 | _,_,[],_=>rfl
 | L,f,j::r,h=>by
   rw [oQ,Si (fun k hk=>by rw [List.length_set];exact h k (by simp [hk]))];rcases h j (by simp) with h1 | h1
   ·rw [List.drop_set_of_lt h1]
   rw [List.set_eq_of_length_le h1]
theorem Mi {ls:Nat→Bool}{hd:Nat→Hid}{n:Nat} :∀ {k:Nat} {hs:List dz} {L:List aF},(∀ h∈hs,∀ j∈h.wr,j<n∨L.length≤j)→ (gI ls hd k hs L).drop n=L.drop n
 | _,[],_,_=>rfl
 | k,h::r,L,hw=>by
   rw [gI];cases ak:ls k
   ·exact Mi fun x al=>hw x (by simp [al])
   simp only [cond_true];rw [Mi (fun x al j aB=>by rw [RB];exact hw x (by simp [al]) j aB),Si (hw h (by simp))]
theorem VT {hs:List dz}{ds:List (Option Nat×List Nat×List Nat×List Nat)}{np:Nat}(eC:lB hs=ds)(h:(ds.all fun d=>d.2.2.2.all fun j=>Nat.blt j np)=true):∀ h∈hs,∀ j∈h.wr,j<np∨L.length≤j:=fun x al j aB=>by
 subst eC;have h1:=List.all_eq_true.1 h (x.slot,x.up,x.rd,x.wr) (List.mem_map.2 ⟨x,al,rfl⟩);have ab:=List.all_eq_true.1 h1 j aB;exact .inl (Nat.blt_eq.mp ab)
theorem aj.fin {slot:Option Nat}{up wr:List Nat}{i:Nat}{hd:Nat→Hid}{τ:(Nat→Hid)→I}{dF:(Nat→Hid)→Nat→aF}{E' v7:List (Nat×I)}{L' L2:List aF}(x:Hid)(aE:v7=qZ slot (τ (hG up i (mC hd i x))) E')(aq:L2=oQ L' (dF (hG up i (mC hd i x))) wr):
 aj c (qD (fun a W=> ∃ x,bI c (qZ slot (τ (hG up i (mC hd i x))) E') (oQ L' (dF (hG up i (mC hd i x))) wr) a W) Q) .normal v7 L2:=fun a W s=>by
 subst aE aq
 exact⟨x,s⟩
theorem aj.place {z:Exit}{e:aF}(j:Nat)(aB:L[j]? =some ⟨none,.dead⟩)(k:aj c Q z E (L.set j e)):aj c Q z E (e::L):=fun a W s=>by
 refine k a W (s.sub (fun x al=>?_) ?_)
 ·rcases List.mem_or_eq_of_mem_set al with h | h
  ·exact List.mem_cons.2 (.inr h)
  exact List.mem_cons.2 (.inl h)
 have h1:=wH aB;have ab:(L.set j e).Perm (e::L.eraseIdx j):=by
  have ax:(L.set j e)[j]? =some e:=by rw [List.getElem?_set_self (List.getElem?_eq_some_iff.1 aB).1]
  have aO:=wH ax;rwa [List.eraseIdx_set_eq] at aO
 have a7:=yJ (h1.cons e);have bl:aP (e::⟨none,.dead⟩::L.eraseIdx j)=aP (e::L.eraseIdx j):=by cases hk:e.key <;> simp [aP,hk]
 rw [bl] at a7;exact(yJ ab).nodup_iff.2 (a7.nodup_iff.1 s.nodup)
theorem aj.back {z:Exit}{e hK:aF}(j:Nat)(aB:L[j]? =some hK)(k:aj c Q z E (L.set j e)):aj c Q z E (e::L.eraseIdx j):=fun a W s=>by
 have ax:(L.set j e)[j]? =some e:=by rw [List.getElem?_set_self (List.getElem?_eq_some_iff.1 aB).1]
 have aO:=wH ax;rw [List.eraseIdx_set_eq] at aO;exact k a W (s.perm aO.symm)
theorem aw.mT {z:Code}(n:Nat)(k:aw c Q z E (L++List.replicate n ⟨none,.dead⟩)):aw c Q z E L:=fun a W s=>by
 refine k a W ?_;have hk:aP (L++List.replicate n ⟨none,.dead⟩)=aP L:=by
  rw [ff];have:∀ n,aP (List.replicate n (⟨none,.dead⟩:aF))= []:=fun n=>by
   induction n with
   | zero=>rfl
   | succ n b2=>rw [List.replicate_succ];simp [aP,b2]
  rw [this,List.append_nil]
 exact
 {defers:=s.defers
  size:=s.size
  env:=fun t τ ak=>by rw [hk];exact s.env t τ ak
  dO:=s.dO
  own:=fun e he=>by
   rw [hk];rcases List.mem_append.1 he with he | he
   ·exact s.own e he
   rw [(List.mem_replicate.1 he).2];trivial
  nodup:=by rw [hk];exact s.nodup
  lt:=by rw [hk];exact s.lt
  gL:=by rw [hk];exact s.gL
  e6:=by rw [hk];exact s.e6 }
theorem aw.BU {z:Code}(n m:Nat)(k:aw c Q z E (L.take m++(List.replicate n ⟨none,.dead⟩++L.drop m))):aw c Q z E L:=by
 refine aw.mT n fun a W s=>k a W (s.perm ?_);have e:L=L.take m++L.drop m:=(List.take_append_drop m L).symm;conv=>lhs;rw [e]
 rw [List.append_assoc];exact List.perm_append_comm.append_left _
theorem aj.dN {z:Exit}{L2:List aF}(h:L=L2)(k:aj c Q z E L2):aj c Q z E L:=by subst h;exact k
theorem aj.j5 {z:Exit}{key:Option Nat}{n m cap:Nat}(gw:Nat)(ak:look E gw=some (.eq (aJ key n cap)))(aH:n=m)(k:aj c Q z ((gw,.eq (aJ key m cap))::E) L):aj c Q z E L:=fun a W s=>by
 subst aH;refine k a W (s.less fun t τ h=>?_);simp only [look] at h;by_cases e:Nat.beq gw t=true
 ·rw [e] at h;simp only [cond_true] at h;have:=eS.1 e;subst this;exact⟨τ,by rw [ak,h],fun _ _ _ h=>h⟩
 simp only [Bool.not_eq_true] at e;rw [e] at h;exact⟨τ,h,fun _ _ _ h=>h⟩
variable {hs:List dz} {i d:Nat} {up rd:List Nat} {dF:(Nat→Hid)→Nat→aF} {o:Oper}
theorem jR {τ:I}(bA:o.guard=none)(hd:o.dst=some d)(aH:Nat.blt d c.n=true)
 (h:∀ (hd:Nat→Hid) (E':List (Nat×I)) (L':List aF),(∀ t τ,look (kb hd hs E up) t=some τ→look E' t=some τ)→ (∀ j e,(gI (fun _=>true) hd 0 (hs.take i) L)[j]? =some e→rd.contains j=true→L'[j]? =some e)→bc c E' L' o τ):
 ei c ops Q hs E L i o ⟨some d,up,rd,[],fun _=>τ,dF⟩:=fun Ga E' L' aE aq=>
 J.v (h Ga E' L' aE aq) bA hd aH (J.nil (aj.fin (fun _=>none) rfl rfl))
theorem Wz {j g:Nat}{b want:Bool}{τ:I}(bA:o.guard=some (j,want))(aB:(ops[j]?).bind (·.dst)=some g)(hd:o.dst=some d)(aH:Nat.blt d c.n=true)
 (ak:∀ hd,look (kb hd hs E up) g=some (.of b))
 (h:∀ (hd:Nat→Hid) (E':List (Nat×I)) (L':List aF),(∀ t τ,look (kb hd hs E up) t=some τ→look E' t=some τ)→ (∀ j e,(gI (fun _=>true) hd 0 (hs.take i) L)[j]? =some e→rd.contains j=true→L'[j]? =some e)→b=want→bc c E' L' o τ):
 ei c ops Q hs E L i o ⟨some d,up,rd,[],fun _=>.cond (b=want) τ,dF⟩:=fun Ga E' L' aE aq=>
 J.g (h Ga E' L' aE aq) bA aB (aE _ _ (ak Ga)) hd aH (J.nil (aj.fin (fun _=>none) rfl rfl))
variable {ty t:TypeId} {pos:String} {af:Array Edge}
theorem J.Ws {α:Type}[ah α]{rest:List Oper}{ba e n:Nat}{z:α}{r0 r:List α}{dS:List (Nat×Operand)}(hu:c.P.underlying t=some (.slice e))(eH:bO c.P e α)(gU:dp c.P e z)(hs:Nat.beq (ah.size α) 0=false)(aH:Nat.ble (n * ah.size α) 16777216=true)
 (aT:pn c E L (List.replicate n z) dS r0) (aA:r0=r) (hL:Nat.blt ba c.n=true) (k:∀ p,J c ops Q rest ((ba,.eq (aJ p r.length n))::E) (⟨p,.row e r n⟩::L)):
 J c ops Q (⟨some ba,.buildSlice t n dS.toArray,ty,pos,af,none⟩::rest) E L:=by subst aA;exact J.oN hu eH gU hs aH aT hL k
variable {g:Option (Nat×Bool)} {x y:Operand}
theorem adE {a b:BitVec 64}{ba:Option Tmp}{ats:Array TypeId}(al:aN c E L x (.of a))(aR:aN c E L y (.of b)):bc c E L ⟨ba,.call ⟨.builtin .min,#[x,y],ats⟩,ty,pos,af,g⟩ (.of (zi a b)):= .pure fun A W s=>
 ⟨.int .u64 (zi a b).toNat,by
   simp [execOp,resolve,invoke,builtin,Builtin.min_,Builtin.min2,h8.1 (al A W s),h8.1 (aR A W s)];unfold zi;split <;> split <;> first | rfl | (rename_i h1 ab;simp only [BitVec.le_def] at *;omega),h8.2 rfl⟩
end
section
variable {c:cF} {E:List (Nat×I)} {L:List aF} {ops:Array Oper} {Q:Exit→Act→World→Prop}
variable {d:Option Tmp} {ty:TypeId} {pos:String} {af:Array Edge} {g:Option (Nat×Bool)} {x y:Operand} {t t2:TypeId}
def Src (c:cF)(E:List (Nat×I))(L:List aF)(y:Operand)(N:Nat){α:Type}[ah α](vs:List α):Prop:=
 ∀ a W,bI c E L a W→ (Builtin.lenOf (a.eval y)).run c.P W= .ok N W∧ ∃ cells:List Value,(Builtin.firstCells (ah.size α) vs.length (a.eval y)).run c.P W= .ok cells.toArray W∧hx (aP L++c.bZ) W cells vs∧ ∀ v∈cells,v.oneCell'=true
theorem J.Jh {rest:List Oper}{i e p off ba dLen dCap N T:Nat}{cp cp':eG}{α:Type}[ah α]{vs:List α}(hu:c.P.underlying t=some (.slice e))(eH:bO c.P e α)
 (al:aN c E L x (.eq (.slice (some ⟨p,off,none⟩) dLen dCap))) (aR:Src c E L y N vs) (akD:Nat.min N dLen=vs.length) (aq:L[i]? =some ⟨some p,cp⟩) (aH:Nat.blt ba c.n=true)
 (amg:∀ A W o cells,cp.holds A W o→hx A W cells vs→ ∃ cs,o= .cells cs T (0,0)∧off+cells.length≤cs.size∧cp'.holds A W (.cells (cs.toList.take off++cells++cs.toList.drop (off+cells.length)).toArray T (0,0)))
 (k:J c ops Q rest ((ba,.of (vs.length:Int))::E) (L.set i ⟨some p,cp'⟩)):
 J c ops Q (⟨some ba,.call ⟨.builtin .copy,#[x,y],#[t,t2]⟩,ty,pos,af,none⟩::rest) E L:=fun a W s=>by
 have hL:ba<c.n:=by simpa using aH
 have h1:a.eval x=_:=al a W s
 obtain⟨ak,cells,ad,aA,Cv⟩:=aR a W s
 obtain⟨o,bg,bQ⟩:=s.own _ (List.mem_of_getElem? aq)
 obtain⟨cs,rfl,JG,r2⟩:=amg _ _ _ _ bQ aA
 obtain⟨gP,ej,dK⟩:=eH.info
 have bW:=run_storeCells_at (P:=c.P) p off T cells 0 cs W bg (by omega) Cv
 simp only [Nat.add_zero] at bW
 have j7:(execOp a.eval ⟨some ba,.call ⟨.builtin .copy,#[x,y],#[t,t2]⟩,ty,pos,af,none⟩).run c.P W= .ok (.value (goInt vs.length)) (W.setRow p (cs.toList.take off++cells++cs.toList.drop (off+cells.length)).toArray):=by
  simp [execOp,resolve,invoke,builtin,Builtin.copy_,h1,run_underlying hu,ak,akD,Go.sizeOf,typeInfo,ej,dK,ad,bW]
 refine iP rfl (R:=fun v il=>v=goInt vs.length∧il=W.setRow p (cs.toList.take off++cells++cs.toList.drop (off+cells.length)).toArray) (.mv j7 ⟨rfl,rfl⟩) fun v il ⟨bb,hw⟩=>?_
 subst bb
 subst hw
 exact k _ _ ((s.store aq bg r2).put hL (of_int.2 rfl))
theorem Iw {i T cap lo N k:Nat}{key:Option Nat}{α:Type}[ah α]{xs:List α}(aR:aN c E L y (.eq (iY key lo N cap (ah.size α))))(aq:L[i]? =some ⟨key,.row T xs cap⟩)(hk:0<k)(hg:lo+k≤xs.length):
 Src c E L y N ((xs.drop lo).take k):=fun a W s=>by
 obtain⟨p,cs,rfl,e7,g1,g2,g3,g4⟩:=s.rowAt aq (by omega)
 have h1:a.eval y=_:=aR a W s
 have mc:cap≠lo:=by omega
 have bb:a.eval y= .slice (some ⟨p,lo * ah.size α,none⟩) N (cap - lo):=by rw [h1];simp [iY,mc]
 have hlen:((xs.drop lo).take k).length=k:=by rw [List.length_take,List.length_drop];omega
 have s5:cs.toList.length=cap * ah.size α:=by simpa using g1
 have akE:(lo+k) * ah.size α≤xs.length * ah.size α:=Nat.mul_le_mul_right _ hg
 have JF:xs.length * ah.size α≤cap * ah.size α:=Nat.mul_le_mul_right _ g2
 rw [Nat.add_mul] at akE
 have Xb:((cs.toList.drop (lo * ah.size α)).take (k * ah.size α)).length=k * ah.size α:=by rw [List.length_take,List.length_drop];omega
 have gZ:hx (aP L++c.bZ) W ((cs.toList.drop (lo * ah.size α)).take (k * ah.size α)) ((xs.drop lo).take k):=by
  refine⟨by rw [Xb,hlen],fun j aB=>?_⟩;rw [hlen] at aB;have a7:=g4.2 (lo+j) (by omega);have fT:=BI (s:=ah.size α) aB;have arc:=BI (s:=ah.size α) (show lo+j<xs.length by omega);rw [List.drop_take,List.take_take,Nat.min_eq_left (by omega)] at a7;rw [List.drop_take,List.take_take,Nat.min_eq_left (by omega),List.drop_drop,← Nat.add_mul];simpa using a7
 have c0:=run_loadCells_list (P:=c.P) W ⟨p,lo * ah.size α,none⟩ ((cs.toList.drop (lo * ah.size α)).take (k * ah.size α)) fun j v bb=>by
  rw [kI,cell_of_row W p _ cs T (0,0) e7];rw [List.getElem?_take] at bb;split at bb
  ·rw [List.getElem?_drop] at bb;simpa using bb
  cases bb
 rw [Xb] at c0
 refine⟨by rw [bb];rfl,(cs.toList.drop (lo * ah.size α)).take (k * ah.size α),?_,gZ,gZ.one⟩
 rw [bb]
 simp only [Builtin.firstCells]
 rw [hlen]
 exact c0
theorem Mb {p lo n cap size:Nat}(h:cap≠lo):iY (some p) lo n cap size=Value.slice (some ⟨p,lo * size,none⟩) n (cap - lo):=by simp [iY,h]
theorem Tx {i T cap:Nat}{key:Option Nat}{α:Type}[ah α]{xs:List α}(aR:aN c E L y (.eq (aJ key xs.length cap)))(aq:L[i]? =some ⟨key,.row T xs cap⟩)(al:0<xs.length):Src c E L y xs.length xs:=by
 have:=Iw (lo:=0) (k:=xs.length) (N:=xs.length) (by rw [Bm];exact aR) aq al (by omega);simpa using this
theorem IP {key:Option Nat}{n cap size:Nat}(h:aN c E L x (.eq (iY key 0 n cap size))):aN c E L x (.eq (aJ key n cap)):=by rw [← Bm (size:=size)];exact h
theorem MJ {p lo n cap size:Nat}(ad:cap≠lo)(h:aN c E L x (.eq (iY (some p) lo n cap size))):aN c E L x (.eq (.slice (some ⟨p,lo * size,none⟩) n (cap - lo))):=by rw [← Mb ad];exact h
def eG.FV {α:Type}[ah α](T:TypeId)(xs:List α)(i m cap:Nat):eG where
 holds A W o:= ∃ cs,o= .cells cs T (0,0)∧cs.size=cap * ah.size α∧xs.length+m≤cap∧cap≤maxLen∧hx A W (cs.toList.take (i * ah.size α)) (xs.take i)∧
  hx A W ((cs.toList.drop ((i+m) * ah.size α)).take ((xs.length - i) * ah.size α)) (xs.drop i)
 oM:=False
 mono e h:=let⟨cs,h1,ab,ax,aO,a7,bl⟩:=h; ⟨cs,h1,ab,ax,aO,a7.mono e,bl.mono e⟩
theorem aew {α:Type}[ah α]{T i m cap:Nat}{xs:List α}(ao:i≤xs.length)(hm:xs.length+m≤cap){A W o cells}(h:(eG.row T xs cap).holds A W o)(ad:hx A W cells (xs.drop i)):
 ∃ cs,o= .cells cs T (0,0)∧ (i+m) * ah.size α+cells.length≤cs.size∧ (eG.FV T xs i m cap).holds A W (.cells (cs.toList.take ((i+m) * ah.size α)++cells++cs.toList.drop ((i+m) * ah.size α+cells.length)).toArray T (0,0)):=by
 obtain⟨cs,rfl,g1,g2,g3,g4⟩:=h
 have s5:cs.toList.length=cap * ah.size α:=by simpa using g1
 have mc:cells.length=(xs.length - i) * ah.size α:=by rw [ad.1,List.length_drop]
 have ar:(i+m) * ah.size α+(xs.length - i) * ah.size α=(xs.length+m) * ah.size α:=by rw [← Nat.add_mul];congr 1;omega
 have aU:(xs.length+m) * ah.size α≤cap * ah.size α:=Nat.mul_le_mul_right _ hm
 have cz:i * ah.size α≤ (i+m) * ah.size α:=Nat.mul_le_mul_right _ (by omega)
 have eL:i * ah.size α≤xs.length * ah.size α:=Nat.mul_le_mul_right _ ao
 have jX:(cs.toList.take ((i+m) * ah.size α)).length=(i+m) * ah.size α:=by rw [List.length_take];omega
 refine⟨cs,rfl,by omega,_,rfl,?_,hm,g3,?_,?_⟩
 ·simp only [List.size_toArray,List.length_append,List.length_take,List.length_drop];omega
 ·rw [List.toList_toArray,List.append_assoc,List.take_append_of_le_length (by rw [jX];omega),List.take_take,Nat.min_eq_left cz]
  have:=Ih ao (⟨cs,rfl,g1,g2,g3,g4⟩:(eG.row T xs cap).holds A W (.cells cs T (0,0)))
  obtain⟨amh,h1,_,_,_,a7⟩:=this
  cases h1
  rwa [List.length_take,Nat.min_eq_left ao] at a7
 rw [List.toList_toArray,List.append_assoc,List.drop_left' jX,← mc,List.take_left]
 exact ad
theorem adv {α:Type}[ah α]{T i cap:Nat}{xs vs:List α}(ao:i≤xs.length){A W o cells}(h:(eG.FV T xs i vs.length cap).holds A W o)(ad:hx A W cells vs):
 ∃ cs,o= .cells cs T (0,0)∧i * ah.size α+cells.length≤cs.size∧ (eG.row T (xs.take i++vs++xs.drop i) cap).holds A W (.cells (cs.toList.take (i * ah.size α)++cells++cs.toList.drop (i * ah.size α+cells.length)).toArray T (0,0)):=by
 obtain⟨cs,rfl,g1,g2,g3,g4,g5⟩:=h
 have s5:cs.toList.length=cap * ah.size α:=by simpa using g1
 have mc:cells.length=vs.length * ah.size α:=ad.1
 have hK:i * ah.size α+vs.length * ah.size α=(i+vs.length) * ah.size α:=by rw [← Nat.add_mul]
 have ar:(i+vs.length) * ah.size α+(xs.length - i) * ah.size α=(xs.length+vs.length) * ah.size α:=by rw [← Nat.add_mul];congr 1;omega
 have aU:(xs.length+vs.length) * ah.size α≤cap * ah.size α:=Nat.mul_le_mul_right _ g2
 have hlen:(xs.take i++vs++xs.drop i).length=xs.length+vs.length:=by simp;omega
 refine⟨cs,rfl,by omega,_,rfl,?_,by rw [hlen];exact g2,g3,?_⟩
 ·simp only [List.size_toArray,List.length_append,List.length_take,List.length_drop];omega
 rw [List.toList_toArray,hlen]
 have pB:=wF (wF g4 ad) g5
 have jX:(cs.toList.take (i * ah.size α)++cells).length=(i+vs.length) * ah.size α:=by rw [List.length_append,List.length_take];omega
 have lG:(cs.toList.take (i * ah.size α)++cells++cs.toList.drop (i * ah.size α+cells.length)).take ((xs.length+vs.length) * ah.size α)=cs.toList.take (i * ah.size α)++cells++(cs.toList.drop ((i+vs.length) * ah.size α)).take ((xs.length - i) * ah.size α):=by
  rw [List.take_append,jX,List.take_of_length_le (by omega),mc,hK];congr 2;omega
 rw [lG]
 exact pB
theorem LL {α:Type}[ah α]{T lo cap:Nat}{xs vs:List α}(hk:lo+vs.length≤xs.length){A W o cells}(h:(eG.row T xs cap).holds A W o)(ad:hx A W cells vs):
 ∃ cs,o= .cells cs T (0,0)∧lo * ah.size α+cells.length≤cs.size∧ (eG.row T (xs.take lo++vs++xs.drop (lo+vs.length)) cap).holds A W (.cells (cs.toList.take (lo * ah.size α)++cells++cs.toList.drop (lo * ah.size α+cells.length)).toArray T (0,0)):=by
 obtain⟨cs,rfl,g1,g2,g3,g4⟩:=h
 have s5:cs.toList.length=cap * ah.size α:=by simpa using g1
 have mc:cells.length=vs.length * ah.size α:=ad.1
 have hK:lo * ah.size α+vs.length * ah.size α=(lo+vs.length) * ah.size α:=by rw [← Nat.add_mul]
 have ar:(lo+vs.length) * ah.size α≤xs.length * ah.size α:=Nat.mul_le_mul_right _ hk
 have aU:xs.length * ah.size α≤cap * ah.size α:=Nat.mul_le_mul_right _ g2
 have hlen:(xs.take lo++vs++xs.drop (lo+vs.length)).length=xs.length:=by simp;omega
 refine⟨cs,rfl,by omega,_,rfl,?_,by rw [hlen];exact g2,g3,?_⟩
 ·simp only [List.size_toArray,List.length_append,List.length_take,List.length_drop];omega
 rw [List.toList_toArray,hlen]
 have g5:=Sf (lo:=lo) g4 ad hk
 have e:(cs.toList.take (lo * ah.size α)++cells++cs.toList.drop (lo * ah.size α+cells.length)).take (xs.length * ah.size α)=(cs.toList.take (xs.length * ah.size α)).take (lo * ah.size α)++cells++(cs.toList.take (xs.length * ah.size α)).drop (lo * ah.size α+cells.length):=by
  have cz:(cs.toList.take (lo * ah.size α)++cells).length=lo * ah.size α+cells.length:=by rw [List.length_append,List.length_take];omega
  rw [List.take_append,cz,List.take_of_length_le (by omega),List.take_take,Nat.min_eq_left (by omega),List.drop_take]
 rw [e]
 exact g5
theorem afH {p n cap e:Nat}(hu:c.P.underlying t=some (.slice e))(al:aN c E L x (.eq (aJ (some p) n cap))):bc c E L ⟨d,.call ⟨.builtin .cap,#[x],#[t]⟩,ty,pos,af,g⟩ (.of (cap:Int)):= .pure fun a W s=>by
 have h1:a.eval x=_:=al a W s;exact⟨.int .i64 cap,by simp [execOp,resolve,invoke,builtin,Builtin.cap_,h1,aJ,run_underlying hu,goInt],of_int.2 rfl⟩
theorem uK {p n cap:Nat}{α:Type}[ah α]{e:TypeId}{lo ao:Option Operand}{m h:Nat}{GO GP:Int}(hu:c.P.underlying t=some (.slice e))(eH:bO c.P e α)(al:aN c E L x (.eq (aJ (some p) n cap)))
 (hg:xM c E L lo GO 0) (gr:xM c E L ao GP n) (hm:GO=m) (aH:GP=h) (bQ:m≤h∧h≤cap):
 bc c E L ⟨d,.slice t x lo ao none,ty,pos,af,g⟩ (.eq (iY (some p) m (h - m) cap (ah.size α))):= .pure fun a W s=>by
 subst hm;subst aH
 obtain⟨vC,lA⟩:=bQ
 obtain⟨gP,ej,dK⟩:=eH.info
 have h1:a.eval x=_:=al a W s
 refine⟨_,?_,rfl⟩
 simp only [iY]
 have aq:∀ v,v=Value.int .i64 m→ (Instr.sliceBound v h .sliceB).run c.P W= .ok m W:=fun v bb=>rz vC bb
 have hH:∀ v,v=Value.int .i64 h→ (Instr.sliceBound v cap .sliceAcap).run c.P W= .ok h W:=fun v bb=>rz (by omega) bb
 generalize fT:(h:Int)=YP at gr
 generalize vM:(m:Int)=YQ at hg
 generalize F5:(n:Int)=YR at gr
 generalize X0:(0:Int)=YS at hg
 cases hg with
 | none=>
   have ih:m=0:=by omega
   cases gr with
   | none=>
     have lA:h=n:=by omega
     subst lA
     subst ih
     simp [execOp,Instr.sliceAt,Instr.slice,Instr.sliceBounds,h1,aJ,run_underlying hu,Go.sizeOf,typeInfo,ej,dK,kI]
   | some bQ=>
     subst fT
     subst ih
     simp [execOp,Instr.sliceAt,Instr.slice,Instr.sliceBounds,h1,aJ,run_underlying hu,Go.sizeOf,typeInfo,ej,dK,kI,hH _ (of_int.1 (bQ a W s))]
 | some ak=>
   subst vM
   cases gr with
   | none=>
     have lA:h=n:=by omega
     subst lA
     simp [execOp,Instr.sliceAt,Instr.slice,Instr.sliceBounds,h1,aJ,run_underlying hu,Go.sizeOf,typeInfo,ej,dK,kI,aq _ (of_int.1 (ak a W s))]
     split <;> rfl
   | some bQ=>
     subst fT
     simp [execOp,Instr.sliceAt,Instr.slice,Instr.sliceBounds,h1,aJ,run_underlying hu,Go.sizeOf,typeInfo,ej,dK,kI,aq _ (of_int.1 (ak a W s)),hH _ (of_int.1 (bQ a W s))]
     split <;> rfl
theorem ahE {f:FuncId}{fn:Func}{p q T U cap cap' i j e tR bD YV fi z1 YW qz:Nat}{α:Type}[ah α]{xs vs:List α}(FD:Nat.beq (ah.size α) 0=false)
 (aT:c.P.funcs[f]? =some fn) (aid:(fn.name== "runtime.NumGoroutine")=false) (hb:fn.body.isNone=true) (aH:Extern.findNext fn=none)
 (he:Extern.find fn=some (Extern.SlicesOverlaps.overlaps #[t,t] #[tR])) (hu:c.P.underlying t=some (.slice e)) (eH:bO c.P e α)
 (al:aN c E L x (.eq (.slice (some ⟨q,YW,none⟩) bD YV))) (aR:aN c E L y (.eq (.slice (some ⟨p,qz,none⟩) fi z1)))
 (ao:L[i]? =some ⟨some p,.row T xs cap⟩) (aB:L[j]? =some ⟨some q,.row U vs cap'⟩) (JX:p≠q) (xc:0<cap):
 bc c E L ⟨d,.call ⟨.value (.func f),#[x,y],#[t,t]⟩,ty,pos,af,g⟩ (.of false):= .pure fun a W s=>by
 obtain⟨o,bg,cs,rfl,g1,g2,g3,g4⟩:=s.own _ (List.mem_of_getElem? ao)
 obtain⟨o',vJ,eP,rfl,aL,bz,cR,hh⟩:=s.own _ (List.mem_of_getElem? aB)
 obtain⟨gP,ej,dK⟩:=eH.info
 have h1:a.eval x=_:=al a W s
 have ab:a.eval y=_:=aR a W s
 have s0:ah.size α≠0:=fun h=>by rw [h] at FD;cases FD
 have de:cs.size≠0:=by rw [g1];exact Nat.mul_ne_zero (by omega) s0
 have O7:=Lib.run_overlaps_apart (P:=c.P) W t tR e hu (ah.size α) (fun w=>by simp [Go.sizeOf,typeInfo,ej,dK]) ⟨q,YW,none⟩ ⟨p,qz,none⟩ bD YV fi z1 (fun h=>JX h.symm) U T eP.size cs.size
  (by simp [World.shape?,vJ]) (by simp [World.shape?,bg]) de (by simp [World.frozen?,vJ]) (by simp [World.frozen?,vJ])
 refine⟨.bool false,?_,by exact of_bool.2 rfl⟩
 have bq:a.eval (.func f)= .func (.func f) #[] #[]:=rfl
 simp [execOp,resolve,Deferred.ofValue,bq,invoke,run_callFunc_extern aT aid hb aH he,h1,ab,O7]
theorem J.ajN {α:Type}[ah α]{rest:List Oper}{ba i e bytes cap m k p T:Nat}{h3:IntKind}{xs:List α}{z:α}(hu:c.P.underlying t=some (.slice e))(mZ:c.P.underlying t2=some (.int h3))(eH:bO c.P e α)(gU:dp c.P e z)(FD:Nat.beq (ah.size α) 0=false)
 (zC:(c.P.info? e).map (·.bytes)=some bytes) (al:aN c E L x (.eq (iY (some p) 0 m cap (ah.size α)))) (aR:aN c E L y (.of (k:Int))) (aq:L[i]? =some ⟨some p,.row T xs cap⟩) (hm:m≤xs.length) (hk:0<k) (bA:cap<m+k)
 (q7:(m+k) * bytes≤140737488355328) (mB:m+k≤maxLen) (aH:Nat.blt ba c.n=true)
 (kG:∀ q cap',J c ops Q rest ((ba,.eq (aJ (some q) (m+k) cap'))::E) (⟨some q,.row e (xs.take m++List.replicate k z) cap'⟩::L)):
 J c ops Q (⟨some ba,.call ⟨.builtin .append,#[x,y],#[t,t2]⟩,ty,pos,af,none⟩::rest) E L:=fun a W s=>by
 obtain⟨gP,dY,ej,bF,uj⟩:=gU.zero
 have pC:gP.size=ah.size α:=by
  obtain⟨i2,h1,ab⟩:=eH.info;rw [ej] at h1;cases h1;exact ab
 have M3:gP.bytes=bytes:=by simpa [ej] using zC
 subst M3
 have zD:dY.cells.size=ah.size α:=by have:=ah.len (uj [] W).2;simpa using this
 have s0:ah.size α≠0:=fun h=>by rw [h] at FD;cases FD
 have hL:ba<c.n:=by simpa using aH
 have h1:a.eval x= .slice (some ⟨p,0,none⟩) m cap:=by
  have:=al a W s;rw [Bm] at this;exact this
 obtain⟨o,bg,cs,rfl,g1,g2,g3,g4⟩:=s.own _ (List.mem_of_getElem? aq)
 have sZ:maxLen=9223372036854775807:=rfl
 have ab:a.eval y= .int .i64 k:=of_int.1 (aR a W s)
 have akF:=Ih hm (⟨cs,rfl,g1,g2,g3,g4⟩:(eG.row T xs cap).holds (aP L++c.bZ) W (.cells cs T (0,0)))
 obtain⟨amh,ar,_,_,_,Gb⟩:=akF
 cases ar
 have Ow:(xs.take m).length=m:=by rw [List.length_take];omega
 rw [Ow] at Gb
 have y6:∀ (j:Nat) u,(cs.toList.take (m * ah.size α))[j]? =some u→W.drew.cell? ((⟨p,0,none⟩:Addr).add j)=some u:=by
  intro j u oj;rw [List.getElem?_take] at oj;split at oj
  ·rw [kI,Nat.zero_add,cell_of_row W.drew p j cs T (0,0) bg];simpa using oj
  cases oj
 have hold:=run_loadCells_list (P:=c.P) W.drew ⟨p,0,none⟩ _ y6
 rw [Gb.1,Ow] at hold
 have aA:=Lib.run_append_grow_zeros (P:=c.P) W t t2 ty e gP dY .i64 h3 hu mZ ej bF (some ⟨p,0,none⟩) m cap _ (by simp only [Builtin.firstCells];rw [pC];exact hold) k hk (by omega) bA (by omega)
  (by have:k * gP.bytes≤ (m+k) * gP.bytes:=Nat.mul_le_mul_right _ (by omega)
      omega) (growslice_fits bA q7)
 have vN:=grownCap_ge W (m+k) cap e
 have hle:=grownCap_le_maxLen W (m+k) cap e mB
 have J4:=uj (aP L++c.bZ) W
 have s6:=Ey J4 k s0
 have O4:Builtin.zeroCells dY.cells k=(Array.range (k * ah.size α)).map (dY.cells[· % dY.cells.size]!):=by rw [Builtin.zeroCells,zD]
 rw [← O4] at s6
 have vo:=(wF Gb s6).mono (Ext.dO (Fr.drew W))
 have hlen:(xs.take m++List.replicate k z).length=m+k:=by rw [List.length_append,Ow,List.length_replicate]
 have bW:=(s.world (Fr.drew W)).alloc (o:= .cells ((cs.toList.take (m * ah.size α)).toArray++Builtin.zeroCells dY.cells k++Builtin.zeroCells dY.cells (grownCap W (m+k) cap e - (m+k))) e)
  (cp:= .row e (xs.take m++List.replicate k z) (grownCap W (m+k) cap e))
  (Mf (T:=e) vo (ds:=(Builtin.zeroCells dY.cells (grownCap W (m+k) cap e - (m+k))).toList) (by rw [Array.length_toList,size_zeroCells,zD,hlen]) (by rw [hlen];exact vN) hle (by simp))
 refine iP rfl (R:=fun v il=>v=aJ (some W.heap.size) (m+k) (grownCap W (m+k) cap e)∧il=W.drew.alloc (.cells ((cs.toList.take (m * ah.size α)).toArray++Builtin.zeroCells dY.cells k++Builtin.zeroCells dY.cells (grownCap W (m+k) cap e - (m+k))) e)) (.mv ?_ ⟨rfl,rfl⟩) fun v il ⟨bb,hw⟩=>?_
 ·simp only [execOp,resolve,invoke,builtin,Sem.run_bind,Sem.run_pure,Result.andThen_ok]
  have ar:(#[x,y]:Array Operand).map a.eval= #[a.eval x,a.eval y]:=by simp
  rw [ar,h1,ab,aA]
  rfl
 subst bb
 subst hw
 exact kG _ _ _ _ (bW.put hL rfl)
theorem aw.some {code:Code}{i T cap:Nat}{key:Option Nat}{α:Type}[ah α]{xs:List α}(aq:L[i]? =Option.some ⟨key,.row T xs cap⟩)(al:0<xs.length)(k:∀ p,key=Option.some p→xs.length≤cap→cap≤maxLen→aw c Q code E L):aw c Q code E L:=fun a W s=>by
 obtain⟨p,cs,rfl,e7,g1,g2,g3,g4⟩:=s.rowAt aq al;exact k p rfl g2 g3 a W s
theorem aw.apart {code:Code}{p q:Nat}{cp cp':eG}{L':List aF}(aq:L=⟨Option.some p,cp⟩::⟨Option.some q,cp'⟩::L')(k:p≠q→aw c Q code E L):aw c Q code E L:=fun a W s=>by
 refine k (fun e=>?_) a W s;have:=s.nodup;rw [aq,e] at this;simp [aP] at this
theorem Mj {s:Nat}{τ:I} :look ((s,τ)::E) s=some τ:=by
 show(bif Nat.beq s s then some τ else look E s)=some τ;rw [Nat.beq_refl];rfl
theorem TH {s u:Nat}{τ:I}(h:Nat.beq s u=false):look ((s,τ)::E) u=look E u:=by
 show(bif Nat.beq s u then some τ else look E u)=look E u;rw [h];rfl
def I.both (τ σ:I):I where
 holds A W v:=τ.holds A W v∧σ.holds A W v
 mono e h:=⟨τ.mono e h.1,σ.mono e h.2⟩
theorem J.af5 {rest:List Oper}{s z6 i j p o T cap:Nat}{key:Option Nat}{β α:Type}[ah β][ah α]{b b':β}{xs:List α}(l:aK β (List α))(dP:bO c.P t (List α))
 (al:look E z6=some (.eq (.pointer (some ⟨p,o,none⟩)))) (hs:Nat.beq s z6=false) (aR:look E s=some (.eq (aJ key xs.length cap)))
 (ao:L[i]? =some ⟨some p,.var b⟩) (aB:L[j]? =some ⟨key,.row T xs cap⟩) (fS:Nat.beq j i=false) (bg:o=l.off) (hb:l.set b xs=b')
 (k:J c ops Q rest E ((L.set j ⟨none,.dead⟩).set i ⟨some p,.var b'⟩)):J c ops Q (⟨none,.store t (.tmp z6) (.tmp s),ty,pos,af,none⟩::rest) E L:=fun a W st=>by
 have aE:∀ t τ,look ((s,I.both (.eq (aJ key xs.length cap)) (.of xs))::E) t=some τ→ (s=t∧τ=I.both (.eq (aJ key xs.length cap)) (.of xs))∨look E t=some τ:=fun t τ h=>by
  simp only [look] at h;by_cases e:Nat.beq s t=true
  ·rw [e] at h;simp only [cond_true,Option.some.injEq] at h;exact .inl ⟨eS.1 e,h.symm⟩
  simp only [Bool.not_eq_true] at e;rw [e] at h;exact .inr h
 have hk:=st.kill j
 have aT:=st.freeze aR aB
 have akG:∀ t τ,look ((s,I.both (.eq (aJ key xs.length cap)) (.of xs))::E) t=some τ→ ∃ v,a.tmps[t]? =some v∧τ.holds (aP (L.set j ⟨none,.dead⟩)++c.bZ) W v:=fun t τ h=>by
  rcases aE t τ h with⟨rfl,rfl⟩ | h
  ·obtain⟨v,h1,ab⟩:=aT.env s (.of xs) Mj;obtain⟨GR,ax,aO⟩:=hk.env s _ aR;rw [h1] at ax;simp only [Option.some.injEq] at ax;subst ax;exact⟨v,h1,aO,ab⟩
  exact hk.env t τ h
 have aie:bI c ((s,I.both (.eq (aJ key xs.length cap)) (.of xs))::E) (L.set j ⟨none,.dead⟩) a W:= { hk with env:=akG }
 have de:j≠i:=fun e=>by rw [eS.2 e] at fS;cases fS
 refine(J.store (c:=c) (E:=(s,I.both (.eq (aJ key xs.length cap)) (.of xs))::E) (L:=L.set j ⟨none,.dead⟩) (i:=i) (p:=p) (b:=b) (b':=b') (v:=xs) l dP
  (ae ((TH hs).trans al)) (fun a W h=>?_) (by rw [List.getElem?_set_ne de];exact ao) bg hb (fun a W h=>k a W (h.less fun t τ bw=>?_))) a W aie
 ·obtain⟨v,h1,ab⟩:=h.env s _ Mj
  have e:a.eval (.tmp s)=v:=by simp [Act.eval,h1]
  rw [e];exact ab.2
 by_cases e:Nat.beq s t=true
 ·have:=eS.1 e
  subst this
  rw [aR] at bw
  simp only [Option.some.injEq] at bw
  subst bw
  exact⟨_,Mj,fun A W v h=>h.1⟩
 simp only [Bool.not_eq_true] at e
 exact⟨τ,(TH e).trans bw,fun _ _ _ h=>h⟩
theorem J.aex {rest:List Oper}{s z6 i j p o T cap:Nat}{key:Option Nat}{β α:Type}[ah β][ah α]{b b':β}{xs:List α}(l:aK β (List α))(dP:bO c.P t (List α))
 (al:look E z6=some (.eq (.pointer (some ⟨p,o,none⟩)))) (hs:Nat.beq s z6=false) (aR:look E s=some (.eq (aJ key xs.length cap)))
 (ao:L[i]? =some ⟨some p,.var b⟩) (aB:L[j]? =some ⟨key,.row T xs cap⟩) (fS:Nat.beq j i=false) (bg:o=l.off) (hb:l.set b xs=b')
 (k:J c ops Q rest E ((L.set i ⟨some p,.var b'⟩).set j ⟨none,.dead⟩)):J c ops Q (⟨none,.store t (.tmp z6) (.tmp s),ty,pos,af,none⟩::rest) E L:=
 J.af5 l dP al hs aR ao aB fS bg hb (by rw [List.set_comm _ _ (fun e=>by rw [eS.2 e] at fS;cases fS)];exact k)
theorem SM {α γ:Type}[ah α][ah γ]{A W}{cs:List Value}{x:α}{os:List (Nat×Value)}{u:Value}(l:aK α (List γ))(h:mU A W cs x os)(hq:(l.off,u)∈os):mU A W cs (l.set x []) os:=by
 refine⟨?_,h.2⟩;have h1:=l.nr (ds:= [lQ]) (g:=([]:List γ)) h.1 (show ah.rep A W [lQ] ([]:List γ) from by
  have:=(pf (A:=A) (W:=W) (v:=lQ) (xs:=([]:List γ))).2 (.inl ⟨rfl,rfl⟩);exact this.2)
 have hb:(blank os cs)[l.off]? =some lQ:=by
  rw [tx,if_pos (List.any_eq_true.2 ⟨_,hq,by simp⟩),(h.2 _ hq).1];rfl
 have cj:l.off<(blank os cs).length:=(List.getElem?_eq_some_iff.1 hb).1;have he:(blank os cs).take l.off++[lQ]++(blank os cs).drop (l.off+ah.size (List γ))=blank os cs:=by
  show(blank os cs).take l.off++[lQ]++(blank os cs).drop (l.off+1)=blank os cs;have ab:(blank os cs)[l.off]=lQ:=(List.getElem?_eq_some_iff.1 hb).2;rw [← ab,List.append_assoc,List.singleton_append,List.getElem_cons_drop,List.take_append_drop]
 rwa [he] at h1
theorem J.JR {GQ:List Oper}{p:Nat}{β γ:Type}[ah β][ah γ]{b b':β}{os:List (Nat×Value)}{u:Value}(l:aK β (List γ))(i q:Nat)(aq:L[i]? =some ⟨some p,.ch b os⟩)(hq:os[q]? =some (l.off,u))(hb:l.set b []=b')
 (k:J c ops Q GQ E (L.set i ⟨some p,.ch b' os⟩)):J c ops Q GQ E L:=fun a W s=>
 k a W (s.again aq (fun A W o ⟨cs,T,h1,ab⟩=>⟨cs,T,h1,hb ▸ SM l ab (List.mem_of_getElem? hq)⟩) id)
theorem aj.JR {z:Exit}{p:Nat}{β γ:Type}[ah β][ah γ]{b b':β}{os:List (Nat×Value)}{u:Value}(l:aK β (List γ))(i q:Nat)(aq:L[i]? =some ⟨some p,.ch b os⟩)(hq:os[q]? =some (l.off,u))(hb:l.set b []=b')
 (k:aj c Q z E (L.set i ⟨some p,.ch b' os⟩)):aj c Q z E L:=fun a W s=>
 k a W (s.again aq (fun A W o ⟨cs,T,h1,ab⟩=>⟨cs,T,h1,hb ▸ SM l ab (List.mem_of_getElem? hq)⟩) id)
end
def Fz {α:Type}(bytes:Nat)(xs:List α)(i:Int)(vs:List α):Option (List α):=
 if 0≤i∧i≤xs.length∧0<vs.length∧ (xs.length+vs.length) * bytes≤140737488355328∧xs.length+vs.length≤maxLen then some (xs.take i.toNat++vs++xs.drop i.toNat) else none
theorem acs {α:Type}{bytes:Nat}{xs vs r:List α}{i:Int}(h:Fz bytes xs i vs=some r):
 ∃ k:Nat,i=k∧k≤xs.length∧0<vs.length∧ (xs.length+vs.length) * bytes≤140737488355328∧xs.length+vs.length≤maxLen∧r=xs.take k++vs++xs.drop k:=by
 unfold Fz at h
 split at h
 ·rename_i ad
  obtain⟨h1,ab,ax,aO,a7⟩:=ad
  exact⟨i.toNat,by omega,by omega,ax,aO,a7,(by simp only [Option.some.injEq] at h;exact h.symm)⟩
 cases h
section
variable {c:cF} {E:List (Nat×I)} {L:List aF} {ops:Array Oper} {Q:Exit→Act→World→Prop} {rest:List Oper} {o:Oper} {ba:Nat}
variable {ty:TypeId} {pos:String} {af:Array Edge} {x y:Operand} {t t2:TypeId}
theorem cm {id:Nat}{l:List Oper}{y:Code}(h:J c l.toArray (Exit.then (c.wp y Q) Q) l E L):aw c Q (.seq (.region id l.toArray false) y) E L:= .seq (.fv h)
theorem cv {y:Code}(h:aw c Q y E L):J c ops (Exit.then (c.wp y Q) Q) [] E L:= .nil (.next h)
theorem hX {y z:Code}(h:aw c (Exit.then (c.wp z Q) Q) y E L):J c ops (Exit.then (c.wp (Code.seq y z) Q) Q) [] E L:= .nil (.next (.seq h))
theorem jF {id:Nat}{l:List Oper}{z:Code}(h:J c l.toArray (Exit.then (c.wp z Q) Q) l E L):J c ops (Exit.then (c.wp (Code.seq (.region id l.toArray false) z) Q) Q) [] E L:= .nil (.next (.seq (.fv h)))
theorem l8 {y:Code}(h:aw c Q y E L):aw c (Exit.then (c.wp y Q) Q) .skip E L:= .skip (.next h)
theorem az {α β:Type}{m:Option α}{f:α→Option β}{r:β}{P:Prop}(h:m.bind f=some r)(k:∀ y,m=some y→f y=some r→P):P:=(bind_some h).elim fun y h=>k y h.1 h.2
theorem nH {R:Type}{b:Bool}{A B:Option R}{r:R}{y z:Code}(h:cond b A B=some r)(bw:A=some r→aw c Q y E L)(aT:B=some r→aw c Q z E L)
 (ak:aN c E L x (.of b):=by first | exact ae rfl | exact hn _):aw c Q (.cond x y z) E L:=
 .cond ak (fun hb=>bw (gk hb h)) (fun hb=>aT (gl hb h))
theorem bj {τ:I}(h:bc c E L o τ)(k:J c ops Q rest ((ba,τ)::E) L)(bA:o.guard=none:=by rfl)(hd:o.dst=some ba:=by rfl)(aH:Nat.blt ba c.n=true:=by rfl):J c ops Q (o::rest) E L:= .v h bA hd aH k
theorem cH {τ:I}(k:J c ops Q rest ((ba,τ)::E) L)(al:aN c E L x τ:=by first | exact ae rfl | exact c9 _ | exact hn _ | exact h6 _)(aH:Nat.blt ba c.n=true:=by rfl):
 J c ops Q (⟨some ba,.move x,ty,pos,af,none⟩::rest) E L:= .v (cG al) rfl rfl aH k
theorem dW {τ:I}(k:J c ops Q rest ((ba,τ)::E) L)(al:aN c E L x τ:=by first | exact ae rfl | exact c9 _ | exact hn _ | exact h6 _)(aH:Nat.blt ba c.n=true:=by rfl):
 J c ops Q (⟨some ba,.assign x,ty,pos,af,none⟩::rest) E L:= .v (c5 al) rfl rfl aH k
theorem di {σ τ:I}(h:aN c E L x σ→bc c E L o τ)(k:J c ops Q rest ((ba,τ)::E) L)(al:aN c E L x σ:=by first | exact ae rfl | exact c9 _ | exact hn _ | exact h6 _)
 (bA:o.guard=none:=by rfl) (hd:o.dst=some ba:=by rfl) (aH:Nat.blt ba c.n=true:=by rfl):J c ops Q (o::rest) E L:= .v (h al) bA hd aH k
theorem hB {σ oo τ:I}(h:aN c E L x σ→aN c E L y oo→bc c E L o τ)(k:J c ops Q rest ((ba,τ)::E) L)(al:aN c E L x σ:=by first | exact ae rfl | exact c9 _ | exact hn _ | exact h6 _)
 (aR:aN c E L y oo:=by first | exact ae rfl | exact c9 _ | exact hn _ | exact h6 _)
 (bA:o.guard=none:=by rfl) (hd:o.dst=some ba:=by rfl) (aH:Nat.blt ba c.n=true:=by rfl):J c ops Q (o::rest) E L:= .v (h al aR) bA hd aH k
theorem pU {α:Type}[ah α]{a b:α}(e:some a=some b)(h:bc c E L o (.of a))(k:J c ops Q rest ((ba,.of b)::E) L)(bA:o.guard=none:=by rfl)(hd:o.dst=some ba:=by rfl)(aH:Nat.blt ba c.n=true:=by rfl):
 J c ops Q (o::rest) E L:= .v (h.rk (dc e)) bA hd aH k
theorem jU {i:Nat}{τs:List I}{τ:I}(k:J c ops Q rest ((ba,τ)::E) L)(al:aN c E L x (.bP τs):=by exact ae rfl)(ao:τs[i]? =some τ:=by rfl)(aH:Nat.blt ba c.n=true:=by rfl):
 J c ops Q (⟨some ba,.extract x i,ty,pos,af,none⟩::rest) E L:= .v (VP al ao) rfl rfl aH k
theorem vD {p o:Nat}{β γ:Type}[ah β][ah γ]{b:β}(j:Nat)(l:aK β γ)(dP:bO c.P t γ)(k:J c ops Q rest ((ba,.of (l.get b))::E) L)(al:aN c E L x (.eq (.pointer (some ⟨p,o,none⟩))):=by exact ae rfl)
 (aq:L[j]? =some ⟨some p,.var b⟩:=by rfl) (bg:o=l.off:=by rfl) (aH:Nat.blt ba c.n=true:=by rfl):J c ops Q (⟨some ba,.load t x,ty,pos,af,none⟩::rest) E L:= .v (gz l dP al aq bg rfl) rfl rfl aH k
theorem cB {p:Nat}{β:Type}[ah β]{b:β}(j:Nat)(dP:bO c.P t β)(k:J c ops Q rest ((ba,.of b)::E) L)(al:aN c E L x (.eq (.pointer (some ⟨p,0,none⟩))):=by exact ae rfl)
 (aq:L[j]? =some ⟨some p,.var b⟩:=by rfl) (aH:Nat.blt ba c.n=true:=by rfl):J c ops Q (⟨some ba,.load t x,ty,pos,af,none⟩::rest) E L:= .v (gz (aK.id β) dP al aq rfl rfl) rfl rfl aH k
theorem XH {p o:Nat}{β γ:Type}[ah β][ah γ]{b:β}{os:List (Nat×Value)}(j:Nat)(l:aK β γ)(dP:bO c.P t γ)(k:J c ops Q rest ((ba,.of (l.get b))::E) L)(al:aN c E L x (.eq (.pointer (some ⟨p,o,none⟩))):=by exact ae rfl)
 (aq:L[j]? =some ⟨some p,.ch b os⟩:=by rfl) (bg:o=l.off:=by rfl) (aW:tK os l.off (ah.size γ)=true:=by rfl) (aH:Nat.blt ba c.n=true:=by rfl):J c ops Q (⟨some ba,.load t x,ty,pos,af,none⟩::rest) E L:= .v (Iu l dP al aq bg rfl aW) rfl rfl aH k
theorem Cm {α:Type}[ah α][Inhabited α]{xs:List α}{e:TypeId}{i:Int}{j:Nat}(hk:idx xs.length i=some j)(hu:c.P.underlying t=some (.slice e))(eH:bO c.P e α)(k:J c ops Q rest ((ba,.ptr (au xs j))::E) L)
 (al:aN c E L x (.of xs):=by exact ae rfl) (aR:aN c E L y (.of i):=by first | exact ae rfl | exact c9 _) (aH:Nat.blt ba c.n=true:=by rfl):
 J c ops Q (⟨some ba,.indexAddr t x y,ty,pos,af,none⟩::rest) E L:= .v (rN hu eH al aR (dq hk)) rfl rfl aH k
theorem OQ {b e:Bool}{p:Prop}(k:J c ops Q rest ((ba,.of (b||e))::E) L)(al:aN c E L x (.of b):=by exact ae rfl)(aR:aN c E L y (.cond p (.of e)):=by exact ae rfl)(hp:b=false→p:=by exact fun h=>h)(aH:Nat.blt ba c.n=true:=by rfl):
 J c ops Q (⟨some ba,.pick x (.const (.bool true)) y,ty,pos,af,none⟩::rest) E L:= .v (vl al aR hp) rfl rfl aH k
theorem XI {b e:Bool}{p:Prop}(k:J c ops Q rest ((ba,.of (b&&e))::E) L)(al:aN c E L x (.of b):=by exact ae rfl)(aR:aN c E L y (.cond p (.of e)):=by exact ae rfl)(hp:b=true→p:=by exact fun h=>h)(aH:Nat.blt ba c.n=true:=by rfl):
 J c ops Q (⟨some ba,.pick x y (.const (.bool false)),ty,pos,af,none⟩::rest) E L:= .v (y2 al aR hp) rfl rfl aH k
theorem kF {τ:I}{j g:Nat}{b want:Bool}(h:b=want→bc c E L o τ)(k:J c ops Q rest ((ba,.cond (b=want) τ)::E) L)(bA:o.guard=some (j,want):=by rfl)(aB:(ops[j]?).bind (·.dst)=some g:=by rfl)(ak:look E g=some (.of b):=by rfl)
 (hd:o.dst=some ba:=by rfl) (aH:Nat.blt ba c.n=true:=by rfl):J c ops Q (o::rest) E L:= .g h bA aB ak hd aH k
theorem iB {σ τ:I}{j g:Nat}{b want:Bool}(h:aN c E L x σ→bc c E L o τ)(k:J c ops Q rest ((ba,.cond (b=want) τ)::E) L)
 (al:b=want→aN c E L x σ:=by first | exact fun hb=>cD rfl hb | exact fun _=>ae rfl | exact fun _=>c9 _ | exact fun _=>hn _)
 (bA:o.guard=some (j,want):=by rfl) (aB:(ops[j]?).bind (·.dst)=some g:=by rfl) (ak:look E g=some (.of b):=by rfl)
 (hd:o.dst=some ba:=by rfl) (aH:Nat.blt ba c.n=true:=by rfl):J c ops Q (o::rest) E L:= .g (fun hb=>h (al hb)) bA aB ak hd aH k
theorem FT {σ oo τ:I}{j g:Nat}{b want:Bool}(h:aN c E L x σ→aN c E L y oo→bc c E L o τ)(k:J c ops Q rest ((ba,.cond (b=want) τ)::E) L)
 (al:b=want→aN c E L x σ:=by first | exact fun hb=>cD rfl hb | exact fun _=>ae rfl | exact fun _=>c9 _ | exact fun _=>hn _)
 (aR:b=want→aN c E L y oo:=by first | exact fun hb=>cD rfl hb | exact fun _=>ae rfl | exact fun _=>c9 _ | exact fun _=>hn _)
 (bA:o.guard=some (j,want):=by rfl) (aB:(ops[j]?).bind (·.dst)=some g:=by rfl) (ak:look E g=some (.of b):=by rfl)
 (hd:o.dst=some ba:=by rfl) (aH:Nat.blt ba c.n=true:=by rfl):J c ops Q (o::rest) E L:= .g (fun hb=>h (al hb) (aR hb)) bA aB ak hd aH k
theorem er {α:Type}[ah α]{z:α}(gU:dp c.P t z)(k:∀ p,J c ops Q rest ((ba,.eq (.pointer (some ⟨p,0,none⟩)))::E) (⟨some p,.var z⟩::L))(aH:Nat.blt ba c.n=true:=by rfl):
 J c ops Q (⟨some ba,.alloc t,ty,pos,af,none⟩::rest) E L:= .alloc gU aH k
theorem pE {α:Type}[ah α]{z:α}(k:∀ p,J c ops Q rest ((ba,.eq (.pointer (some ⟨p,0,none⟩)))::E) (⟨some p,.var z⟩::L))(al:aN c E L x (.of z):=by first | exact ae rfl | exact c9 _ | exact hn _)(aH:Nat.blt ba c.n=true:=by rfl):
 J c ops Q (⟨some ba,.box t x,ty,pos,af,none⟩::rest) E L:= .box al aH k
theorem OP {p o:Nat}{β γ:Type}[ah β][ah γ]{b:β}{v:γ}(i:Nat)(l:aK β γ)(dP:bO c.P t γ)(k:J c ops Q rest E (L.set i ⟨some p,.var (l.set b v)⟩))(al:aN c E L x (.eq (.pointer (some ⟨p,o,none⟩))):=by exact ae rfl)
 (aR:aN c E L y (.of v):=by first | exact ae rfl | exact c9 _ | exact hn _ | exact look_nil | exact h6 _) (aq:L[i]? =some ⟨some p,.var b⟩:=by rfl) (bg:o=l.off:=by rfl):
 J c ops Q (⟨none,.store t x y,ty,pos,af,none⟩::rest) E L:= .store l dP al aR aq bg rfl k
theorem q5 {p:Nat}{β:Type}[ah β]{b v:β}(i:Nat)(dP:bO c.P t β)(k:J c ops Q rest E (L.set i ⟨some p,.var v⟩))(al:aN c E L x (.eq (.pointer (some ⟨p,0,none⟩))):=by exact ae rfl)
 (aR:aN c E L y (.of v):=by first | exact ae rfl | exact c9 _ | exact hn _ | exact look_nil | exact h6 _) (aq:L[i]? =some ⟨some p,.var b⟩:=by rfl):
 J c ops Q (⟨none,.store t x y,ty,pos,af,none⟩::rest) E L:= .store (aK.id β) dP al aR aq rfl rfl k
theorem XJ {p o:Nat}{β γ:Type}[ah β][ah γ]{b b':β}{v:γ}(i:Nat)(l:aK β γ)(dP:bO c.P t γ)(k:J c ops Q rest E (L.set i ⟨some p,.var b'⟩))(al:aN c E L x (.eq (.pointer (some ⟨p,o,none⟩))):=by exact ae rfl)
 (aR:aN c E L y (.of v):=by first | exact ae rfl | exact c9 _ | exact hn _ | exact look_nil | exact h6 _) (aq:L[i]? =some ⟨some p,.var b⟩:=by rfl) (bg:o=l.off:=by rfl) (hb:some (l.set b v)=some b'):
 J c ops Q (⟨none,.store t x y,ty,pos,af,none⟩::rest) E L:= .store l dP al aR aq bg (dc hb) k
theorem vx {f:FuncId}{xs:List Operand}{ats:Array TypeId}{τs:List I}{ρ:I}(cn:bM c.P f)(h:dZ c.P f τs ρ)(k:J c ops Q rest ((ba,ρ)::E) L)
 (al:iJ c E L xs τs:=by repeat (first | exact trivial | refine⟨ae rfl,?_⟩ | refine⟨c9 _,?_⟩ | refine⟨hn _,?_⟩ | refine⟨look_nil,?_⟩ | refine⟨h6 _,?_⟩)) (aH:Nat.blt ba c.n=true:=by rfl):
 J c ops Q (⟨some ba,.call ⟨.value (.func f),xs.toArray,ats⟩,ty,pos,af,none⟩::rest) E L:= .v (la cn h al) rfl rfl aH k
theorem ef {f:FuncId}{xs:List Operand}{ats:Array TypeId}{τs:List I}{δ:Type}{ρ:δ→I}{Lo:δ→List aF}(n:Nat)(cn:bM c.P f)(h:bJ c.P f τs (L.take n) ρ Lo)
 (k:∀ q,J c ops Q rest ((ba,ρ q)::E) (Lo q++L.drop n)) (al:iJ c E L xs τs:=by repeat (first | exact trivial | refine⟨ae rfl,?_⟩ | refine⟨c9 _,?_⟩ | refine⟨hn _,?_⟩ | refine⟨look_nil,?_⟩ | refine⟨lK,?_⟩ | refine⟨h6 _,?_⟩)) (aH:Nat.blt ba c.n=true:=by rfl):
 J c ops Q (⟨some ba,.call ⟨.value (.func f),xs.toArray,ats⟩,ty,pos,af,none⟩::rest) E L:=by
 have e:=List.take_append_drop n L
 have:=J.lj (ty:=ty) (pos:=pos) (af:=af) (ats:=ats) (xs:=xs) (Lin:=L.take n) (Lr:=L.drop n) (E:=E) (Q:=Q) (ops:=ops) cn h (by rw [e];exact al) aH k
 rwa [e] at this
theorem ia {α:Type}[ah α]{e bytes cap:Nat}{key:Option Nat}{xs ys r:List α}{z:α}(j:Nat)(hu:c.P.underlying t=some (.slice e))(eH:bO c.P e α)(gU:dp c.P e z)(h:eA bytes xs ys=some r)
 (k:∀ sT cap',J c ops Q rest ((ba,.eq (aJ sT r.length cap'))::E) (L.set j ⟨sT,.row e r cap'⟩)) (zC:(c.P.info? e).map (·.bytes)=some bytes:=by kernel_rfl)
 (hs:aN c E L x (.eq (aJ key xs.length cap)):=by first | exact ae rfl | exact lK) (aq:L[j]? =some ⟨key,.row e xs cap⟩:=by rfl) (aR:aN c E L y (.of ys):=by exact ae rfl) (aH:Nat.blt ba c.n=true:=by rfl):
 J c ops Q (⟨some ba,.call ⟨.builtin .append,#[x,y],#[t,t]⟩,ty,pos,af,none⟩::rest) E L:= .app hu eH gU zC hs aq aR h aH k
theorem q2 {place:Nat→Option (Nat×Nat)}{β:Type}[ah β]{b b':β}{γ:Type}[ah γ]{v:γ}{i:Nat}{r:List (Nat×Operand)}(l:aK β γ)(k:sJ c E L place (l.set b v) r b')
 (hp:place i=some (l.off,ah.size γ):=by rfl) (al:aN c E L x (.of v):=by first | exact ae rfl | exact c9 _ | exact hn _ | exact look_nil | exact h6 _):sJ c E L place b ((i,x)::r) b':= .cons l hp al rfl k
theorem sX {β:Type}[ah β]{z b:β}{dS:List (Nat×Operand)}{pl:Array (Nat×Nat)}(GM:fX c.P t pl)(gU:dp c.P t z)(xN:β)(aT:sJ c E L (pl[·]?) z dS b)(k:J c ops Q rest ((ba,.of xN)::E) L)(aW:ah.agg β=true:=by rfl)(hb:b=xN:=by rfl)(aH:Nat.blt ba c.n=true:=by rfl):
 J c ops Q (⟨some ba,.build t dS.toArray,ty,pos,af,none⟩::rest) E L:= .v ((kg aW GM gU aT).rk hb) rfl rfl aH k
theorem alW {α:Type}[ah α]{e n:Nat}{z:α}{dS:List (Nat×Operand)}(r:List α)(hu:c.P.underlying t=some (.slice e))(eH:bO c.P e α)(gU:dp c.P e z)(k:J c ops Q rest ((ba,.of r)::E) L)
 (aT:pn c E L (List.replicate n z) dS r:=by repeat (first | exact pn.nil | refine pn.cons (by simp) (ae rfl) ?_ | refine pn.cons (by simp) (c9 _) ?_ | refine pn.cons (by simp) (hn _) ?_ | refine pn.cons (by simp) (h6 _) ?_))
 (hs:Nat.beq (ah.size α) 0=false:=by rfl) (pM:Nat.ble (n * ah.size α) 16777216=true:=by rfl) (aH:Nat.blt ba c.n=true:=by rfl):
 J c ops Q (⟨some ba,.buildSlice t n dS.toArray,ty,pos,af,none⟩::rest) E L:= .v (w2 hu eH gU hs pM aT) rfl rfl aH k
inductive jZ (E:List (Nat×I)):List Nat→List (Nat×I)→Prop
 | nil:jZ E [] []
 | cons {t:Nat} {dk:List Nat} {τ:I} {v7:List (Nat×I)} :look E t=some τ→jZ E dk v7→jZ E (t::dk) ((t,τ)::v7)
theorem jZ.le:∀ {dk:List Nat} {fa:List (Nat×I)},jZ E dk fa→fH E fa
 | _,_,.nil=>.nil
 | _,_,.cons h k=>.same h k.le
theorem fk {code:Code}{fa:List (Nat×I)}(dk:List Nat)(k:aw c Q code fa L)(aE:jZ E dk fa:=by repeat (first | exact jZ.nil | (apply jZ.cons;rfl))):aw c Q code E L:= .le aE.le k
theorem dQ {z:Exit}{E':List (Nat×I)}{L':List aF}(n:Nat)(k:aj c Q z E' L')(aq:L.drop n=L':=by rfl)(h:fH E E':=by repeat (first | exact fH.nil | refine fH.same rfl ?_)):aj c Q z E L:= .meet n aq h k
theorem ib {σ ε γ δ:Type}{E':σ→γ→List (Nat×I)}{L':σ→γ→List aF}{xs:ε→Exit}{hi:ε→δ→List (Nat×I)}{Lx:ε→δ→List aF}{s:σ}(g:γ)(n:Nat)(aq:L.drop n=L' s g:=by rfl)
 (h:fH E (E' s g):=by repeat (first | exact fH.nil | refine fH.same rfl ?_)):aj c (ep c E' L' xs hi Lx (.inl s)) .normal E L:= .af2 g n aq h
theorem ha {σ ε γ δ:Type}{E':σ→γ→List (Nat×I)}{L':σ→γ→List aF}{xs:ε→Exit}{hi:ε→δ→List (Nat×I)}{Lx:ε→δ→List aF}{e:ε}{z:Exit}(g:δ)(n:Nat)(al:z=xs e:=by rfl)(aH:z≠ .normal:=by simp)(aq:L.drop n=Lx e g:=by rfl)
 (h:fH E (hi e g):=by repeat (first | exact fH.nil | refine fH.same rfl ?_)):aj c (ep c E' L' xs hi Lx (.inr e)) z E L:= .af3 g n al aH aq h
theorem JW {t:Nat}{p:Nat}{α:Type}[ah α]{v:α}(i:Nat)(dP:bO c.P ty α)(h:look E t=some (.eq (.pointer (some ⟨p,0,none⟩))):=by rfl)(aq:L[i]? =some ⟨some p,.var v⟩:=by rfl):pW c E L (.cell t ty) (.of v):=W7 dP h aq
theorem JS {fn:Func}{t:Nat}{τ:I}(aA:fn.results= #[.tmp t]:=by rfl)(h:look E t=some τ:=by rfl)(eC:c.ds= []:=by rfl):aj c (bodyPost c.P fn (tZ c τ)) .ret E L:= .W8 aA (Jy h) eC
theorem qj {fn:Func}{t:Nat}{τ:I}{δ:Type}{ρ:δ→I}{Lo:δ→List aF}(ba:δ)(hs:(Lo ba).Sublist L:=by repeat (first | exact List.nil_sublist _ | refine List.Sublist.cons_cons _ ?_))(aA:fn.results= #[.tmp t]:=by rfl)(h:look E t=some τ:=by rfl)(q8:ρ ba=τ:=by rfl)(eC:c.ds= []:=by rfl):
 aj c (bodyPost c.P fn (kZ c.X c.bZ c.jY ρ Lo)) .ret E L:= .eh ba hs aA q8 (dw h) eC
def iA:List aF→List (Nat×aF)→List aF
 | L,[]=>L
 | L,(i,e)::r=>iA (L.set i e) r
inductive tj:List aF→List aF→Prop
 | nil:tj [] []
 | cons {e:aF} {r s:List aF} :tj r s→tj (e::r) (e::s)
theorem tj.eq:∀ {l m:List aF},tj l m→l=m
 | _,_,.nil=>rfl
 | _,_,.cons h=>by rw [h.eq]
theorem fD {σ ε γ δ:Type}{body:Code}{N:Nat}{b:σ→Option (σ ⊕ ε)}{cg:σ}{e:ε}{fa:List (Nat×I)}{eE:List aF}(ak:dx N b cg=some e)(dk:List Nat)(u:σ→γ→List (Nat×I))(ul:σ→γ→List (Nat×aF))(xs:ε→Exit)
 (tk:ε→δ→List (Nat×I)) (s8:ε→δ→List (Nat×aF)) (g0:γ)
 (sK:∀ s r,b s=some r→ ∀ g,aw c (ep c (fun s g=>u s g++fa) (fun s g=>iA eE (ul s g)) xs (fun e d=>tk e d++fa) (fun e d=>iA eE (s8 e d)) r) body (u s g++fa) (iA eE (ul s g)))
 (pk:∀ g,aj c Q (xs e) (tk e g++fa) (iA eE (s8 e g)))
 (zI:tj L eE:=by repeat (first | exact tj.nil | apply tj.cons))
 (Gc:jZ E dk fa:=by repeat (first | exact jZ.nil | (apply jZ.cons;rfl))) (aE:fH E (u cg g0++fa):=by repeat (first | exact fH.nil | refine fH.same rfl ?_)) (aq:eE=iA eE (ul cg g0):=by rfl):aw c Q (.loop body) E L:=
 aw.Nu ak (fun s g=>u s g++fa) (fun s g=>iA eE (ul s g)) xs (fun e d=>tk e d++fa) (fun e d=>iA eE (s8 e d)) g0 (zI.eq.trans aq) aE sK pk
theorem jS {γ:Type}{b:Bool}{y z:Code}{fa:List (Nat×I)}{eE:List aF}(dk:List Nat)(u:γ→List (Nat×I))(ul:γ→List (Nat×aF))(si:∀ g,aj c Q .normal (u g++fa) (iA eE (ul g)))
 (bw:(∀ g,aj c (dE Q) .normal (u g++fa) (iA eE (ul g)))→b=true→aw c (dE Q) y E eE) (aT:(∀ g,aj c (dE Q) .normal (u g++fa) (iA eE (ul g)))→b=false→aw c (dE Q) z E eE)
 (zI:tj L eE:=by repeat (first | exact tj.nil | apply tj.cons))
 (Gc:jZ E dk fa:=by repeat (first | exact jZ.nil | (apply jZ.cons;rfl))) (ak:aN c E eE x (.of b):=by first | exact ae rfl | exact hn _):aw c Q (.cond x y z) E L:=by
 cases zI.eq
 exact aw.cb (fun g=>u g++fa) (fun g=>iA L (ul g)) ak si bw aT
section
variable {all:List tf} {w:Nat→Bool}
theorem gj {τ:I}{hyp:List aF→Prop}(al:∀ L',aN c E L' x τ:=by first | exact fun _=>ae rfl | exact fun _=>c9 _ | exact fun _=>hn _ | exact fun _=>h6 _):∀ L',hyp L'→h4 c ops E L' ⟨some ba,.move x,ty,pos,af,none⟩ τ:=fun L' _=>.v (cG (al L')) rfl
theorem H1 {σ τ:I}{hyp:List aF→Prop}(h:∀ {L'},aN c E L' x σ→bc c E L' o τ)(bA:o.guard=none:=by rfl)(al:∀ L',aN c E L' x σ:=by first | exact fun _=>ae rfl | exact fun _=>c9 _ | exact fun _=>hn _ | exact fun _=>h6 _):
 ∀ L',hyp L'→h4 c ops E L' o τ:=fun L' _=>.v (h (al L')) bA
theorem nc {σ oo τ:I}{hyp:List aF→Prop}(h:∀ {L'},aN c E L' x σ→aN c E L' y oo→bc c E L' o τ)(bA:o.guard=none:=by rfl)(al:∀ L',aN c E L' x σ:=by first | exact fun _=>ae rfl | exact fun _=>c9 _ | exact fun _=>hn _ | exact fun _=>h6 _)
 (aR:∀ L',aN c E L' y oo:=by first | exact fun _=>ae rfl | exact fun _=>c9 _ | exact fun _=>hn _ | exact fun _=>h6 _):∀ L',hyp L'→h4 c ops E L' o τ:=fun L' _=>.v (h (al L') (aR L')) bA
theorem kP {p o:Nat}{β γ:Type}[ah β][ah γ]{b:β}(i:Nat)(l:aK β γ)(dP:bO c.P t γ)(al:∀ L',aN c E L' x (.eq (.pointer (some ⟨p,o,none⟩))):=by exact fun _=>ae rfl)(aq:L[i]? =some ⟨some p,.var b⟩:=by rfl)(bg:o=l.off:=by rfl)
 (hu:tS w i 0 all=true:=by first | rfl | kernel_rfl):∀ L':List aF,(∀ (j:Nat) (e:aF),L[j]? =some e→tS w j 0 all=true→L'[j]? =some e)→h4 c ops E L' ⟨some ba,.load t x,ty,pos,af,none⟩ (.of (l.get b)):=
 fun L' zJ=>.v (gz l dP (al L') (zJ _ _ aq hu) bg rfl) rfl
theorem vA {p:Nat}{β:Type}[ah β]{b:β}(i:Nat)(dP:bO c.P t β)(al:∀ L',aN c E L' x (.eq (.pointer (some ⟨p,0,none⟩))):=by exact fun _=>ae rfl)(aq:L[i]? =some ⟨some p,.var b⟩:=by rfl)
 (hu:tS w i 0 all=true:=by first | rfl | kernel_rfl):∀ L':List aF,(∀ (j:Nat) (e:aF),L[j]? =some e→tS w j 0 all=true→L'[j]? =some e)→h4 c ops E L' ⟨some ba,.load t x,ty,pos,af,none⟩ (.of b):=
 fun L' zJ=>.v (gz (aK.id β) dP (al L') (zJ _ _ aq hu) rfl rfl) rfl
theorem vB {f:FuncId}{xs:List Operand}{ats:Array TypeId}{τs:List I}{ρ:I}{hyp:List aF→Prop}(cn:bM c.P f)(h:dZ c.P f τs ρ)
 (al:∀ L',iJ c E L' xs τs:=by intro L';repeat (first | exact trivial | refine⟨ae rfl,?_⟩ | refine⟨c9 _,?_⟩ | refine⟨hn _,?_⟩ | refine⟨look_nil,?_⟩ | refine⟨h6 _,?_⟩)):
 ∀ L',hyp L'→h4 c ops E L' ⟨some ba,.call ⟨.value (.func f),xs.toArray,ats⟩,ty,pos,af,none⟩ ρ:=fun L' _=>.v (la cn h (al L')) rfl
theorem OO {α:Type}[ah α][Inhabited α]{xs:List α}{e:TypeId}{i:Int}{j:Nat}{hyp:List aF→Prop}(hk:idx xs.length i=some j)(hu:c.P.underlying t=some (.slice e))(eH:bO c.P e α)
 (al:∀ L',aN c E L' x (.of xs):=by exact fun _=>ae rfl) (aR:∀ L',aN c E L' y (.of i):=by first | exact fun _=>ae rfl | exact fun _=>c9 _):
 ∀ L',hyp L'→h4 c ops E L' ⟨some ba,.indexAddr t x y,ty,pos,af,none⟩ (.ptr (au xs j)):=fun L' _=>.v (rN hu eH (al L') (aR L') (dq hk)) rfl
theorem al3 {s f o:Nat}{β γ:Type}[ah β][ah γ]{b:β}{hyp:List aF→Prop}(l:aK β γ)(fd:xv c.P s f o)(al:∀ L',aN c E L' x (.ptr b):=by exact fun _=>ae rfl)(bg:l.off=o:=by rfl):
 ∀ L',hyp L'→h4 c ops E L' ⟨some ba,.fieldAddr s x f,ty,pos,af,none⟩ (.ptr (l.get b)):=fun L' _=>.v (y1 l fd (al L') bg rfl) rfl
theorem xJ {α:Type}[ah α]{a b:α}{hyp:List aF→Prop}(e:some a=some b)(h:∀ L',hyp L'→bc c E L' o (.of a))(bA:o.guard=none:=by rfl):∀ L',hyp L'→h4 c ops E L' o (.of b):=fun L' aq=>.v ((h L' aq).rk (dc e)) bA
theorem fG {τ:I}{j g:Nat}{b want:Bool}{hyp:List aF→Prop}(h:∀ L',hyp L'→b=want→bc c E L' o τ)(bA:o.guard=some (j,want):=by rfl)(aB:(ops[j]?).bind (·.dst)=some g:=by rfl)(ak:look E g=some (.of b):=by rfl):
 ∀ L',hyp L'→h4 c ops E L' o (.cond (b=want) τ):=fun L' aq=>.g (h L' aq) bA aB ak
end
def ay (s:Nat)(up rd:List Nat)(τ:I):dz:=⟨some s,up,rd,[],fun _=>τ,fun _ _=>⟨none,.dead⟩⟩
section
variable {hs:List dz} {i:Nat} {up rd:List Nat}
theorem iD {τ:I}(al:∀ (hd:Nat→Hid) (E':List (Nat×I)) (L':List aF),(∀ t τ,look (kb hd hs E up) t=some τ→look E' t=some τ)→aN c E' L' x τ:=by first | exact fun _ _ _ aE=>ae (aE _ _ rfl) | exact fun _ _ _ _=>c9 _ | exact fun _ _ _ _=>hn _ | exact fun _ _ _ _=>h6 _)
 (aH:Nat.blt ba c.n=true:=by rfl):ei c ops Q hs E L i ⟨some ba,.move x,ty,pos,af,none⟩ (ay ba up rd τ):=jR rfl rfl aH fun hd E' L' aE _=>cG (al hd E' L' aE)
theorem jb {σ τ:I}(h:∀ {E' L'},aN c E' L' x σ→bc c E' L' o τ)(bA:o.guard=none:=by rfl)(hd:o.dst=some ba:=by rfl)
 (al:∀ (hd:Nat→Hid) (E':List (Nat×I)) (L':List aF),(∀ t τ,look (kb hd hs E up) t=some τ→look E' t=some τ)→aN c E' L' x σ:=by first | exact fun _ _ _ aE=>ae (aE _ _ rfl) | exact fun _ _ _ _=>c9 _ | exact fun _ _ _ _=>hn _ | exact fun _ _ _ _=>h6 _)
 (aH:Nat.blt ba c.n=true:=by rfl):ei c ops Q hs E L i o (ay ba up rd τ):=jR bA hd aH fun hd E' L' aE _=>h (al hd E' L' aE)
theorem P2 {σ oo τ:I}(h:∀ {E' L'},aN c E' L' x σ→aN c E' L' y oo→bc c E' L' o τ)(bA:o.guard=none:=by rfl)(hd:o.dst=some ba:=by rfl)
 (al:∀ (hd:Nat→Hid) (E':List (Nat×I)) (L':List aF),(∀ t τ,look (kb hd hs E up) t=some τ→look E' t=some τ)→aN c E' L' x σ:=by first | exact fun _ _ _ aE=>ae (aE _ _ rfl) | exact fun _ _ _ _=>c9 _ | exact fun _ _ _ _=>hn _ | exact fun _ _ _ _=>h6 _)
 (aR:∀ (hd:Nat→Hid) (E':List (Nat×I)) (L':List aF),(∀ t τ,look (kb hd hs E up) t=some τ→look E' t=some τ)→aN c E' L' y oo:=by first | exact fun _ _ _ aE=>ae (aE _ _ rfl) | exact fun _ _ _ _=>c9 _ | exact fun _ _ _ _=>hn _ | exact fun _ _ _ _=>h6 _)
 (aH:Nat.blt ba c.n=true:=by rfl):ei c ops Q hs E L i o (ay ba up rd τ):=jR bA hd aH fun hd E' L' aE _=>h (al hd E' L' aE) (aR hd E' L' aE)
theorem vF {p o:Nat}{β γ:Type}[ah β][ah γ]{b:β}(k:Nat)(l:aK β γ)(dP:bO c.P t γ)
 (al:∀ (hd:Nat→Hid) (E':List (Nat×I)) (L':List aF),(∀ t τ,look (kb hd hs E up) t=some τ→look E' t=some τ)→aN c E' L' x (.eq (.pointer (some ⟨p,o,none⟩))):=by exact fun _ _ _ aE=>ae (aE _ _ rfl))
 (aq:∀ hd:Nat→Hid,(gI (fun _=>true) hd 0 (hs.take i) L)[k]? =some ⟨some p,.var b⟩:=by exact fun _=>rfl) (aA:rd.contains k=true:=by rfl) (bg:o=l.off:=by rfl)
 (aH:Nat.blt ba c.n=true:=by rfl):ei c ops Q hs E L i ⟨some ba,.load t x,ty,pos,af,none⟩ (ay ba up rd (.of (l.get b))):=jR rfl rfl aH fun hd E' L' aE zJ=>gz l dP (al hd E' L' aE) (zJ _ _ (aq hd) aA) bg rfl
theorem Cp {p:Nat}{β:Type}[ah β]{b:β}(k:Nat)(dP:bO c.P t β)
 (al:∀ (hd:Nat→Hid) (E':List (Nat×I)) (L':List aF),(∀ t τ,look (kb hd hs E up) t=some τ→look E' t=some τ)→aN c E' L' x (.eq (.pointer (some ⟨p,0,none⟩))):=by exact fun _ _ _ aE=>ae (aE _ _ rfl))
 (aq:∀ hd:Nat→Hid,(gI (fun _=>true) hd 0 (hs.take i) L)[k]? =some ⟨some p,.var b⟩:=by exact fun _=>rfl) (aA:rd.contains k=true:=by rfl)
 (aH:Nat.blt ba c.n=true:=by rfl):ei c ops Q hs E L i ⟨some ba,.load t x,ty,pos,af,none⟩ (ay ba up rd (.of b)):=jR rfl rfl aH fun hd E' L' aE zJ=>gz (aK.id β) dP (al hd E' L' aE) (zJ _ _ (aq hd) aA) rfl rfl
theorem o2 {τ:I}(h:∀ (hd:Nat→Hid) (E':List (Nat×I)) (L':List aF),(∀ t τ,look (kb hd hs E up) t=some τ→look E' t=some τ)→ (∀ j e,(gI (fun _=>true) hd 0 (hs.take i) L)[j]? =some e→rd.contains j=true→L'[j]? =some e)→bc c E' L' o τ)
 (bA:o.guard=none:=by rfl) (hd:o.dst=some ba:=by rfl) (aH:Nat.blt ba c.n=true:=by rfl):ei c ops Q hs E L i o (ay ba up rd τ):=jR bA hd aH h
end
end
theorem H7 {F:Fence}{n qE:Nat}{P:Program}{code:Code}{Q:Exit→Act→World→Prop}{a:Act}{W:World}(hd:F.depth=none)(h:code.wpIn F n P Q a W):code.wpIn F qE P Q a W:=
 fun b k cs kB hb _=>h b k cs kB hb (fun d hd'=>by rw [hd] at hd';cases hd')
def eG.is (o:Obj):eG where
 holds _ _ x:=x=o
 oM:=False
 mono _ h:=h
abbrev eG.gf:eG:= .is (.deferred (some []))
def I.lv (f:FuncId)(τs:List I):I where
 holds A W v:= ∃ fi:List Value,v= .func (.func f) #[] fi.toArray∧ho A W τs fi
 mono e h:=let⟨fi,h1,ab⟩:=h; ⟨fi,h1,ab.mono e⟩
theorem bI.sU {c E L a W}(h:bI c E L a W){i p:Nat}{cp cp':eG}(ao:L[i]? =some ⟨some p,cp⟩){o':Obj}(ad:cp'.holds (aP L++c.bZ) W o'):
 bI c E (L.set i ⟨some p,cp'⟩) a (W.putObj p o'):=by
 have ig:aP (L.set i ⟨some p,cp'⟩)=aP L:=IT (cp:=cp') ao
 have hp:p∈aP L:=rH.2 ⟨_,List.mem_of_getElem? ao,rfl⟩
 have iz:Ext (aP L++c.bZ) W (aP L++c.bZ) (W.putObj p o'):=
  ⟨by simp,fun k _ aW=>World.putObj_heap_other (fun e=>aW (e ▸ List.mem_append.2 (.inl hp))),fun _ h _=>h⟩
 exact
 {defers:=h.defers
  size:=h.size
  env:=fun t τ ak=>by rw [ig];exact let⟨v,h1,ab⟩:=h.env t τ ak; ⟨v,h1,τ.mono iz ab⟩
  dO:=⟨h.dO.os,h.dO.tape,h.dO.output,h.dO.drawn,by simpa using h.dO.size,fun k hk al=>by
   rw [World.putObj_heap_other (fun e:k=p=>al (by subst e;exact h.gL _ hp hk))];exact h.dO.block k hk al⟩
  own:=fun e he=>by
   rw [ig];obtain⟨j,aB⟩:=List.mem_iff_getElem?.1 he;rw [List.getElem?_set] at aB;split at aB
   ·rename_i fS;subst fS;split at aB
    ·simp only [Option.some.injEq] at aB;subst aB;exact⟨_,World.putObj_heap_same (h.lt p hp),cp'.mono iz ad⟩
    cases aB
   rename_i fS;have h1:=h.own e (List.mem_of_getElem? aB);unfold aF.ok at *;split at h1
   ·rename_i q hq;obtain⟨o',vJ,bQ⟩:=h1;have de:q≠p:=fun e'=>fS (M1 h.nodup ao aB rfl (e' ▸ hq));exact⟨o',by rw [World.putObj_heap_other de];exact vJ,eG.mono _ iz bQ⟩
   exact h1
  nodup:=by rw [ig];exact h.nodup
  lt:=by rw [ig];simpa using h.lt
  gL:=by rw [ig];exact h.gL
  e6:=by rw [ig];simpa using h.e6 }
theorem I6 {c:cF}{E:List (Nat×I)}{L:List aF}{d:Option Tmp}{ty:TypeId}{pos:String}{af:Array Edge}{g:Option (Nat×Bool)}{f:FuncId}{xs:List Operand}{τs:List I}(al:iJ c E L xs τs):
 bc c E L ⟨d,.makeFunc (.func f) #[] xs.toArray,ty,pos,af,g⟩ (.lv f τs):= .pure fun a W s=>
 ⟨.func (.func f) #[] (xs.map a.eval).toArray,by simp [execOp,Instr.makeFunc],_,rfl,al.holds a W s⟩
structure FE (A:List Nat)(W:World)(L:List aF):Prop where
 e6:∀ k∈A,k<W.heap.size∧k ∉ aP L
 nodup:(aP L).Nodup
 lt:∀ k∈aP L,k<W.heap.size
 ok:∀ e∈L,e.ok (aP L++A) W
def J6 (P:Program)(u:Value){α σ ε γ:Type}(τ:α→I)(Ls:σ→γ→List aF)(Lx:ε→γ→List aF)(step:α→σ→Option (σ ⊕ ε))(R:List Nat→World→Prop):Prop:=
 ∃ l,u= .func (.yield l) #[] #[]∧ ∀ x s r,step x s=some r→ ∀ g A W v,R (aP (Ls s g)++A) W→FE A W (Ls s g)→ (τ x).holds (aP (Ls s g)++A) W v→
   YieldAt Fence.wide 8 P l #[v] W (match r with
    | .inl cf=>kZ (aP (Ls s g)) A W (fun _:γ=>I.of true) (fun g=>Ls cf g)
    | .inr q=>kZ (aP (Ls s g)) A W (fun _:γ=>I.of false) (fun g=>Lx q g))
def Lr {σ ε γ:Type}(Ls:σ→γ→List aF)(Lx:ε→γ→List aF):σ ⊕ ε→γ→List aF
 | .inl s,g=>Ls s g
 | .inr q,g=>Lx q g
section
variable {c:cF} {E:List (Nat×I)} {L:List aF} {ops:Array Oper} {Q:Exit→Act→World→Prop}
variable {d:Option Tmp} {ty:TypeId} {pos:String} {af:Array Edge} {g:Option (Nat×Bool)} {x y:Operand} {t t2:TypeId}
theorem bI.VU {a:Act}{W:World}(s:bI c E L a W):Ext (c.X++c.bZ) c.jY (aP L++c.bZ) W:=
 ⟨s.dO.size,fun k hk aW=>s.dO.block k hk fun al=>aW (List.mem_append.2 (.inl al)),fun k hm cj=>by
   rcases List.mem_append.1 hm with hm | hm
   ·exact List.mem_append.2 (.inl (s.gL k hm cj))
   exact List.mem_append.2 (.inr hm)⟩
theorem bI.JI {a:Act}{W:World}{Lin Lr:List aF}(s:bI c E (Lin++Lr) a W):FE (aP Lr++c.bZ) W Lin:=by
 have mz:=s.nodup;rw [ff] at mz;obtain⟨om,qp,q9⟩:=List.nodup_append.1 mz;exact
 {e6:=fun k hm=>by
   rcases List.mem_append.1 hm with hm | hm
   ·exact⟨s.lt k (by rw [ff];exact List.mem_append.2 (.inr hm)),fun h=>q9 k h k hm rfl⟩
   obtain⟨h1,ab⟩:=s.e6 k hm;exact⟨h1,fun h=>ab (by rw [ff];exact List.mem_append.2 (.inl h))⟩
  nodup:=om
  lt:=fun k hm=>s.lt k (by rw [ff];exact List.mem_append.2 (.inl hm))
  ok:=fun e he=>aF.uS (s.own e (List.mem_append.2 (.inl he))) (.drop fun k hm=>by
   rw [ff];simp only [List.mem_append] at hm ⊢;rcases hm with hm | hm | hm
   ·exact .inl (.inl hm)
   ·exact .inl (.inr hm)
   exact .inr hm) fun _ _=>rfl }
theorem Bw {Lin Lr:List aF}{A:List Nat}{W:World} :Ext (aP (Lin++Lr)++A) W (aP Lin++(aP Lr++A)) W:= .drop fun k hm=>by
 rw [ff];simp only [List.mem_append] at hm ⊢;rcases hm with hm | hm | hm
 ·exact .inl (.inl hm)
 ·exact .inl (.inr hm)
 exact .inr hm
theorem Ij {Lin Lr:List aF}{A:List Nat}{W:World} :Ext (aP Lin++(aP Lr++A)) W (aP (Lin++Lr)++A) W:= .drop fun k hm=>by
 rw [ff] at hm;simp only [List.mem_append] at hm ⊢;rcases hm with(hm | hm) | hm
 ·exact .inl hm
 ·exact .inr (.inl hm)
 exact .inr (.inr hm)
theorem J.yield {rest:List Oper}{ba wg:Nat}{ats:Array TypeId}{u:Value}{α σ ε γ:Type}{τ:α→I}{Ls:σ→γ→List aF}{Lx:ε→γ→List aF}{step:α→σ→Option (σ ⊕ ε)}{Lin:List aF}{x:Operand}{v:α}{s:σ}{gg:γ}{r:σ ⊕ ε}
 (ad:c.rd=none) (aR:J6 c.P u τ Ls Lx step (fun cM W'=>Ext (c.X++c.bZ) c.jY cM W')) (aT:look E wg=some (.eq u)) (al:aN c E (Lin++Ls s gg) x (τ v)) (aA:step v s=some r) (aH:Nat.blt ba c.n=true)
 (aL:∀ cf,r= .inl cf→ ∀ dT,J c ops Q rest ((ba,.of true)::E) (Lin++Ls cf dT)) (bz:∀ q,r= .inr q→ ∀ dT,J c ops Q rest ((ba,.of false)::E) (Lin++Lx q dT)):
 J c ops Q (⟨some ba,.call ⟨.value (.tmp wg),#[x],ats⟩,ty,pos,af,none⟩::rest) E (Lin++Ls s gg):=fun a W st=>by
 obtain⟨l,rfl,aR⟩:=aR
 obtain⟨P8,h1,ab⟩:=st.env wg _ aT
 have hu:P8= .func (.yield l) #[] #[]:=ab
 subst hu
 have rb:bI c E (Ls s gg++Lin) a W:=st.perm List.perm_append_comm
 have bb:=al a W st
 have vO:(τ v).holds (aP (Ls s gg)++(aP Lin++c.bZ)) W (a.eval x):=(τ v).mono (.drop fun k hm=>by
  rw [ff];simp only [List.mem_append] at hm ⊢;rcases hm with hm | hm | hm
  ·exact .inl (.inr hm)
  ·exact .inl (.inl hm)
  exact .inr hm) bb
 obtain⟨fn,tmps,assign,body,j7,gQ⟩:=aR v s r aA gg (aP Lin++c.bZ) W (a.eval x) (rb.VU.trans Bw) rb.JI vO
 have NV:(execOp a.eval ⟨some ba,.call ⟨.value (.tmp wg),#[x],ats⟩,ty,pos,af,none⟩).run c.P W= .ok (.round l fn tmps assign body) W:=by
  rw [← j7];simp [execOp,resolve,Deferred.ofValue,Act.eval,h1,invoke,Sem.run_bind,Sem.run_pure,Result.andThen]
 refine wpListIn_plain rfl fun K wb=>?_
 refine⟨fun _ _=>trivial,?_⟩
 rw [Oper.semAt_eq _ _ _ (fun _ h=>by cases h),NV,Oper.uponIn_round]
 refine⟨fun h=>by simp at h,?_⟩
 have O8:RoundIn c.F (9 - 1) c.P l fn tmps assign body W _:=gQ
 refine O8.mono fun e W' he=>?_
 cases r with
 | inl cf=>
   obtain⟨w,dT,rfl,s9,ax,aO,a7,bl⟩:=he
   obtain rfl:=of_bool.1 bl
   refine wb _ _ (aL cf rfl dT _ _ ?_)
   exact(((rb.after s9 ax aO a7).perm List.perm_append_comm).put (by simpa using aH) (of_bool.2 rfl))
 | inr q=>
   obtain⟨w,dT,rfl,s9,ax,aO,a7,bl⟩:=he
   obtain rfl:=of_bool.1 bl
   refine wb _ _ (bz q rfl dT _ _ ?_)
   exact(((rb.after s9 ax aO a7).perm List.perm_append_comm).put (by simpa using aH) (of_bool.2 rfl))
theorem J.dN {l:List Oper}{L2:List aF}(h:L=L2)(k:J c ops Q l E L2):J c ops Q l E L:=by subst h;exact k
theorem J.cases {l:List Oper}(b:Bool)(h1:b=true→J c ops Q l E L)(ab:b=false→J c ops Q l E L):J c ops Q l E L:=by
 cases b
 ·exact ab rfl
 exact h1 rfl
theorem aw.Nl {x:Operand}{b:Bool}{y z:Code}(ak:aN c E L x (.of b))(hb:b=true)(k:aw c Q y E L):aw c Q (.cond x y z) E L:= .cond ak (fun _=>k) fun h=>by rw [hb] at h;cases h
theorem aw.BO {x:Operand}{b:Bool}{y z:Code}(ak:aN c E L x (.of b))(hb:b=false)(k:aw c Q z E L):aw c Q (.cond x y z) E L:= .cond ak (fun h=>by rw [hb] at h;cases h) fun _=>k
def E0:Code→Exit
 | .ret=>.ret
 | .exit id=>.exit id
 | .goto t=>.goto t
 | _=>.normal
def yV:Code→Bool
 | .ret | .exit _ | .goto _=>true
 | _=>false
def Kx {σ ε γ:Type}(c:cF)(js:ε→Code)(l D:Nat)(rec:Loop)(Ls:σ→γ→List aF)(Lx:ε→γ→List aF):σ ⊕ ε→Exit→Act→World→Prop
 | .inl cf,x,a,W=>x= .normal∧ ∃ g,bI c [] (⟨some l,.is (.loop rec)⟩::⟨some D,.gf⟩::Ls cf g) a W
 | .inr q,x,a,W=>yV (js q)=true∧x=E0 (js q)∧ ∃ g,bI c [] (⟨some l,.is (.loop rec)⟩::⟨some D,.gf⟩::Lx q g) a W
def Ky (c:cF)(l:Nat)(body:Code)(Q:Exit→Act→World→Prop)(a:Act)(W:World):Prop:=
 ∃ qF,(Instr.beginRound l).run c.P W= .ok () qF∧c.wp body Q a qF
theorem aj.begin {l:Nat}{body:Code}{wa:Exit→Act→World→Prop}(i:Nat){r:Loop}(aq:L[i]? =some ⟨some l,.is (.loop r)⟩)(aA:r.state= .ready)
 (k:aw c Q body E (L.set i ⟨some l,.is (.loop { r with state:= .busy })⟩)):aj c (Exit.then (Ky c l body Q) wa) .normal E L:=fun a W s=>by
 obtain⟨o,h1,ab⟩:=s.own _ (List.mem_of_getElem? aq)
 have mb:o= .loop r:=ab
 subst mb
 exact⟨_,run_beginRound h1 aA,k _ _ (s.sU aq rfl)⟩
theorem aj.XL {σ ε γ:Type}{js:ε→Code}{l D:Nat}{rec:Loop}{Ls:σ→γ→List aF}{Lx:ε→γ→List aF}{cf:σ}(g:γ)(n:Nat)(aq:L.drop n=⟨some l,.is (.loop rec)⟩::⟨some D,.gf⟩::Ls cf g):
 aj c (Kx c js l D rec Ls Lx (.inl cf)) .normal E L:=fun a W s=>⟨rfl,g,by rw [← aq];exact(s.rR n).less (fun t τ h=>by simp [look] at h)⟩
theorem aj.afG {σ ε γ:Type}{js:ε→Code}{l D:Nat}{rec:Loop}{Ls:σ→γ→List aF}{Lx:ε→γ→List aF}{q:ε}{x:Exit}(g:γ)(n:Nat)(aB:yV (js q)=true)(al:x=E0 (js q))(aq:L.drop n=⟨some l,.is (.loop rec)⟩::⟨some D,.gf⟩::Lx q g):
 aj c (Kx c js l D rec Ls Lx (.inr q)) x E L:=fun a W s=>⟨aB,al,g,by rw [← aq];exact(s.rR n).less (fun t τ h=>by simp [look] at h)⟩
theorem aw.jump {j:Code}(aB:yV j=true)(k:aj c Q (E0 j) E L):aw c Q j E L:=by
 cases j <;> simp only [yV] at aB <;> first | cases aB | skip
 all_goals first | exact .exit k | exact .ret k | exact fun a W s=>wpIn_goto (k a W s)
theorem Rt {P:Program}{l:Nat}{R:Ending→World→Prop}{j:Code}{a:Act}{W W':World}{v:Value}(aB:yV j=true)(bl:(Instr.endRound l (some j)).run P W= .ok v W')(gQ:R (.returned v) W'):
 roundPost P l R (E0 j) a W:=by
 cases j <;> simp only [yV] at aB <;> first | exact⟨_,_,bl,gQ⟩ | cases aB
theorem bI.mark {a:Act}{W:World}(s:bI c E L a W)(D:Nat):bI { c with ds:=D::c.ds } E L { a with defers:=JE D::a.defers } W:=
 {defers:=by simp [s.defers],size:=s.size,env:=s.env,dO:=s.dO,own:=s.own,nodup:=s.nodup,lt:=s.lt,gL:=s.gL,e6:=s.e6 }
def O9 (P:Program)(f:FuncId)(τs:List I)(Lin:List aF){α σ ε γ:Type}(τ:α→I)(run:(α→σ→Option (σ ⊕ ε))→σ→Option (σ ⊕ ε))(Ls:σ→γ→List aF)(Lx:ε→γ→List aF):Prop:=
 ∀ (step:α→σ→Option (σ ⊕ ε)) (cg:σ) (g0:γ) (r:σ ⊕ ε),run step cg=some r→
   ∀ (A:List Nat) (W:World) (u:Value) (vs:List Value),FE A W (Lin++Ls cg g0)→ho (aP (Lin++Ls cg g0)++A) W τs vs→
     J6 P u τ Ls Lx step (fun cM W'=>Ext (aP (Lin++Ls cg g0)++A) W cM W')→
     Calls P f (u::vs).toArray W (kZ (aP (Lin++Ls cg g0)) A W (fun _:γ=>.bP []) (fun g=>Lin++Lr Ls Lx r g))
theorem acK {gt p:Nat}{assign body:Code}{f:FuncId}{q0:List I}{Lin:List aF}{α σ ε γ:Type}{τ:α→I}{run:(α→σ→Option (σ ⊕ ε))→σ→Option (σ ⊕ ε)}
 {Ls:σ→γ→List aF} {Lx:ε→γ→List aF} {step:α→σ→Option (σ ⊕ ε)} {cg:σ} {g0:γ} {r:σ ⊕ ε} (js:ε→Code)
 (ad:c.rd=none) (cn:bM c.P f) (bA:look E gt=some (.lv f q0)) (nf:∀ ar aU qq,O9 c.P f q0 Lin τ run (fun s g=>ar::aU::Ls s g) qq) (aA:run step cg=some r) (aq:L=Lin++Ls cg g0) (hp:Nat.blt p c.n=true)
 (tJ:∀ x s r,step x s=some r→ ∀ g (ql:World) (qx qm:List Nat) (l D:Nat) (rec:Loop),rec.state= .ready→
  aw ⟨c.P,c.n,ql,qx,qm,some l,[]⟩ (Exit.then (Ky ⟨c.P,c.n,ql,qx,qm,some l,[]⟩ l body (Kx ⟨c.P,c.n,ql,qx,qm,some l,[]⟩ js l D { rec with state:= .busy } Ls Lx r)) (fun _ _ _=>False)) assign ((p,τ x)::E) (⟨some l,.is (.loop rec)⟩::⟨some D,.gf⟩::Ls s g))
 (sL:∀ cf,r= .inl cf→ ∀ g D,aj { c with ds:=D::c.ds } Q .normal E (⟨some D,.gf⟩::(Lin++Ls cf g)))
 (Fa:∀ q,r= .inr q→ ∀ g D,aw { c with ds:=D::c.ds } Q (js q) E (⟨some D,.gf⟩::(Lin++Lx q g))):
 aw c Q (.rangeFunc (.tmp gt) #[p] assign body) E L:=fun a W st=>by
 subst aq
 refine wpIn_rangeFunc fun fn vP=>?_
 show ∃ l mark zk d aif CN args akH,(Instr.enterLoop fn a.tmps #[p] assign body c.rd).run c.P W=_∧_
 rw [ad]
 obtain⟨rec,l7⟩:∃ rec:Loop,rec= { state:= .ready,pending:=none,fn,tmps:=a.tmps,params:= #[p],assign,body,defers:=W.heap.size } :=⟨_,rfl⟩
 obtain⟨v,Gd,fi,zK,ami⟩:=st.env gt _ bA
 obtain⟨il,Ge⟩:∃ il,(W.alloc (.deferred (some []))).alloc (.loop rec)=il:=⟨_,rfl⟩
 have s1:=(st.alloc (o:= .deferred (some [])) (cp:= .gf) rfl).alloc (o:= .loop rec) (cp:= .is (.loop rec)) rfl
 rw [Ge,World.size_alloc] at s1
 obtain⟨D,ko⟩:∃ D,D=W.heap.size:=⟨_,rfl⟩
 obtain⟨l,ak⟩:∃ l,l=W.heap.size+1:=⟨_,rfl⟩
 have Gf:=run_enterLoop_outer (P:=c.P) (w:=W) fn a.tmps #[p] assign body
 rw [← l7,Ge,← ak,← ko] at Gf
 rw [← ak,← ko] at s1
 obtain⟨na,ta⟩:∃ na:σ→γ→List aF,na=fun s g=>⟨some l,.is (.loop rec)⟩::⟨some D,.gf⟩::Ls s g:=⟨_,rfl⟩
 obtain⟨qq,Gg⟩:∃ qq:ε→γ→List aF,qq=fun q g=>⟨some l,.is (.loop { rec with state:= .done,pending:=some (js q) })⟩::⟨some D,.gf⟩::Lx q g:=⟨_,rfl⟩
 have s2:bI c E (Lin++na cg g0) a il:=s1.perm (by
  rw [ta];exact(List.perm_middle.trans (List.perm_middle.cons _)).symm)
 have Pa:ho (aP (Lin++na cg g0)++c.bZ) il q0 fi:=by
  have h1:(I.lv f q0).holds (aP (Lin++na cg g0)++c.bZ) il v:=by
   obtain⟨GR,h1,ab⟩:=s2.env gt _ bA;rw [Gd] at h1;cases h1;exact ab
  obtain⟨Pb,ar,aU⟩:=h1;rw [zK] at ar;have:Pb=fi:=by injection ar with _ _ ar;injection ar with ar;exact ar.symm
  rw [← this];exact aU
 have Gh:bI c E ((Lin++na cg g0)++[]) a il:=by rw [List.append_nil];exact s2
 have Fb:=Gh.JI
 simp only [aP,List.nil_append] at Fb
 have Ox:J6 c.P (.func (.yield l) #[] #[]) τ na qq step (fun cM W'=>Ext (aP (Lin++na cg g0)++c.bZ) il cM W'):=by
  refine⟨l,rfl,fun x s k7 hs g A qF v2 iz hle bb=>?_⟩;have zl:=hle;rw [ta] at zl;obtain⟨o,dn,e5⟩:=zl.ok ⟨some l,.is (.loop rec)⟩ (by simp);have sV:o= .loop rec:=e5;subst sV;have aR:=run_yield (P:=c.P) (args:= #[v2]) dn (by rw [l7];rfl);refine⟨_,_,_,_,aR,roundIn_of_wpIn trivial ?_⟩;have ar:rec.assign=assign:=by rw [l7]
  have aU:rec.body=body:=by rw [l7]
  have cz:rec.params= #[p]:=by rw [l7]
  have eL:rec.tmps=a.tmps:=by rw [l7]
  rw [ar,aU,cz,eL];refine H7 (n:=9) rfl ?_;have NW:((#[p]:Array Tmp).zip #[v2]).foldl (fun tmps (t,a)=>tmps.setIfInBounds t a) a.tmps=a.tmps.setIfInBounds p v2:=by simp
  rw [NW];subst ta Gg;refine wpIn_mono ((tJ x s k7 hs g qF (aP (⟨some l,.is (.loop rec)⟩::⟨some D,.gf⟩::Ls s g)) A l D rec (by rw [l7])) { tmps:=a.tmps.setIfInBounds p v2,defers:= [] } qF ?_) ?_
  ·have kC:p<c.n:=by simpa using hp
   exact
   {defers:=rfl
    size:=by simp [s2.size]
    env:=fun t vI e1=>by
     simp only [look] at e1;by_cases e:Nat.beq p t=true
     ·rw [e] at e1;simp only [cond_true,Option.some.injEq] at e1;subst e1;have:=eS.1 e;subst this;exact⟨v2,by simp [s2.size,kC],bb⟩
     simp only [Bool.not_eq_true] at e;rw [e] at e1;simp only [cond_false] at e1;obtain⟨u,h1,ab⟩:=s2.env t vI e1;have de:p≠t:=fun h=>by rw [eS.2 h] at e;cases e
     exact⟨u,by rw [Array.getElem?_setIfInBounds_ne de];exact h1,vI.mono iz ab⟩
    dO:= .refl _ _
    own:=hle.ok
    nodup:=hle.nodup
    lt:=hle.lt
    gL:=fun k hk _=>hk
    e6:=hle.e6 }
  intro e a3 anW hq;cases e with
  | normal=>
    obtain⟨P9,Pc,hb⟩:=hq
    refine⟨P9,Pc,H7 (n:=9) rfl (wpIn_mono hb ?_)⟩
    intro e a5 GS J7
    have fin:∀ (jump:Option Code) {Lr:List aF},bI ⟨c.P,c.n,qF,aP (⟨some l,.is (.loop rec)⟩::⟨some D,.gf⟩::Ls s g),A,some l,[]⟩ [] (⟨some l,.is (.loop { rec with state:= .busy })⟩::⟨some D,.gf⟩::Lr) a5 GS→
     ∃ rl,(Instr.endRound l jump).run c.P GS= .ok (.bool jump.isNone) rl∧bI ⟨c.P,c.n,qF,aP (⟨some l,.is (.loop rec)⟩::⟨some D,.gf⟩::Ls s g),A,some l,[]⟩ [] (⟨some l,.is (.loop { rec with state:=if jump.isNone then .ready else .done,pending:=jump })⟩::⟨some D,.gf⟩::Lr) a5 rl:=fun jump Lr jv=>by
     obtain⟨o,h1,ab⟩:=jv.own ⟨some l,.is (.loop { rec with state:= .busy })⟩ (by simp)
     have mb:o= .loop { rec with state:= .busy } :=ab
     subst mb
     exact⟨_,run_endRound jump h1,jv.sU (i:=0) rfl rfl⟩
    cases k7 with
    | inl cf=>
      obtain⟨rfl,dT,jv⟩:=J7
      obtain⟨rl,bl,kl⟩:=fin none jv
      refine⟨_,rl,bl,?_⟩
      have Pd:({ rec with state:=if (none:Option Code).isNone then .ready else .done,pending:=none } :Loop)=rec:=by rw [l7];rfl
      rw [Pd] at kl
      exact kl.ends (ρ:=fun _:γ=>I.of true) (Lo:=fun g=>⟨some l,.is (.loop rec)⟩::⟨some D,.gf⟩::Ls cf g) dT (List.Sublist.refl _) (of_bool.2 rfl)
    | inr q=>
      obtain⟨aB,rfl,dT,jv⟩:=J7
      obtain⟨rl,bl,kl⟩:=fin (some (js q)) jv
      have key:kZ (aP (⟨some l,.is (.loop rec)⟩::⟨some D,.gf⟩::Ls s g)) A qF (fun _:γ=>I.of false) (fun g=>⟨some l,.is (.loop { rec with state:= .done,pending:=some (js q) })⟩::⟨some D,.gf⟩::Lx q g) (.returned (.bool false)) rl:=
       kl.ends (ρ:=fun _:γ=>I.of false) (Lo:=fun g=>⟨some l,.is (.loop { rec with state:= .done,pending:=some (js q) })⟩::⟨some D,.gf⟩::Lx q g) dT (List.Sublist.refl _) (of_bool.2 rfl)
      exact Rt aB bl key
  | exit id=>exact hq.elim
  | goto t=>exact hq.elim
  | ret=>exact hq.elim
  | panic lI=>exact hq.elim
  | outgrown=>exact hq.elim
 have Pe:O9 c.P f q0 Lin τ run na qq:=by rw [ta];exact nf _ _ qq
 have y7:=Pe step cg g0 r aA c.bZ il (.func (.yield l) #[] #[]) fi Fb Pa Ox
 have mc:a.eval (.tmp gt)= .func (.func f) #[] fi.toArray:=by simp [Act.eval,Gd,zK]
 refine⟨l,[JE D],il,{ target:= .fn (.func f) fi.toArray,args:= #[.func (.yield l) #[] #[]] },il,f,#[.func (.yield l) #[] #[]]++fi.toArray,il,Gf,?_,fun _ _=>trivial,?_,fun h=>by simp at h,?_⟩
 ·simp only [resolve,mc]
  simp [go_sem]
 ·simp [invoke,go_sem,cn.run]
 refine CallsIn.Md ?_
 have NX:(#[.func (.yield l) #[] #[]]++fi.toArray:Array Value)=(.func (.yield l) #[] #[]::fi).toArray:=by simp
 rw [NX]
 refine y7.mono fun e Qa ⟨anX,dT,he,aT,ax,aO,a7,bl⟩=>?_
 subst he
 have rm:=Gh.after aT ax (by simpa [aP] using aO) (by simpa [aP] using a7)
 rw [List.append_nil] at rm
 cases r with
 | inl cf=>
   simp only [Lr] at rm
   subst ta
   have GU:bI c E (⟨some l,.is (.loop rec)⟩::⟨some D,.gf⟩::(Lin++Ls cf dT)) a Qa:=rm.perm (by
    exact List.perm_middle.trans (List.perm_middle.cons _))
   obtain⟨o,dn,e5⟩:=GU.own ⟨some l,.is (.loop rec)⟩ (by simp)
   have sV:o= .loop rec:=e5
   subst sV
   have oR:=run_endLoop (P:=c.P) dn (by rw [l7];simp)
   have kC:rec.pending=none:=by rw [l7]
   rw [kC] at oR
   refine⟨none,_,oR,?_⟩
   have wh:=(GU.sU (i:=0) (cp':= .is (.loop { rec with state:= .exhausted })) (o':= .loop { rec with state:= .exhausted }) rfl rfl).rR 1
   rw [kC] at wh
   exact sL cf rfl dT D _ _ (wh.mark D)
 | inr q=>
   simp only [Lr] at rm
   subst Gg
   have GU:bI c E (⟨some l,.is (.loop { rec with state:= .done,pending:=some (js q) })⟩::⟨some D,.gf⟩::(Lin++Lx q dT)) a Qa:=rm.perm (by
    exact List.perm_middle.trans (List.perm_middle.cons _))
   obtain⟨o,dn,e5⟩:=GU.own ⟨some l,.is (.loop { rec with state:= .done,pending:=some (js q) })⟩ (by simp)
   have sV:o= .loop { rec with state:= .done,pending:=some (js q) } :=e5
   subst sV
   have oR:=run_endLoop (P:=c.P) dn (by simp)
   refine⟨some (js q),_,oR,?_⟩
   have wh:=(GU.sU (i:=0) (cp':= .is (.loop { rec with state:= .exhausted,pending:=some (js q) })) (o':= .loop { rec with state:= .exhausted,pending:=some (js q) }) rfl rfl).rR 1
   exact Fa q rfl dT D _ _ (wh.mark D)
theorem abw {P:Program}{fn:Func}{R:Ending→World→Prop}{a:Act}{W:World}(h:bodyPost P fn R .ret a W):bodyPostM Fence.wide 9 P fn R .ret a W:=by
 obtain⟨h1,v,ab,ax⟩:=h;show LeavesInM Fence.wide 9 P fn a.tmps R a.defers .returning W;rw [h1];exact⟨v,ab,ax⟩
theorem aj.k0 {P:Program}{fn:Func}{R:Ending→World→Prop}(k:aj c (bodyPost P fn R) .ret E L):aj c (bodyPost P fn R) .normal E L:=fun a W s=>k a W s
theorem aj.JB {fn:Func}{R:Ending→World→Prop}(k:aj c (bodyPost c.P fn R) .ret E L):aj c (bodyPostM Fence.wide 9 c.P fn R) .ret E L:=fun a W s=>abw (k a W s)
theorem aj.JC {fn:Func}{R:Ending→World→Prop}{D:Nat}(i:Nat)(aq:L[i]? =some ⟨some D,.gf⟩)(eC:c.ds= [D])(k:aj { c with ds:= [] } (bodyPost c.P fn R) .ret E (L.set i ⟨some D,.is (.deferred none)⟩)):
 aj c (bodyPostM Fence.wide 9 c.P fn R) .ret E L:=fun a W s=>by
 obtain⟨o,h1,ab⟩:=s.own _ (List.mem_of_getElem? aq)
 have mb:o= .deferred (some []):=ab
 subst mb
 have s2:=s.sU aq (cp':= .is (.deferred none)) (o':= .deferred none) rfl
 have fV:bI { c with ds:= [] } E (L.set i ⟨some D,.is (.deferred none)⟩) { a with defers:= [] } (W.putObj D (.deferred none)):=
  {defers:=rfl,size:=s2.size,env:=s2.env,dO:=s2.dO,own:=s2.own,nodup:=s2.nodup,lt:=s2.lt,gL:=s2.gL,e6:=s2.e6 }
 obtain⟨_,v,ax,aO⟩:=k _ _ fV
 show LeavesInM Fence.wide 9 c.P fn a.tmps R a.defers .returning W
 rw [s.defers,eC]
 exact⟨by simp,.inl ⟨D,_,rfl,run_takeDeferred h1,v,ax,aO⟩⟩
end
theorem dZ.ao4 {P:Program}{f:FuncId}{fn:Func}{code:Code}{n:Nat}{τs:List I}{ρ:I}(aT:P.funcs[f]? =some fn)(hb:fn.body=some code)(aH:fn.ntmps=n)(hlen:Nat.ble τs.length n=true)
 (h:∀ W A,aw ⟨P,n,W,[],A,none,[]⟩ (bodyPostM Fence.wide 9 P fn fun e W'=> ∃ v,e= .returned v∧Fr [] W W'∧ρ.holds A W' v) code (params 0 τs) []):dZ P f τs ρ:=by
 intro A W vs eM bb
 refine(callsIn_wide (n:=9)).1 (callsIn_of_wp_marks aT hb trivial (h W A _ _ ?_))
 have ak:=bb.length
 have hle:τs.length≤n:=Nat.le_of_ble_eq_true hlen
 exact
 {defers:=rfl
  size:=by simp [aH,ak];omega
  env:=fun t τ lz=>by
   obtain⟨_,v,ab,ax⟩:=Bk bb 0 t τ lz;refine⟨v,?_,ax⟩;have cj:t<vs.length:=(List.getElem?_eq_some_iff.1 ab).1;rw [Array.getElem?_append_left (by simpa using cj)];simpa using ab
  dO:= .refl _ _
  own:=by simp
  nodup:=by simp [aP]
  lt:=by simp [aP]
  gL:=by simp [aP]
  e6:=fun k hk=>⟨eM k hk,by simp [aP]⟩ }
theorem bJ.ofM {P:Program}{f:FuncId}{fn:Func}{code:Code}{n:Nat}{τs:List I}{Lin:List aF}{δ:Type}{ρ:δ→I}{Lo:δ→List aF}(aT:P.funcs[f]? =some fn)(hb:fn.body=some code)(aH:fn.ntmps=n)(hlen:Nat.ble τs.length n=true)
 (h:∀ W A,aw ⟨P,n,W,aP Lin,A,none,[]⟩ (bodyPostM Fence.wide 9 P fn (kZ (aP Lin) A W ρ Lo)) code (params 0 τs) Lin):bJ P f τs Lin ρ Lo:=by
 intro A W vs eM kk cj jo bb
 refine(callsIn_wide (n:=9)).1 (callsIn_of_wp_marks aT hb trivial (h W A _ _ ?_))
 have ak:=bb.length
 have hle:τs.length≤n:=Nat.le_of_ble_eq_true hlen
 exact
 {defers:=rfl
  size:=by simp [aH,ak];omega
  env:=fun t τ lz=>by
   obtain⟨_,v,ab,ax⟩:=Bk bb 0 t τ lz;refine⟨v,?_,ax⟩;have cj:t<vs.length:=(List.getElem?_eq_some_iff.1 ab).1;rw [Array.getElem?_append_left (by simpa using cj)];simpa using ab
  dO:= .refl _ _
  own:=jo
  nodup:=kk
  lt:=cj
  gL:=fun k hk _=>hk
  e6:=eM }
theorem Lu {τ σ:I}(h:τ.Flat)(k:σ.Flat):(I.bP [τ,σ]).Flat:=fun A W cM W' v ⟨vs,h1,ab⟩=>by
 refine⟨vs,h1,?_⟩;generalize vs.toList=l at ab;cases ab with
 | cons a r=>cases r with
   | cons b r=>cases r;exact .cons (h _ _ _ _ _ a) (.cons (k _ _ _ _ _ b) .nil)
section
variable {c:cF} {E:List (Nat×I)} {L:List aF} {ops:Array Oper} {Q:Exit→Act→World→Prop}
variable {d:Option Tmp} {ty:TypeId} {pos:String} {af:Array Edge} {g:Option (Nat×Bool)} {x y:Operand} {t t2:TypeId}
theorem bc.via {o:Oper}{τ:I}{E':List (Nat×I)}{L':List aF}(aT:τ.Flat)(hs:∀ a W,bI c E L a W→bI c E' L' a W)(h:bc c E' L' o τ):bc c E L o τ:=fun a W st=>by
 have:=h a W (hs a W st);unfold hy at this ⊢;exact Oper.wp_mono (fun gv W' ⟨v,h1,ab,ax⟩=>⟨v,h1,ab,aT _ _ _ _ _ ax⟩) this
theorem bI.tell {a:Act}{W:World}(s:bI c E L a W){gw:Nat}{σ τ:I}(ak:look E gw=some σ)(h:∀ v,σ.holds (aP L++c.bZ) W v→τ.holds (aP L++c.bZ) W v):bI c ((gw,τ)::E) L a W:=by
 refine { s with env:=fun t vI e1=>?_ };simp only [look] at e1;by_cases e:Nat.beq gw t=true
 ·rw [e] at e1;simp only [cond_true,Option.some.injEq] at e1;subst e1;have:=eS.1 e;subst this;obtain⟨v,h1,ab⟩:=s.env gw _ ak;exact⟨v,h1,h v ab⟩
 simp only [Bool.not_eq_true] at e;rw [e] at e1;exact s.env t vI e1
theorem bI.VV {a:Act}{W:World}(s:bI c E L a W){i p:Nat}{α:Type}[ah α]{z:α}(aq:L[i]? =some ⟨some p,.var z⟩):
 (I.ptr z).holds (aP (L.set i ⟨none,.dead⟩)++c.bZ) W (.pointer (some ⟨p,0,none⟩)):=by
 obtain⟨o,e7,cs,T,rfl,aA⟩:=s.own _ (List.mem_of_getElem? aq)
 have hlen:cs.toList.length=ah.size α:=ah.len aA
 refine⟨p,0,cs,T,(0,0),rfl,s.ED aq,e7,by simp at hlen;omega,?_⟩
 rw [List.drop_zero,← hlen,List.take_length]
 have nD:=A3 (L:=L) (i:=i) (cp:= .dead)
 exact ah.mono (.drop fun k hm=>by
  rcases List.mem_append.1 hm with hm | hm
  ·exact List.mem_append.2 (.inl (nD.subset hm))
  exact List.mem_append.2 (.inr hm)) aA
abbrev Gi (f p:Nat):Value:= .func (.func f) #[.pointer (some ⟨p,0,none⟩)] #[]
theorem ahJ {f p:Nat}(al:aN c E L x (.eq (.pointer (some ⟨p,0,none⟩)))):bc c E L ⟨d,.makeFunc (.func f) #[x] #[],ty,pos,af,g⟩ (.eq (Gi f p)):= .pure fun a W s=>by
 have h:=al a W s;refine⟨_,?_,rfl⟩;have cL:a.eval x= .pointer (some ⟨p,0,none⟩):=h;simp [execOp,Instr.makeFunc,cL,Gi]
theorem aeY {f p:Nat}{α β γ δ:Type}[ah α][ah β][ah γ][ah δ]{z:δ}{F:α→β→Option γ}{P:Program}(cn:bM P f)(h:∀ x y r,F x y=some r→dZ P f [.ptr z,.of x,.of y] (.of r)){A:List Nat}{W:World}
 (hp:(I.ptr z).holds A W (.pointer (some ⟨p,0,none⟩))):(I.zv P F).holds A W (Gi f p):=
 ⟨f,_,#[],rfl,cn,fun cM W' e eM x y r nM tg mm bb zK=>by simpa using h x y r mm cM W' [_,nM,tg] eM (.cons (I.mono _ e hp) (.cons bb (.cons zK .nil)))⟩
theorem bc.Ji {o:Oper}{τ σ:I}{p:Nat}{α:Type}[ah α]{z:α}(i gw:Nat)(ak:look E gw=some σ)(bb:∀ A W v,σ.holds A W v→v= .pointer (some ⟨p,0,none⟩))(aq:L[i]? =some ⟨some p,.var z⟩)(aT:τ.Flat)
 (h:bc c ((gw,.ptr z)::E) (L.set i ⟨none,.dead⟩) o τ):bc c E L o τ:=
 .via aT (fun a W s=>(s.kill i).tell (σ:=σ) ak (fun v bQ=>by rw [bb _ _ _ bQ];exact s.VV aq)) h
theorem bc.afJ {o:Oper}{τ:I}{p f:Nat}{α β γ δ:Type}[ah α][ah β][ah γ][ah δ]{z:δ}{F:α→β→Option γ}(i gw:Nat)(ak:look E gw=some (.eq (Gi f p)))(aq:L[i]? =some ⟨some p,.var z⟩)(cn:bM c.P f)
 (mm:∀ x y r,F x y=some r→dZ c.P f [.ptr z,.of x,.of y] (.of r)) (aT:τ.Flat) (h:bc c ((gw,.zv c.P F)::E) (L.set i ⟨none,.dead⟩) o τ):bc c E L o τ:=
 .via aT (fun a W s=>(s.kill i).tell ak (fun v bQ=>by have amj:v=Gi f p:=bQ;rw [amj];exact aeY cn mm (s.VV aq))) h
theorem bc.ahI {o:Oper}{τ:I}{p cap T:Nat}{key:Option Nat}{β γ:Type}[ah β][ah γ]{b b':β}{xs:List γ}{os os':List (Nat×Value)}(l:aK β (List γ))(i j q:Nat)(fS:Nat.beq i j=false)(aq:L[i]? =some ⟨some p,.ch b os⟩)(sj:L[j]? =some ⟨key,.row T xs cap⟩)
 (hq:os[q]? =some (l.off,aJ key xs.length cap)) (hb:l.set b xs=b') (ra:tA os l.off=os') (aT:τ.Flat) (h:bc c E ((L.set j ⟨none,.dead⟩).set i ⟨some p,.ch b' os'⟩) o τ):bc c E L o τ:=
 .via aT (fun a W s=>s.mx l (fun e=>by rw [e,Nat.beq_refl] at fS;cases fS) aq sj q hq hb ra) h
theorem bc.afI {o:Oper}{τ:I}{p cap T:Nat}{key:Option Nat}{β γ:Type}[ah β][ah γ]{b b':β}{xs:List γ}{os os':List (Nat×Value)}(l:aK β (List γ))(i j q gw:Nat)(fS:Nat.beq i j=false)(aq:L[i]? =some ⟨some p,.ch b os⟩)(sj:L[j]? =some ⟨key,.row T xs cap⟩)
 (hq:os[q]? =some (l.off,aJ key xs.length cap)) (hb:l.set b xs=b') (ra:tA os l.off=os') (r8:look E gw=some (.eq (aJ key xs.length cap))) (aT:τ.Flat) (h:bc c ((gw,.of xs)::E) ((L.set j ⟨none,.dead⟩).set i ⟨some p,.ch b' os'⟩) o τ):bc c E L o τ:=
 .via aT (fun a W s=>s.Jf l (fun e=>by rw [e,Nat.beq_refl] at fS;cases fS) aq sj q hq hb ra r8) h
theorem bc.Vs {o:Oper}{τ:I}{p:Nat}{β:Type}[ah β]{b:β}(i:Nat)(aq:L[i]? =some ⟨some p,.ch b []⟩)(aT:τ.Flat)(h:bc c E (L.set i ⟨some p,.var b⟩) o τ):bc c E L o τ:=
 .via aT (fun a W s=>s.EZ (cp':= .var b) aq (fun o ⟨cs,T,h1,ab⟩=>⟨cs,T,h1,ab.1⟩) id) h
theorem Lp {P:Program}{T:TypeId}{e:TypeId}(h:P.underlying T=some (.pointer e))(p:Addr)(W:World)(n:Nat):(Op.equalIn (n+1) T (.pointer (some p)) (.pointer none)).run P W= .ok false W:=by
 simp [Op.equalIn,run_underlying h]
theorem IF {p:Addr}{e:TypeId}(hu:c.P.underlying t=some (.pointer e))(al:aN c E L x (.eq (.pointer (some p)))):bc c E L ⟨d,.binOp .eql t x (.const (.pointer none)) t2,ty,pos,af,g⟩ (.of false):= .pure fun a W s=>by
 have aH:a.eval (.const (.pointer none))= .pointer none:=rfl;have h1:a.eval x= .pointer (some p):=al a W s;refine⟨.bool false,?_,of_bool.2 rfl⟩;simp only [execOp,eqGuard,binOp,h1,aH,Op.equal,Op.maxDepth];simp [Lp hu p W 9999]
theorem aer {γ:Type}[ah γ]{r:γ}{e:TypeId}(hu:c.P.underlying t=some (.pointer e))(al:aN c E L x (.ptr r)):bc c E L ⟨d,.binOp .eql t x (.const (.pointer none)) t2,ty,pos,af,g⟩ (.of false):= .pure fun a W s=>by
 have aH:a.eval (.const (.pointer none))= .pointer none:=rfl;obtain⟨b,off,cur,T,hU,h1,_⟩:=al a W s;refine⟨.bool false,?_,of_bool.2 rfl⟩;simp only [execOp,eqGuard,binOp,h1,aH,Op.equal,Op.maxDepth];simp [Lp hu _ W 9999]
def dL (c:cF)(E:List (Nat×I))(L:List aF)(o:Oper)(τ:I):Prop:=
 ∀ a W,bI c E L a W→hy c.P o a W fun v W'=>bI c E L a W'∧τ.holds (aP L++c.bZ) W' v
theorem J.fm {o:Oper}{rest:List Oper}{d:Nat}{τ:I}(h:dL c E L o τ)(bA:o.guard=none)(hd:o.dst=some d)(aH:Nat.blt d c.n=true)
 (k:J c ops Q rest ((d,τ)::E) L):J c ops Q (o::rest) E L:=fun a W s=>
 iP bA (h a W s) fun v W' ⟨f,bb⟩=>by
  rw [hd];exact k _ _ (f.put (by simpa using aH) bb)
theorem J.te {o:Oper}{rest:List Oper}{d j g:Nat}{b want:Bool}{τ:I}(h:b=want→dL c E L o τ)(bA:o.guard=some (j,want))(aB:(ops[j]?).bind (·.dst)=some g)
 (ak:look E g=some (.of b)) (hd:o.dst=some d) (aH:Nat.blt d c.n=true)
 (k:J c ops Q rest ((d,.cond (b=want) τ)::E) L):J c ops Q (o::rest) E L:=fun a W s=>by
 have aR:=H2 aB ak s
 unfold cF.s3 wpListIn
 by_cases hb:b=want
 ·rw [if_pos (by simp [Region.wanted,bA,aR,hb])]
  refine((h hb a W s).wpIn fun v W' ⟨f,bb⟩=>?_)
  rw [hd]
  exact k _ _ (f.put (by simpa using aH) ⟨fun _=>bb,fun h=>absurd hb h⟩)
 rw [if_neg (by simp [Region.wanted,bA,aR,hb])]
 rw [hd]
 exact⟨fun _ _=>trivial,k _ _ (s.put (by simpa using aH) ⟨fun h=>absurd h hb,fun _=>rfl⟩)⟩
def r4 (L:List aF):List Nat→List aF→Prop
 | [],[]=>True
 | i::is,e::es=>L[i]? =some e∧r4 L is es
 | _,_=>False
theorem Ry {L:List aF}{i j:Nat}(h:i≠j):(L.eraseIdx i)[if j<i then j else j - 1]? =L[j]? :=by
 rw [List.getElem?_eraseIdx];by_cases h1:j<i
 ·simp [h1]
 have: ¬ (j - 1<i):=by omega
 simp only [h1,if_false,this];congr 1;omega
theorem r4.shift {L:List aF}{i:Nat} :∀ {is:List Nat} {es:List aF},r4 L is es→i ∉ is→r4 (L.eraseIdx i) (is.map fun j=>if j<i then j else j - 1) es
 | [],[],_,_=>trivial
 | j::is,e::es,⟨h1,ab⟩,aH=>by
   simp only [List.mem_cons,not_or] at aH;exact⟨by rw [Ry aH.1];exact h1,r4.shift ab aH.2⟩
theorem RC {i:Nat} :∀ {is:List Nat},is.Nodup→i ∉ is→ (is.map fun j=>if j<i then j else j - 1).Nodup
 | [],_,_=>by simp
 | j::is,h,aH=>by
   simp only [List.mem_cons,not_or] at aH;obtain⟨h1,ab⟩:=List.nodup_cons.1 h;refine List.nodup_cons.2 ⟨fun hm=>?_,RC ab aH.2⟩;obtain⟨k,hk,he⟩:=List.mem_map.1 hm;have oX:k≠i:=fun e=>aH.2 (e ▸ hk);have asc:k≠j:=fun e=>h1 (e ▸ hk);have kc:j≠i:=fun e=>aH.1 e.symm;have X7:(if k<i then k else k - 1)=(if j<i then j else j - 1):=he;split at X7 <;> split at X7 <;> omega
theorem r4.perm:∀ {is:List Nat} {es L:List aF},r4 L is es→is.Nodup→ ∃ R,L.Perm (es++R)
 | [],[],L,_,_=>⟨L,List.Perm.refl _⟩
 | i::is,e::es,L,⟨h1,ab⟩,aH=>by
   obtain⟨om,qp⟩:=List.nodup_cons.1 aH;obtain⟨R,gQ⟩:=(ab.shift om).perm (RC qp om);exact⟨R,(wH h1).trans (gQ.cons e)⟩
 termination_by is=>is.length
 decreasing_by simp
theorem dL.call {f:FuncId}{xs:List Operand}{ats:Array TypeId}{τs:List I}{Lin:List aF}{ρ:Unit→I}{Lo:Unit→List aF}(is:List Nat)(cn:bM c.P f)(h:bJ c.P f τs Lin ρ Lo)
 (al:iJ c E L xs τs) (aH:decide is.Nodup=true) (hp:r4 L is Lin) (ak:Lo ()=Lin):dL c E L ⟨d,.call ⟨.value (.func f),xs.toArray,ats⟩,ty,pos,af,g⟩ (ρ ()):=fun a W s=>by
 obtain⟨R,gQ⟩:=hp.perm (of_decide_eq_true aH)
 have cf:=s.perm gQ
 have qs:=yJ gQ
 have J8:∀ k,k∈aP L++c.bZ↔k∈aP (Lin++R)++c.bZ:=fun k=>by
  simp only [List.mem_append];rw [qs.mem_iff]
 have bQ:ho (aP (Lin++R)++c.bZ) W τs (xs.map a.eval):=(al.Uj s).mono (.drop fun k hm=>(J8 k).2 hm)
 have bg:=Ew (d:=d) (ty:=ty) (pos:=pos) (af:=af) (g:=g) (ats:=ats) cn h cf bQ
 unfold hy at bg ⊢
 refine Oper.wp_mono (fun gv W' ⟨v,h1,ba,ab,ax⟩=>⟨v,h1,?_,?_⟩) bg
 ·cases ba;rw [ak] at ab;exact ab.perm gQ.symm
 cases ba
 rw [ak] at ax
 exact I.mono _ (.drop fun k hm=>(J8 k).1 hm) ax
theorem r4.set {L:List aF}{i j:Nat}{x y ar aU:aF}(fS:i≠j)(ao:L[i]? =some ar)(aB:L[j]? =some aU):∃ R,L.Perm (ar::aU::R)∧ ((L.set i x).set j y).Perm (x::y::R):=by
 have asd:r4 L [i,j] [ar,aU]:=⟨ao,aB,trivial⟩;have hle:∀ M:List aF,∀ u v:aF,M[i]? =some u→M[j]? =some v→M.Perm (u::v::(M.eraseIdx i).eraseIdx (if j<i then j else j - 1)):=fun M u v h1 ab=>
  (wH h1).trans ((wH (by rw [Ry fS];exact ab)).cons u)
 refine⟨_,hle L ar aU ao aB,?_⟩;have hF:=(List.getElem?_eq_some_iff.1 ao).1;have r9:=(List.getElem?_eq_some_iff.1 aB).1;have h1:=hle ((L.set i x).set j y) x y (by rw [List.getElem?_set_ne (Ne.symm fS),List.getElem?_set_self hF]) (by rw [List.getElem?_set_self (by simpa using r9)]);have ab:((L.set i x).set j y).eraseIdx i=(L.eraseIdx i).set (if j<i then j else j - 1) y:=by
  apply List.ext_getElem?;intro k;simp only [List.getElem?_eraseIdx,List.getElem?_set,List.length_set,List.length_eraseIdx,hF,if_true];by_cases hk:k<i <;> by_cases kc:j<i <;> simp only [hk,kc,if_true,if_false] <;> (repeat' split) <;> first | rfl | omega | skip
 rw [ab,List.eraseIdx_set_eq] at h1;exact h1
theorem J.afK {rest:List Oper}{ba:Nat}{f:FuncId}{xs:List Operand}{ats:Array TypeId}{τs:List I}{ar aU:aF}{δ:Type}{ρ:δ→I}{Lo:δ→List aF}(lo:δ→aF)(i j:Nat)(cn:bM c.P f)(h:bJ c.P f τs [ar,aU] ρ Lo)
 (al:iJ c E L xs τs) (fS:Nat.beq i j=false) (ao:L[i]? =some ar) (aB:L[j]? =some aU) (hg:∀ q,Lo q= [lo q]) (aH:Nat.blt ba c.n=true) (k:∀ q,J c ops Q rest ((ba,ρ q)::E) ((L.set i (lo q)).set j ⟨none,.dead⟩)):
 J c ops Q (⟨some ba,.call ⟨.value (.func f),xs.toArray,ats⟩,ty,pos,af,none⟩::rest) E L:=fun a W s=>by
 have de:i≠j:=fun e=>by rw [e,Nat.beq_refl] at fS;cases fS
 obtain⟨R,gQ,_⟩:=r4.set (x:=ar) (y:=aU) de ao aB
 have cf:=s.perm gQ
 have qs:=yJ gQ
 have J8:∀ k,k∈aP L++c.bZ↔k∈aP ([ar,aU]++R)++c.bZ:=fun k=>by
  simp only [List.mem_append];rw [qs.mem_iff];simp [ff]
 have bQ:ho (aP ([ar,aU]++R)++c.bZ) W τs (xs.map a.eval):=(al.Uj s).mono (.drop fun k hm=>(J8 k).2 hm)
 refine iP rfl (Ew (Lin:= [ar,aU]) cn h cf bQ) fun v W' ⟨q,ab,ax⟩=>?_
 refine k q _ _ ?_
 obtain⟨uy,OU,r6⟩:=r4.set (x:=lo q) (y:=⟨none,.dead⟩) de ao aB
 have amk:(ar::aU::R).Perm (ar::aU::uy):=gQ.symm.trans OU
 have Xc:R.Perm uy:=(amk.cons_inv).cons_inv
 rw [hg] at ab ax
 have aO:bI c E (lo q::⟨none,.dead⟩::R) a W':= { ab with
  own:=fun e he=>by
   simp only [List.mem_cons] at he;rcases he with rfl | rfl | he
   ·exact ab.own _ (by simp)
   ·trivial
   exact ab.own _ (by simp [he]) }
 have a7:bI c E ((L.set i (lo q)).set j ⟨none,.dead⟩) a W':=aO.perm (((Xc.cons _).cons _).trans r6.symm)
 have bl:(aP ((L.set i (lo q)).set j ⟨none,.dead⟩)).Perm (aP (lo q::R)):=by
  have:=yJ (r6.trans ((Xc.symm.cons _).cons _));simpa [aP] using this
 refine a7.put (by simpa using aH) (I.mono _ (.drop fun k hm=>?_) ax)
 rcases List.mem_append.1 hm with hm | hm
 ·exact List.mem_append.2 (.inl (bl.mem_iff.1 hm))
 exact List.mem_append.2 (.inr hm)
theorem OR {L:List aF}{i:Nat}{x e:aF}(h:L[i]? =some x):(L.set i e)[i]? =some e:=by
 rw [List.getElem?_set_self (List.getElem?_eq_some_iff.1 h).1]
theorem XP {L:List aF}{i j:Nat}{r:Option aF}{e:aF}(aH:Nat.beq j i=false)(h:L[i]? =r):(L.set j e)[i]? =r:=by
 rw [List.getElem?_set_ne (fun e=>by rw [e,Nat.beq_refl] at aH;cases aH)];exact h
theorem adF {p lo cap:Nat}{α:Type}[ah α](aR:aN c E L y (.eq (iY (some p) lo 0 cap (ah.size α)))):Src c E L y 0 ([]:List α):=fun a W s=>by
 have h1:a.eval y=_:=aR a W s;have ad:=run_loadCells_list (P:=c.P) W (if cap=lo then(⟨p,0,none⟩:Addr) else⟨p,lo * ah.size α,none⟩) [] (fun j v bb=>by simp at bb);refine⟨by rw [h1];rfl,[],?_,⟨by simp,fun i ao=>by simp at ao⟩,by simp⟩;rw [h1];simp only [iY,Builtin.firstCells,List.length_nil,Nat.zero_mul];exact ad
theorem J.VW {rest:List Oper}{i e p ba m N cap T:Nat}{α:Type}[ah α]{xs vs r:List α}(hu:c.P.underlying t=some (.slice e))(eH:bO c.P e α)
 (al:aN c E L x (.eq (aJ (some p) m cap))) (aR:Src c E L y N vs) (hL:vs.length=N) (aq:L[i]? =some ⟨some p,.row T xs cap⟩) (hm:m+N≤xs.length) (aA:xs.take m++vs++xs.drop (m+N)=r) (aH:Nat.blt ba c.n=true)
 (k:J c ops Q rest ((ba,.eq (aJ (some p) (m+N) cap))::E) (L.set i ⟨some p,.row T r cap⟩)):
 J c ops Q (⟨some ba,.call ⟨.builtin .append,#[x,y],#[t,t]⟩,ty,pos,af,none⟩::rest) E L:=fun a W s=>by
 subst hL
 subst aA
 have h1:a.eval x=_:=al a W s
 obtain⟨ak,cells,ad,oq,Cv⟩:=aR a W s
 obtain⟨o,bg,bQ⟩:=s.own _ (List.mem_of_getElem? aq)
 have aml:=bQ
 obtain⟨uk,rfl,g1,g2,g3,g4⟩:=bQ
 obtain⟨cs,e5,JG,r2⟩:=LL (lo:=m) hm aml oq
 have s5:cs=uk:=by injection e5 with h _;exact h.symm
 subst s5
 obtain⟨gP,ej,dK⟩:=eH.info
 have bW:=run_storeCells_at (P:=c.P) p (m * ah.size α) T cells 0 cs W bg JG Cv
 simp only [Nat.add_zero] at bW
 have aih:m+vs.length≤cap:=by omega
 have j7:(execOp a.eval ⟨some ba,.call ⟨.builtin .append,#[x,y],#[t,t]⟩,ty,pos,af,none⟩).run c.P W= .ok (.value (aJ (some p) (m+vs.length) cap)) (W.setRow p (cs.toList.take (m * ah.size α)++cells++cs.toList.drop (m * ah.size α+cells.length)).toArray):=by
  simp [execOp,resolve,invoke,builtin,Builtin.append_,h1,aJ,run_underlying hu,ak,Go.sizeOf,typeInfo,ej,dK,aih,ad,kI,bW]
 refine iP rfl (R:=fun v il=>v=aJ (some p) (m+vs.length) cap∧il=W.setRow p (cs.toList.take (m * ah.size α)++cells++cs.toList.drop (m * ah.size α+cells.length)).toArray) (.mv j7 ⟨rfl,rfl⟩) fun v il ⟨bb,hw⟩=>?_
 subst bb
 subst hw
 exact k _ _ ((s.store aq bg r2).put (by simpa using aH) rfl)
theorem adr {i T cap:Nat}{key:Option Nat}{α:Type}[ah α]{xs:List α}{e:TypeId}{lo ao Qb:Operand}{m n k:Nat}(hu:c.P.underlying t=some (.slice e))(eH:bO c.P e α)(al:aN c E L x (.eq (aJ key xs.length cap)))
 (aq:L[i]? =some ⟨key,.row T xs cap⟩) (hg:aN c E L lo (.of (m:Int))) (gr:aN c E L ao (.of (n:Int))) (J9:aN c E L Qb (.of (k:Int))) (h:m≤n∧n≤k∧k≤xs.length):
 bc c E L ⟨d,.slice t x (some lo) (some ao) (some Qb),ty,pos,af,g⟩ .any:= .pure fun a W s=>by
 obtain⟨ab,ax,aO⟩:=h
 obtain⟨gP,ej,dK⟩:=eH.info
 have h1:a.eval x=_:=al a W s
 have ar:=of_int.1 (hg a W s)
 have aU:=of_int.1 (gr a W s)
 have cz:=of_int.1 (J9 a W s)
 have xc:∃ anY qE,aJ key xs.length cap= .slice anY qE cap∨ (aJ key xs.length cap= .slice none 0 0∧k=0):=by
  cases key with
  | some p=>exact⟨_,_,.inl rfl⟩
  | none=>
    have bg:=s.own _ (List.mem_of_getElem? aq)
    have oV:xs= []:=bg.1
    subst oV
    exact⟨none,0,.inr ⟨rfl,by simpa using aO⟩⟩
 have amm:xs.length≤cap∨key=none:=by
  cases key with
  | none=>exact .inr rfl
  | some p=>
    obtain⟨o,bg,cs,rfl,g1,g2,_⟩:=s.own _ (List.mem_of_getElem? aq)
    exact .inl g2
 cases key with
 | none=>
   have bg:=s.own _ (List.mem_of_getElem? aq)
   have oV:xs= []:=bg.1
   subst oV
   have amn:k=0:=by simpa using aO
   subst amn
   have ui:n=0:=by omega
   subst ui
   have ih:m=0:=by omega
   subst ih
   have hb:∀ (code:BoundsCode),(Instr.sliceBound (.int .i64 0) 0 code).run c.P W= .ok 0 W:=fun code=>rz (n:=0) (m:=0) (Nat.le_refl _) rfl
   have amo:a.eval lo= .int .i64 0:=ar
   have amp:a.eval ao= .int .i64 0:=aU
   have amq:a.eval Qb= .int .i64 0:=cz
   refine⟨.slice none 0 0,?_,trivial⟩
   simp [execOp,Instr.sliceAt,Instr.slice,Instr.sliceBounds,h1,aJ,run_underlying hu,Go.sizeOf,typeInfo,ej,amo,amp,amq,hb]
 | some p=>
   have akI:k≤cap:=by
    rcases amm with h | h
    ·omega
    cases h
   refine⟨.slice (some (if k=m then⟨p,0,none⟩ else⟨p,m * ah.size α,none⟩)) (n - m) (k - m),?_,trivial⟩
   have hb:∀ (a b:Nat) (code:BoundsCode),a≤b→ (Instr.sliceBound (.int .i64 (a:Int)) b code).run c.P W= .ok a W:=fun a b code h=>rz h rfl
   simp [execOp,Instr.sliceAt,Instr.slice,Instr.sliceBounds,h1,aJ,run_underlying hu,Go.sizeOf,typeInfo,ej,dK,ar,aU,cz,hb k cap _ akI,hb n k _ ax,hb m n _ ab,kI]
   split <;> rfl
theorem afE {p n cap e:Nat}(hu:c.P.underlying t=some (.slice e))(al:aN c E L x (.eq (aJ (some p) n cap))):bc c E L ⟨d,.call ⟨.builtin .len,#[x],#[t]⟩,ty,pos,af,g⟩ (.of (n:Int)):= .pure fun a W s=>by
 have h1:a.eval x=_:=al a W s;refine⟨.int .i64 n,?_,of_int.2 rfl⟩;simp [execOp,resolve,invoke,builtin,Builtin.len_,h1,aJ,run_underlying hu,goInt]
theorem J.afD {rest:List Oper}{i e p ba m n cap T:Nat}{α:Type}[ah α]{xs:List α}(hu:c.P.underlying t=some (.slice e))(eH:bO c.P e α)
 (al:aN c E L x (.eq (iY (some p) 0 (m - 0) cap (ah.size α)))) (aR:aN c E L y (.eq (iY (some p) n (xs.length - n) cap (ah.size α)))) (aq:L[i]? =some ⟨some p,.row T xs cap⟩) (vC:m<n) (aH:n≤xs.length) (hd:Nat.blt ba c.n=true)
 (k:J c ops Q rest ((ba,.eq (aJ (some p) (m+(xs.length - n)) cap))::E) (L.set i ⟨some p,.row T (xs.take m++xs.drop n++xs.drop (m+(xs.length - n))) cap⟩)):
 J c ops Q (⟨some ba,.call ⟨.builtin .append,#[x,y],#[t,t]⟩,ty,pos,af,none⟩::rest) E L:=by
 have me:aN c E L x (.eq (aJ (some p) m cap)):=by
  rw [Bm,Nat.sub_zero] at al;exact al
 rcases Nat.lt_or_ge n xs.length with oW | oW
 ·have hs:=Iw (k:=xs.length - n) aR aq (by omega) (by omega)
  rw [show(xs.drop n).take (xs.length - n)=xs.drop n by rw [List.take_of_length_le (by simp)]] at hs
  exact J.VW hu eH me hs (by simp) aq (by omega) rfl hd k
 have bq:xs.length - n=0:=by omega
 rw [bq] at aR k
 have hs:=adF (α:=α) aR
 rw [show([]:List α)=xs.drop n by rw [List.drop_of_length_le oW]] at hs
 exact J.VW hu eH me hs (by simp;omega) aq (by omega) rfl hd k
theorem aj.again {z:Exit}{key:Option Nat}{cp:eG}(cp':eG)(i:Nat)(aq:L[i]? =some ⟨key,cp⟩)(h:∀ A W o,cp.holds A W o→cp'.holds A W o)(aH:cp.oM→cp'.oM)(k:aj c Q z E (L.set i ⟨key,cp'⟩)):aj c Q z E L:=fun a W s=>
 k a W (s.again aq h aH)
end
def FA {α:Type}(xs:List α)(i j:Int):Option (List α):=if 0≤i∧i≤j∧j≤xs.length then some (xs.take i.toNat++xs.drop j.toNat) else none
theorem acr {α:Type}{xs r:List α}{i j:Int}(h:FA xs i j=some r):∃ m n:Nat,i=m∧j=n∧m≤n∧n≤xs.length∧r=xs.take m++xs.drop n:=by
 unfold FA at h;split at h
 ·rename_i ad;refine⟨i.toNat,j.toNat,by omega,by omega,by omega,by omega,?_⟩;cases h;rfl
 cases h
abbrev ag (α:Type):=(α→Prop)→Prop
def ag.of {α:Type}(o:Option α):ag α:=fun Q=> ∃ r,o=some r∧Q r
def ag.bind {α β:Type}(m:ag α)(k:α→ag β):ag β:=fun Q=>m fun r=>k r Q
def ag.ret {α:Type}(x:α):ag α:=fun Q=>Q x
def nx {σ ε:Type} :Nat→ (σ→ag (σ ⊕ ε))→σ→ag ε
 | 0,_,_=>fun _=>False
 | n+1,b,s=>fun Q=>b s fun r=>match r with
   | .inl cf=>nx n b cf Q
   | .inr e=>Q e
abbrev aG (bC:Type):=List (Nat×bC)
abbrev Ref:=Option Nat
instance aoj:ah Ref:= .scalar (fun x=>Value.pointer (x.map fun p=>⟨p,0,none⟩)) fun _=>rfl
theorem wW {A W v}{x:Ref} :(I.of x).holds A W v↔v= .pointer (x.map fun p=>⟨p,0,none⟩):=
 ⟨fun h=>nV h.1 h.2,fun h=>by subst h;exact⟨rfl,rfl⟩⟩
instance:a6 Ref:=⟨[.pointer none],fun _ _=>rfl⟩
def ag.mk {bC:Type}(hp:aG bC)(k:bC):ag (Nat×aG bC):=fun Q=> ∀ a:Nat×aG bC,a.1 ∉ hp.map (·.1)∧a.2=(a.1,k)::hp→Q a
theorem ag.pe {bC α:Type}{hp:aG bC}{c:bC}{k:Nat×aG bC→ag α}{R:α→Prop}(h:ag.bind (ag.mk hp c) k R)(a:Nat×aG bC)(aW:a.1 ∉ hp.map (·.1)∧a.2=(a.1,c)::hp):k a R:=h a aW
class dU (bC:Type) where
 gp:Nat→bC→List aF
 root:∀ p k,∃ e∈gp p k,e.key=some p
def aI {bC:Type}[dU bC]:aG bC→List aF
 | []=>[]
 | (p,k)::r=>dU.gp p k++aI r
def pat {bC:Type} :aG bC→Nat→Option bC
 | [],_=>none
 | (q,k)::r,p=>if q=p then some k else pat r p
def ct {bC:Type} :aG bC→Nat→bC→aG bC
 | [],_,_=>[]
 | (q,k)::r,p,k'=>if q=p then(q,k')::r else(q,k)::ct r p k'
def dI {bC:Type}(hp:aG bC):List Nat:=hp.map (·.1)
theorem uF {bC:Type}[dU bC]:∀ {hp:aG bC} {p:Nat} {k:bC},pat hp p=some k→ ∃ R,(aI hp).Perm (dU.gp p k++R)∧ ∀ k',(aI (ct hp p k')).Perm (dU.gp p k'++R)
 | [],_,_,h=>by simp [pat] at h
 | (q,wi)::r,p,k,h=>by
   simp only [pat] at h;split at h
   ·rename_i e;subst e;simp only [Option.some.injEq] at h;subst h;exact⟨aI r,.refl _,fun k'=>by simp only [ct,if_pos];exact .refl _⟩
   rename_i e;obtain⟨R,h1,ab⟩:=uF h;refine⟨dU.gp q wi++R,?_,fun k'=>?_⟩
   ·exact(h1.append_left (dU.gp q wi)).trans (by rw [← List.append_assoc,← List.append_assoc];exact List.perm_append_comm.append_right R)
   simp only [ct,if_neg e];exact((ab k').append_left (dU.gp q wi)).trans (by rw [← List.append_assoc,← List.append_assoc];exact List.perm_append_comm.append_right R)
theorem Uk {bC:Type}[dU bC]{hp:aG bC}{p:Nat}(h:p∈dI hp):p∈aP (aI hp):=by
 induction hp with
 | nil=>simp [dI] at h
 | cons x r b2=>
   obtain⟨q,k⟩:=x
   simp only [dI,List.map_cons,List.mem_cons] at h
   simp only [aI,ff,List.mem_append]
   rcases h with h | h
   ·subst h
    obtain⟨e,he,hk⟩:=dU.root p k
    exact .inl (rH.2 ⟨e,he,hk⟩)
   exact .inr (b2 h)
theorem jM {bC:Type}{hp:aG bC}{p:Nat}{k:bC}(h:pat hp p=some k):p∈dI hp:=by
 induction hp with
 | nil=>simp [pat] at h
 | cons x r b2=>
   simp only [pat] at h
   split at h
   ·rename_i e;simp [dI,e]
   simp only [dI,List.map_cons,List.mem_cons];exact .inr (b2 h)
theorem qQ {bC:Type}{hp:aG bC}{p:Nat}{k:bC} :dI (ct hp p k)=dI hp:=by
 induction hp with
 | nil=>rfl
 | cons x r b2=>simp only [ct];split <;> simp_all [dI]
theorem EM {bC:Type}{hp:aG bC}{p q:Nat}{k:bC} :pat (ct hp p k) q=if p=q then(pat hp p).map (fun _=>k) else pat hp q:=by
 induction hp with
 | nil=>simp [ct,pat]
 | cons x r b2=>
   simp only [ct]
   by_cases e:x.1=p
   ·rw [if_pos e]
    by_cases h:p=q
    ·simp [pat,e,h]
    have: ¬ x.1=q:=fun cL=>h (e ▸ cL)
    simp [pat,e,h]
   rw [if_neg e]
   by_cases h:p=q
   ·subst h
    rw [if_pos rfl] at b2 ⊢
    simp [pat,e,b2]
   rw [if_neg h] at b2 ⊢
   simp [pat,b2]
section
variable {c:cF} {E:List (Nat×I)} {L:List aF} {ops:Array Oper} {Q:Exit→Act→World→Prop}
variable {d:Option Tmp} {ty:TypeId} {pos:String} {af:Array Edge} {g:Option (Nat×Bool)} {x y:Operand} {t t2:TypeId}
theorem adG {L L':List aF}(p:L.Perm L'){A:List Nat}(k:Nat):k∈aP L++A↔k∈aP L'++A:=by
 simp only [List.mem_append];rw [(yJ p).mem_iff]
theorem oD {L L':List aF}(p:L.Perm L'){A:List Nat}{W:World} :Ext (aP L++A) W (aP L'++A) W:= .drop fun k hm=>(adG p k).2 hm
theorem aN.perm {L':List aF}{x:Operand}{τ:I}(p:L.Perm L')(h:aN c E L x τ):aN c E L' x τ:=fun a W s=>
 τ.mono (oD p) (h a W (s.perm p.symm))
theorem J.perm {l:List Oper}{L':List aF}(p:L.Perm L')(h:J c ops Q l E L):J c ops Q l E L':=fun a W s=>h a W (s.perm p.symm)
theorem fg {x:Operand}{r:Ref}{p:Nat}(al:aN c E L x (.of r))(h:r=some p):aN c E L x (.eq (.pointer (some ⟨p,0,none⟩))):=fun a W s=>by
 subst h;exact wW.1 (al a W s)
theorem nU:aN c E L (.const (.pointer none)) (.of (none:Ref)):=fun a W s=>wW.2 rfl
variable {bC:Type} [dU bC] {hp:aG bC} {loc:List aF}
theorem iK {p n:Nat}{k:bC}{e:aF}(aq:L.drop n=aI hp)(h:pat hp p=some k)(hk:dU.gp p k= [e]):e∈L:=by
 obtain⟨R,h1,_⟩:=uF h;rw [hk] at h1;have:e∈L.drop n:=by rw [aq];exact h1.mem_iff.2 (by simp)
 exact List.mem_of_mem_drop this
theorem oO {L':List aF}{e:aF}(aq:∀ (i:Nat) (e:aF),L[i]? =some e→L'[i]? =some e)(h:e∈L):e∈L':=by
 obtain⟨i,ao⟩:=List.mem_iff_getElem?.1 h;exact List.mem_of_getElem? (aq i e ao)
theorem nq {x:Operand}{t:TypeId}{p o:Nat}{β γ:Type}[ah β][ah γ]{b:β}(l:aK β γ){r:γ}(dP:bO c.P t γ)(al:aN c E L x (.eq (.pointer (some ⟨p,o,none⟩))))
 (hm:(⟨some p,.var b⟩:aF)∈L) (bg:o=l.off) (aA:l.get b=r):bc c E L ⟨d,.load t x,ty,pos,af,g⟩ (.of r):=by
 obtain⟨i,ao⟩:=List.mem_iff_getElem?.1 hm
 exact gz (i:=i) l dP al ao bg aA
theorem J.aeZ {x y:Operand}{t:TypeId}{rest:List Oper}{p o:Nat}{k k':bC}{β γ:Type}[ah β][ah γ]{b b':β}{v:γ}(l:aK β γ)(dP:bO c.P t γ)(al:aN c E (loc++aI hp) x (.eq (.pointer (some ⟨p,o,none⟩))))
 (aR:aN c E (loc++aI hp) y (.of v)) (hp':pat hp p=some k) (hk:dU.gp p k= [⟨some p,.var b⟩]) (j9:dU.gp p k'= [⟨some p,.var b'⟩]) (bg:o=l.off) (hb:l.set b v=b')
 (kG:J c ops Q rest E (loc++aI (ct hp p k'))):J c ops Q (⟨none,.store t x y,ty,pos,af,none⟩::rest) E (loc++aI hp):=by
 obtain⟨R,h1,ab⟩:=uF hp'
 have ab:=ab k'
 rw [hk] at h1
 rw [j9] at ab
 have b3:∀ {z:β} {M:List aF},M.Perm ([⟨some p,.var z⟩]++R)→ (loc++M).Perm (⟨some p,.var z⟩::(loc++R)):=fun h=>(h.append_left loc).trans (by simp only [List.singleton_append];exact List.perm_middle)
 exact J.perm (b3 h1).symm (J.store (i:=0) l dP (al.perm (b3 h1)) (aR.perm (b3 h1)) rfl bg hb (J.perm (b3 ab) kG))
theorem J.ns {x y:Operand}{t:TypeId}{rest:List Oper}{p o:Nat}{k k':bC}{cE:aG bC}{β γ:Type}[ah β][ah γ]{b b':β}{v:γ}(n:Nat)(aq:L.drop n=aI hp)(l:aK β γ)(dP:bO c.P t γ)(al:aN c E L x (.eq (.pointer (some ⟨p,o,none⟩))))(aR:aN c E L y (.of v))(hp':pat hp p=some k)(hk:dU.gp p k= [⟨some p,.var b⟩])(j9:dU.gp p k'= [⟨some p,.var b'⟩])(bg:o=l.off)(hb:l.set b v=b')(bF:ct hp p k'=cE)(kG:J c ops Q rest E (L.take n++aI cE)):J c ops Q (⟨none,.store t x y,ty,pos,af,none⟩::rest) E L:=by
 subst bF;have e:L=L.take n++aI hp:=by rw [← aq,List.take_append_drop]
 clear aq;generalize L.take n=loc at *;subst e;exact J.aeZ l dP al aR hp' hk j9 bg hb kG
theorem bI.fresh {a:Act}{W:World}(s:bI c E (loc++aI hp) a W):W.heap.size ∉ dI hp:=fun h=>by
 have:=s.lt _ (by rw [ff];exact List.mem_append.2 (.inr (Uk h)));omega
theorem J.aii {t:TypeId}{x:Operand}{rest:List Oper}{ba:Nat}{α:Type}[ah α]{z:α}(mk:bC)(hk:∀ p,dU.gp p mk= [⟨some p,.var z⟩])(al:aN c E (loc++aI hp) x (.of z))(aH:Nat.blt ba c.n=true)
 (k:∀ p,p ∉ dI hp→J c ops Q rest ((ba,.of (some p:Ref))::E) (loc++aI ((p,mk)::hp))):J c ops Q (⟨some ba,.box t x,ty,pos,af,none⟩::rest) E (loc++aI hp):=fun a W s=>by
 refine iP rfl (R:=fun v W'=>v= .pointer (some ⟨W.heap.size,0,none⟩)∧W'=W.alloc (.cells (a.eval x).cells t)) (.mv ?_ ⟨rfl,rfl⟩) fun v W' ⟨bb,hw⟩=>?_
 ·simp [execOp,Instr.box,newVar,newRow]
 subst bb
 subst hw
 refine k _ s.fresh _ _ (bI.put ?_ (by simpa using aH) (wW.2 rfl))
 refine(s.alloc (cp:= .var z) ⟨_,t,rfl,(al a W s).2⟩).perm ?_
 simp only [aI,hk,List.singleton_append]
 exact List.perm_middle.symm
theorem J.xa {t:TypeId}{x:Operand}{rest:List Oper}{ba:Nat}{α:Type}[ah α]{z:α}(n:Nat)(aq:L.drop n=aI hp)(mk:bC)(hk:∀ p,dU.gp p mk= [⟨some p,.var z⟩])(al:aN c E L x (.of z))(aH:Nat.blt ba c.n=true)(k:∀ a:Nat×aG bC,a.1 ∉ hp.map (·.1)∧a.2=(a.1,mk)::hp→J c ops Q rest ((ba,.of (some a.1:Ref))::E) (L.take n++aI a.2)):J c ops Q (⟨some ba,.box t x,ty,pos,af,none⟩::rest) E L:=by
 have e:L=L.take n++aI hp:=by rw [← aq,List.take_append_drop]
 clear aq;generalize L.take n=loc at *;subst e;exact J.aii mk hk al aH fun p h=>k (p,(p,mk)::hp) ⟨h,rfl⟩
theorem nn {A B C:List aF} :((A++B)++C).Perm ((A++C)++B):=by
 rw [List.append_assoc,List.append_assoc];exact List.perm_append_comm.append_left A
theorem J.gS {rest:List Oper}{ba:Nat}{f:FuncId}{xs:List Operand}{ats:Array TypeId}{τs:List I}{Lin Lr:List aF}{δ:Type}{ρ:δ→I}{Lo:δ→List aF}{hq:δ→aG bC}(cn:bM c.P f)(h:bJ c.P f τs (Lin++aI hp) ρ (fun d=>Lo d++aI (hq d)))
 (al:iJ c E ((Lin++Lr)++aI hp) xs τs) (aH:Nat.blt ba c.n=true) (k:∀ q,J c ops Q rest ((ba,ρ q)::E) ((Lo q++Lr)++aI (hq q))):
 J c ops Q (⟨some ba,.call ⟨.value (.func f),xs.toArray,ats⟩,ty,pos,af,none⟩::rest) E ((Lin++Lr)++aI hp):=fun a W s=>
 iP rfl (Ew (Lr:=Lr) cn h (s.perm nn) ((al.holds a W s).mono (oD nn))) fun v W' ⟨q,cf,bb⟩=>
  k q _ _ ((cf.perm nn).put (by simpa using aH) ((ρ q).mono (oD nn) bb))
theorem J.dB {rest:List Oper}{ba:Nat}{f:FuncId}{xs:List Operand}{ats:Array TypeId}{τs:List I}{Lin Lr:List aF}{δ:Type}{ρ:δ→I}{Lo:δ→List aF}{hq:δ→aG bC}(n m:Nat)(aq:L.drop n=aI hp)(cn:bM c.P f)(h:bJ c.P f τs (Lin++aI hp) ρ (fun d=>Lo d++aI (hq d)))
 (h1:(L.take n).take m=Lin) (ab:(L.take n).drop m=Lr) (al:iJ c E L xs τs) (aH:Nat.blt ba c.n=true) (k:∀ q,J c ops Q rest ((ba,ρ q)::E) ((Lo q++Lr)++aI (hq q))):
 J c ops Q (⟨some ba,.call ⟨.value (.func f),xs.toArray,ats⟩,ty,pos,af,none⟩::rest) E L:=by
 have e:L=(Lin++Lr)++aI hp:=by rw [← h1,← ab,List.take_append_drop,← aq,List.take_append_drop]
 clear aq h1 ab
 subst e
 exact J.gS cn h al aH k
theorem dL.af6 {f:FuncId}{xs:List Operand}{ats:Array TypeId}{τs:List I}{ρ:I}(cn:bM c.P f)(h:bJ c.P f τs (aI hp) (fun _:Unit=>ρ) (fun _=>aI hp))
 (al:iJ c E (loc++aI hp) xs τs):dL c E (loc++aI hp) ⟨d,.call ⟨.value (.func f),xs.toArray,ats⟩,ty,pos,af,g⟩ ρ:=fun a W s=>by
 have b3:(loc++aI hp).Perm (aI hp++loc):=List.perm_append_comm
 have bg:=Ew (d:=d) (ty:=ty) (pos:=pos) (af:=af) (g:=g) (ats:=ats) (Lr:=loc) cn h (s.perm b3) ((al.holds a W s).mono (oD b3))
 unfold hy at bg ⊢
 exact Oper.wp_mono (fun gv W' ⟨v,h1,_,ab,ax⟩=>⟨v,h1,ab.perm b3.symm,ρ.mono (oD b3.symm) ax⟩) bg
theorem dL.gS {f:FuncId}{xs:List Operand}{ats:Array TypeId}{τs:List I}{ρ:I}(n:Nat)(aq:L.drop n=aI hp)(cn:bM c.P f)(h:bJ c.P f τs (aI hp) (fun _:Unit=>ρ) (fun _=>aI hp))(al:iJ c E L xs τs):dL c E L ⟨d,.call ⟨.value (.func f),xs.toArray,ats⟩,ty,pos,af,g⟩ ρ:=by
 have e:L=L.take n++aI hp:=by rw [← aq,List.take_append_drop]
 clear aq;generalize L.take n=loc at *;subst e;exact dL.af6 cn h al
theorem Lb {P:Program}{e:TypeId}(W:World)(n:Nat){t:TypeId}(a:Option Addr)(h:P.underlying t=some (.pointer e)):(Op.equalIn (n+1) t (.pointer a) (.pointer none)).run P W= .ok a.isNone W:=by
 cases a <;> simp [Op.equalIn,run_underlying h]
theorem yF {r:Ref}{e:TypeId}(hu:c.P.underlying t=some (.pointer e))(al:aN c E L x (.of r)):bc c E L ⟨d,.binOp .eql t x (.const (.pointer none)) t2,ty,pos,af,g⟩ (.of r.isNone):= .pure fun a W s=>by
 have h1:=wW.1 (al a W s);refine⟨.bool r.isNone,?_,of_bool.2 rfl⟩;have aH:a.eval (.const (.pointer none))= .pointer none:=rfl;simp only [execOp,eqGuard,binOp,h1,aH,Op.equal,Op.maxDepth];have:=Lb (P:=c.P) W 9999 (r.map fun p=>⟨p,0,none⟩) hu;simp only [Option.isNone_map] at this;simp [this]
theorem acL {r:Ref}{e:TypeId}(hu:c.P.underlying t=some (.pointer e))(al:aN c E L x (.of r)):bc c E L ⟨d,.binOp .neq t x (.const (.pointer none)) t2,ty,pos,af,g⟩ (.of r.isSome):= .pure fun a W s=>by
 have h1:=wW.1 (al a W s);refine⟨.bool r.isSome,?_,of_bool.2 rfl⟩;have aH:a.eval (.const (.pointer none))= .pointer none:=rfl;simp only [execOp,eqGuard,binOp,h1,aH,Op.equal,Op.maxDepth];have:=Lb (P:=c.P) W 9999 (r.map fun p=>⟨p,0,none⟩) hu;simp only [Option.isNone_map] at this;simp [this]
end
theorem ab3 {P:Program}{t e el:TypeId}{n:Nat}(h:P.underlying t=some (.array n e))(eH:bO P e Ref)(hu:P.underlying e=some (.pointer el)){A:List Nat}{W:World}{u v:Value}{x y:Vector Ref n}(al:(I.of x).holds A W u)(aR:(I.of y).holds A W v)
 (aH:∀ i,i<n→b5 y i=none) (d:Nat) (hd:2≤d):(Op.equalIn d t u v).run P W= .ok (decide (x=y)) W:=by
 obtain⟨d,rfl⟩:∃ e,d=e+1:=⟨d - 1,by omega⟩
 obtain⟨h1,ab⟩:=al
 obtain⟨ax,aO⟩:=aR
 obtain⟨xs,rfl⟩:∃ cs,u= .agg cs:=by simpa [shaped,ah.agg] using h1
 obtain⟨ys,rfl⟩:∃ cs,v= .agg cs:=by simpa [shaped,ah.agg] using ax
 simp only [Value.cells] at ab aO
 have vK:xs.toList.length=n * ah.size Ref:=ah.len ab
 have F2:ys.toList.length=n * ah.size Ref:=ah.len aO
 have vf:∀ i∈List.range' 0 n,((do
  let a ← part e xs (i * ah.size Ref)
  let b ← part e ys (i * ah.size Ref)
  Op.equalIn d e a b):Sem Bool).run P W= .ok (decide (b5 x i=b5 y i)) W:=by
  intro i ao
  have hF:i<n:=by simpa using ao
  have fT:i * ah.size Ref+ah.size Ref≤n * ah.size Ref:=(aK.idx (α:=Ref) n i hF).hf
  obtain⟨a,aW,vL⟩:=tz (A:=A) (P:=P) (W:=W) (cs:=xs) (off:=i * ah.size Ref) eH (by simp at vK;omega) ((aK.idx (α:=Ref) n i hF).jL ab)
  obtain⟨b,hb,F3⟩:=tz (A:=A) (P:=P) (W:=W) (cs:=ys) (off:=i * ah.size Ref) eH (by simp at F2;omega) ((aK.idx (α:=Ref) n i hF).jL aO)
  simp only [Sem.run_bind,aW,hb,Result.andThen_ok]
  obtain⟨d,rfl⟩:∃ e,d=e+1:=⟨d - 1,by omega⟩
  have ar:=wW.1 vL
  have aU:=wW.1 F3
  subst ar;subst aU
  have amr:(aK.idx (α:=Ref) n i hF).get y=none:=aH i hF
  rw [amr,Option.map_none,Lb W d _ hu]
  have cz:b5 y i=none:=aH i hF
  rw [cz]
  show Result.ok ((b5 x i).map _).isNone W=_
  congr 1
  cases b5 x i <;> rfl
 have aT:=La (P:=P) (W:=W) _ _ _ vf
 have pB:(List.range' 0 n).all (fun i=>decide (b5 x i=b5 y i))=decide (x=y):=by
  rw [Bool.eq_iff_iff,List.all_eq_true,decide_eq_true_eq];constructor
  ·intro h;apply Vector.ext;intro i ao;have:=h i (by simpa using ao);simpa [b5,ao] using this
  rintro rfl i _;simp
 rw [pB] at aT
 simp only [Op.equalIn,Sem.run_bind,run_underlying h,Result.andThen_ok,eH.sizeOf,Std.Legacy.Range.forIn_eq_forIn_range']
 simp only [Std.Legacy.Range.size,Nat.sub_zero,Nat.add_one_sub_one,Nat.div_one] at aT ⊢
 simp only [bind_assoc] at aT
 rw [aT]
 by_cases F4:x=y
 ·simp [F4]
 simp [F4]
theorem adq {c:cF}{E:List (Nat×I)}{L:List aF}{d:Option Tmp}{ty:TypeId}{pos:String}{af:Array Edge}{g:Option (Nat×Bool)}{x y:Operand}{t t2 e el:TypeId}{n:Nat}{a b:Vector Ref n}(h:c.P.underlying t=some (.array n e))(eH:bO c.P e Ref)(hu:c.P.underlying e=some (.pointer el))(bA:c.P.eqGuardType c.P.depth t=false)
 (al:aN c E L x (.of a)) (aR:aN c E L y (.of b)) (aH:∀ i,i<n→b5 b i=none):bc c E L ⟨d,.binOp .eql t x y t2,ty,pos,af,g⟩ (.of (decide (a=b))):= .pure fun A W s=>by
 have h1:=al A W s
 have ab:=aR A W s
 obtain⟨xs,oV⟩:∃ cs,A.eval x= .agg cs:=by simpa [shaped,ah.agg] using h1.1
 obtain⟨ys,xw⟩:∃ cs,A.eval y= .agg cs:=by simpa [shaped,ah.agg] using ab.1
 have ax:=ab3 h eH hu h1 ab aH 10000 (by decide)
 rw [oV,xw] at ax
 refine⟨.bool (decide (a=b)),?_,of_bool.2 rfl⟩
 simp only [execOp,oV,xw,Sem.run_bind,run_eqGuard_agg W .eql t x y xs ys bA,Result.andThen_ok,run_eql_struct,ax,Sem.run_pure]
section
variable {c:cF} {E:List (Nat×I)} {L:List aF} {ops:Array Oper} {Q:Exit→Act→World→Prop}
theorem ag.ae0 {α β:Type}{o:Option α}{k:α→ag β}{R:β→Prop}(h:ag.bind (ag.of o) k R):∃ r,o=some r∧k r R:=h
theorem ab4 {F:Fence}{n:Nat}{P:Program}{body:Code}{σ ε:Type}(b:σ→ag (σ ⊕ ε))(fI:σ→Act→World→Prop)(X:ε→Exit→Act→World→Prop)
 (tJ:∀ s R,b s R→ ∀ a W,fI s a W→body.wpIn F n P (fun x a W=>(∃ cf,R (.inl cf)∧x= .normal∧fI cf a W)∨ ∃ e,R (.inr e)∧x≠ .normal∧X e x a W) a W)
 (Q:Exit→Act→World→Prop) (R:ε→Prop) (pk:∀ e x a W,R e→X e x a W→Q x a W) {cg:σ} {N:Nat} (ak:nx N b cg R) {a0:Act} {jY:World} (bq:fI cg a0 jY):
 (Code.loop body).wpIn F n P Q a0 jY:=by
 intro dO k cs kB hb aA
 have key:∀ N s,nx N b s R→ ∀ a W,fI s a W→
  ∃ x gv W',Q x gv W'∧ArrivesIn (Machine.fenced P F) P (lone (dO.atR a (.code body::.inLoop body::k)) cs W) dO k cs x gv W':=by
  intro N
  induction N with
  | zero=>intro s h;exact h.elim
  | succ N b2=>
    intro s h a W nf
    obtain⟨x,r3,Cc,hq,oe⟩:=tJ s _ h a W nf dO (.inLoop body::k) cs kB hb aA
    rcases hq with⟨cf,h1,al,OX⟩ | ⟨e,h1,al,ng⟩
    ·subst al
     obtain⟨Oq,Ot,Ou,NU,Me⟩:=b2 cf h1 r3 Cc OX
     exact⟨Oq,Ot,Ou,NU,.of_steps (StepsIn.trans oe (.one (fenced_calm hb aA rfl) stepR_inLoop)) Me⟩
    exact⟨x,r3,Cc,pk _ _ _ _ h1 ng,.pass (x:= .inLoop body) rfl (fun _ _=>.inl al) oe⟩
 obtain⟨x,gv,W',hq,oe⟩:=key N cg ak a0 jY bq
 exact⟨x,gv,W',hq,.of_steps (.one (fenced_calm hb aA rfl) stepR_loop) oe⟩
def eB {σ ε γ δ:Type}(c:cF)(E:σ→γ→List (Nat×I))(L:σ→γ→List aF)(xs:ε→Exit)(hi:ε→δ→List (Nat×I))(Lx:ε→δ→List aF)(R:σ ⊕ ε→Prop):Exit→Act→World→Prop:=fun x a W=>
 (∃ s,R (.inl s)∧x= .normal∧ ∃ g,bI c (E s g) (L s g) a W)∨ ∃ e,R (.inr e)∧x≠ .normal∧x=xs e∧ ∃ g,bI c (hi e g) (Lx e g) a W
theorem aj.tE {σ ε γ δ:Type}{E':σ→γ→List (Nat×I)}{L':σ→γ→List aF}{xs:ε→Exit}{hi:ε→δ→List (Nat×I)}{Lx:ε→δ→List aF}{R:σ ⊕ ε→Prop}{s:σ}(gQ:R (.inl s))(g:γ)(n:Nat)
 (aq:L.drop n=L' s g) (h:fH E (E' s g)):aj c (eB c E' L' xs hi Lx R) .normal E L:=fun a W st=>.inl ⟨s,gQ,rfl,g,by rw [← aq];exact(st.rR n).less h.look⟩
theorem aj.p7 {σ ε γ δ:Type}{E':σ→γ→List (Nat×I)}{L':σ→γ→List aF}{xs:ε→Exit}{hi:ε→δ→List (Nat×I)}{Lx:ε→δ→List aF}{R:σ ⊕ ε→Prop}{e:ε}{x:Exit}(gQ:R (.inr e))(g:δ)(n:Nat)
 (al:x=xs e) (aH:x≠ .normal) (aq:L.drop n=Lx e g) (h:fH E (hi e g)):aj c (eB c E' L' xs hi Lx R) x E L:=fun a W st=>.inr ⟨e,gQ,aH,al,g,by rw [← aq];exact(st.rR n).less h.look⟩
theorem aw.nx {σ ε γ δ:Type}{body:Code}{N:Nat}{b:σ→ag (σ ⊕ ε)}{cg:σ}{R:ε→Prop}(ak:Gv.nx N b cg R)
 (E':σ→γ→List (Nat×I)) (L':σ→γ→List aF) (xs:ε→Exit) (hi:ε→δ→List (Nat×I)) (Lx:ε→δ→List aF) (g0:γ) (aq:L=L' cg g0) (aE:fH E (E' cg g0))
 (sK:∀ s R,b s R→ ∀ g,aw c (eB c E' L' xs hi Lx R) body (E' s g) (L' s g))
 (pk:∀ e,R e→ ∀ g,aj c Q (xs e) (hi e g) (Lx e g)):aw c Q (.loop body) E L:=fun a W st=>by
 subst aq
 exact ab4 b (fun s a W=> ∃ g,bI c (E' s g) (L' s g) a W) (fun e x a W=>x=xs e∧ ∃ g,bI c (hi e g) (Lx e g) a W)
  (fun s R hs a W ⟨g,nf⟩=>wpIn_mono (sK s R hs g a W nf) (fun x a W h=>by
   rcases h with⟨cf,h1,ab,ax⟩ | ⟨e',h1,ab,ax,aO⟩
   ·exact .inl ⟨cf,h1,ab,ax⟩
   exact .inr ⟨e',h1,ab,ax,aO⟩)) Q R (fun e x a W gQ ⟨al,g,hs⟩=>by subst al;exact pk e gQ g a W hs) ak ⟨g0,st.less aE.look⟩
theorem TI {α:Type}{b:Bool}{m n:ag α}{R:α→Prop}(hb:b=true)(h:cond b m n R):m R:=by subst hb;exact h
theorem TJ {α:Type}{b:Bool}{m n:ag α}{R:α→Prop}(hb:b=false)(h:cond b m n R):n R:=by subst hb;exact h
theorem aw.af7 {β γ ρ:Type}{kU:ρ→Prop}{x:Operand}{b:Bool}{y z:Code}{bo bN:ag β}{k:β→ag ρ}(h:ag.bind (bif b then bo else bN) k kU)(E':β→γ→List (Nat×I))(L':β→γ→List aF)(ak:aN c E L x (.of b))
 (si:∀ m g,k m kU→aj c Q .normal (E' m g) (L' m g))
 (bw:(∀ m g,k m kU→aj c (dE Q) .normal (E' m g) (L' m g))→b=true→bo (fun m=>k m kU)→aw c (dE Q) y E L) (aT:(∀ m g,k m kU→aj c (dE Q) .normal (E' m g) (L' m g))→b=false→bN (fun m=>k m kU)→aw c (dE Q) z E L):aw c Q (.cond x y z) E L:=
 aw.cond ak (fun hb=>bw si hb (TI hb h)) (fun hb=>aT si hb (TJ hb h))
theorem aw.Ua {σ ε γ δ ρ:Type}{body:Code}{N:Nat}{b:σ→ag (σ ⊕ ε)}{cg:σ}{k:ε→ag ρ}{kU:ρ→Prop}(ak:ag.bind (Gv.nx N b cg) k kU)
 (E':σ→γ→List (Nat×I)) (L':σ→γ→List aF) (xs:ε→Exit) (hi:ε→δ→List (Nat×I)) (Lx:ε→δ→List aF) (g0:γ) (aq:L=L' cg g0) (aE:fH E (E' cg g0))
 (sK:∀ s R,b s R→ ∀ g,aw c (eB c E' L' xs hi Lx R) body (E' s g) (L' s g))
 (pk:∀ e,k e kU→ ∀ g,aj c Q (xs e) (hi e g) (Lx e g)):aw c Q (.loop body) E L:=
 aw.nx (R:=fun e=>k e kU) ak E' L' xs hi Lx g0 aq aE sK pk
theorem ag7 {n:Nat} :∀ i,i<n→b5 (default:Vector Ref n) i=none:=fun i ao=>by
 have:(default:Vector Ref n)=Vector.replicate n none:=rfl;rw [this];simp [b5,ao]
end
structure eQ where
 p:Option Nat
 deriving DecidableEq,Inhabited
instance aoi:ah eQ:= .scalar (fun x=>Value.map x.p) fun _=>rfl
instance:a6 eQ:=⟨[.map none],fun _ _=>rfl⟩
theorem wN {A W v}{x:eQ} :(I.of x).holds A W v↔v= .map x.p:=
 ⟨fun h=>nV h.1 h.2,fun h=>by subst h;exact⟨rfl,rfl⟩⟩
theorem kW {c:cF}{E:List (Nat×I)}{L:List aF}{x:Operand}{r:eQ}{p:Nat}(al:aN c E L x (.of r))(h:r.p=some p):aN c E L x (.of (⟨some p⟩:eQ)):=fun a W s=>by
 have:=wN.1 (al a W s);rw [h] at this;exact wN.2 this
inductive lV {α β:Type}[ah α][ah β](A:List Nat)(W:World):List MapEntry→List (α×β)→Prop
 | nil:lV A W [] []
 | cons {e k v es r} :(I.of k).holds A W e.key→ (I.of v).holds A W e.val→lV A W es r→lV A W (e::es) ((k,v)::r)
theorem lV.mono {α β:Type}[ah α][ah β]{A W cM W'}(h:Ext A W cM W'):∀ {es:List MapEntry} {kv:List (α×β)},lV A W es kv→lV cM W' es kv
 | _,_,.nil=>.nil
 | _,_,.cons h1 ab r=>.cons (I.mono _ h h1) (I.mono _ h ab) (r.mono h)
def eG.map {α β:Type}[ah α][ah β](kv:List (α×β)):eG where
 holds A W o:= ∃ es clock,o= .map es clock∧lV A W es.toList kv∧ (∀ x∈es.toList,x.born<clock)∧ (es.toList.map MapEntry.born).Nodup
 oM:=False
 mono e h:=let⟨es,clock,h1,ab,ax⟩:=h; ⟨es,clock,h1,ab.mono e,ax⟩
def dD {α β:Type}[DecidableEq α]:List (α×β)→α→Option β
 | [],_=>none
 | (k,v)::r,x=>if x=k then some v else dD r x
def gn {α β:Type}[DecidableEq α]:List (α×β)→α→β→List (α×β)
 | [],x,y=>[(x,y)]
 | (k,v)::r,x,y=>if x=k then(x,y)::r else(k,v)::gn r x y
def iL {α β:Type}[DecidableEq α]:List (α×β)→α→List (α×β)
 | [],_=>[]
 | (k,v)::r,x=>if x=k then r else(k,v)::iL r x
class kp (α:Type) [ah α]:Prop where
 uniq:∀ {A W cs cM W' eP} {x:α},ah.rep A W cs x→ah.rep cM W' eP x→cs=eP
 plain:∀ {A W cs} {x:α},ah.rep A W cs x→ ∀ v∈cs,∀ n,Instr.sameBits n v v=true
instance:kp Int:=⟨fun h cL=>h.trans cL.symm,fun h v bb n=>by subst h;rw [List.mem_singleton.1 bb];simp [Instr.sameBits]⟩
instance:kp (BitVec 64):=⟨fun h cL=>h.trans cL.symm,fun h v bb n=>by subst h;rw [List.mem_singleton.1 bb];simp [Instr.sameBits]⟩
instance:kp Bool:=⟨fun h cL=>h.trans cL.symm,fun h v bb n=>by subst h;rw [List.mem_singleton.1 bb];simp [Instr.sameBits]⟩
instance {α:Type} [ah α] [Inhabited α] [kp α] {n:Nat} :kp (Vector α n):=⟨fun {A W cs cM W' eP x} h cL=>by
 have z7:cs.length=n * ah.size α:=ah.len h;have Qc:eP.length=n * ah.size α:=ah.len cL;have key:∀ m,m≤n→cs.take (m * ah.size α)=eP.take (m * ah.size α):=by
  intro m;induction m with
  | zero=>intro _;simp
  | succ m b2=>
    intro hm
    have Cu:m<n:=hm
    have ar:=(aK.idx (α:=α) n m Cu).jL h
    have aU:=(aK.idx (α:=α) n m Cu).jL cL
    have cz:=kp.uniq ar aU
    rw [Nat.succ_mul,List.take_add,List.take_add,b2 (by omega)]
    congr 1
 have:=key n (Nat.le_refl _);rwa [← z7,List.take_length,z7,← Qc,List.take_length] at this,
 fun {A W cs x} h v bb k=>by
  have z7:cs.length=n * ah.size α:=ah.len h;obtain⟨i,ao,rfl⟩:=List.getElem_of_mem bb;by_cases hs:ah.size α=0
  ·rw [hs,Nat.mul_zero] at z7;omega
  have hq:i / ah.size α<n:=Nat.div_lt_of_lt_mul (by rw [z7,Nat.mul_comm] at ao;exact ao);have ar:=(aK.idx (α:=α) n (i / ah.size α) hq).jL h;refine kp.plain ar _ ?_ k;have aA:i % ah.size α<ah.size α:=Nat.mod_lt _ (by omega);have hd:=Nat.div_add_mod i (ah.size α);refine List.mem_iff_getElem?.2 ⟨i % ah.size α,?_⟩;simp only [aK.idx];rw [List.getElem?_take,if_pos aA,List.getElem?_drop,Nat.mul_comm,hd];exact List.getElem?_eq_getElem ao⟩
theorem EG {cs eP:List Value}(o s:Nat)(h:(cs.drop o).take s=(eP.drop o).take s)(k:cs.drop (o+s)=eP.drop (o+s)):cs.drop o=eP.drop o:=by
 rw [← List.take_append_drop s (cs.drop o),← List.take_append_drop s (eP.drop o),h,List.drop_drop,List.drop_drop,k]
theorem TK {cs eP:List Value}{n:Nat}(h:cs.length=n)(cL:eP.length=n)(k:cs.drop 0=eP.drop 0):cs=eP:=by simpa using k
theorem TL {cs eP:List Value}{n m:Nat}(h:cs.length=n)(cL:eP.length=n)(k:n≤m):cs.drop m=eP.drop m:=by
 rw [List.drop_eq_nil_of_le (by omega),List.drop_eq_nil_of_le (by omega)]
theorem ab5 {α:Type}[ah α][kp α]{A W cM W' u v}{x:α}(h:(I.of x).holds A W u)(cL:(I.of x).holds cM W' v):u=v:=by
 obtain⟨h1,ab⟩:=h;obtain⟨ax,aO⟩:=cL;have a7:=kp.uniq ab aO;by_cases aW:ah.agg α=true
 ·simp only [shaped,aW,if_true] at h1 ax;obtain⟨a,rfl⟩:=h1;obtain⟨b,rfl⟩:=ax;simp only [Value.cells] at a7;congr 1;exact Array.toList_inj.1 a7
 simp only [Bool.not_eq_true] at aW;simp only [shaped,aW,Bool.false_eq_true,if_false] at h1 ax;rw [cells_one h1,cells_one ax] at a7;simpa using a7
theorem SN {P:Value→Value→Bool} :∀ {cs:List Value},(∀ v∈cs,P v v=true)→ ((cs.zip cs).all fun(x,y)=>P x y)=true
 | [],_=>rfl
 | a::r,h=>by
   simp only [List.zip_cons_cons,List.all_cons,Bool.and_eq_true];exact⟨h a (by simp),SN fun v bb=>h v (by simp [bb])⟩
theorem ab6 {α:Type}[ah α][kp α]{A W u}{x:α}(h:(I.of x).holds A W u)(n:Nat):Instr.sameBits (n+1) u u=true:=by
 obtain⟨h1,ab⟩:=h;by_cases aW:ah.agg α=true
 ·simp only [shaped,aW,if_true] at h1;obtain⟨a,rfl⟩:=h1;simp only [Value.cells] at ab;simp only [Instr.sameBits,beq_self_eq_true,Bool.true_and];exact SN fun v bb=>kp.plain ab v bb n
 simp only [Bool.not_eq_true] at aW;simp only [shaped,aW,Bool.false_eq_true,if_false] at h1;rw [cells_one h1] at ab;exact kp.plain ab u (by simp) _
theorem acM {α:Type}[ah α][kp α]{P:Program}{A W cM W' u v}{x:α}(h:(I.of x).holds A W u)(cL:(I.of x).holds cM W' v)(jY:World):(Instr.keyThatStays u v).run P jY= .ok v jY:=by
 have:=ab5 h cL;subst this;simp [Instr.keyThatStays,ab6 h 9999]
def sk (P:Program)(t:TypeId)(α:Type)[ah α](n:Nat):Prop:= ∀ b d A W u (x:α),n≤d→ (I.of x).holds A W u→ (Instr.checkKey b d t u).run P W= .ok () W
theorem LC {P:Program}{t:TypeId}{α:Type}[ah α]{D:TypeDesc}(h:P.underlying t=some D)(hd:(match (motive:=TypeDesc→Bool) D with | .interface _ | .array _ _ | .struct _=>false | _=>true)=true):sk P t α 1:=by
 intro b d A W u x aH al;obtain⟨d,rfl⟩:∃ e,d=e+1:=⟨d - 1,by omega⟩;simp only [Instr.checkKey,Sem.run_bind,run_underlying h,Result.andThen_ok];cases D <;> simp at hd <;> rfl
theorem Ru {P:Program}{W:World}{GV:Type}(f:GV→Sem Unit):∀ (l:List GV),(∀ i∈l,(f i).run P W= .ok () W)→
 (forIn (m:=Sem) l () (fun i _=>do f i;pure (ForInStep.yield ()))).run P W= .ok () W
 | [],_=>by simp
 | i::r,h=>by
   have h1:=h i (by simp);have ab:=Ru (P:=P) (W:=W) f r (fun j aB=>h j (by simp [aB]));rw [List.forIn_cons];simp only [Sem.run_bind,h1,Result.andThen_ok,Sem.run_pure];rw [ab]
theorem Rq {P:Program}{W:World}{GV:Type}(f:GV→PUnit→Sem (ForInStep PUnit)):∀ (l:List GV),(∀ i∈l,(f i ()).run P W= .ok (.yield ()) W)→ (forIn (m:=Sem) l PUnit.unit f).run P W= .ok () W
 | [],_=>by simp
 | i::r,h=>by
   have h1:=h i (by simp);have ab:=Rq (P:=P) (W:=W) f r (fun j aB=>h j (by simp [aB]));rw [List.forIn_cons];simp only [Sem.run_bind,h1,Result.andThen_ok];exact ab
theorem Ul {P:Program}{t e n k:Nat}{α:Type}[ah α][Inhabited α](h:P.underlying t=some (.array n e))(eH:bO P e α)(he:sk P e α k):sk P t (Vector α n) (k+1):=by
 intro b d A W u x hd al;obtain⟨d,rfl⟩:∃ e,d=e+1:=⟨d - 1,by omega⟩;obtain⟨h1,ab⟩:=al;obtain⟨xs,rfl⟩:∃ cs,u= .agg cs:=by simpa [shaped,ah.agg] using h1
 simp only [Value.cells] at ab;have vK:xs.toList.length=n * ah.size α:=ah.len ab;have vf:∀ i∈List.range' 0 n,((do
  let z ← Go.sizeOf e
  let a ← part e xs (i * z)
  Instr.checkKey b d e a):Sem Unit).run P W= .ok () W:=by
  intro i ao
  have hF:i<n:=by simpa using ao
  have fT:i * ah.size α+ah.size α≤n * ah.size α:=(aK.idx (α:=α) n i hF).hf
  obtain⟨a,aW,vL⟩:=tz (A:=A) (P:=P) (W:=W) (cs:=xs) (off:=i * ah.size α) eH (by simp at vK;omega) ((aK.idx (α:=α) n i hF).jL ab)
  simp only [Sem.run_bind,eH.sizeOf,aW,Result.andThen_ok]
  exact he b d A W a _ (by omega) vL
 have aT:=Ru (P:=P) (W:=W) _ _ vf;simp only [Instr.checkKey,Sem.run_bind,run_underlying h,Result.andThen_ok,Std.Legacy.Range.forIn_eq_forIn_range'];simp only [Std.Legacy.Range.size,Nat.sub_zero,Nat.add_one_sub_one,Nat.div_one] at aT ⊢;simp only [bind_assoc] at aT;rw [aT];rfl
inductive Gj (P:Program)(β:Type)[ah β](k:Nat):List Field→Prop
 | nil:Gj P β k []
 | cons {γ:Type} [ah γ] {f r} (l:aK β γ):l.off=f.offset→bO P f.type γ→sk P f.type γ k→Gj P β k r→Gj P β k (f::r)
theorem Sj {P:Program}{t k:Nat}{β:Type}[ah β]{fs:Array Field}(aW:ah.agg β=true)(h:P.underlying t=some (.struct fs))(ad:Gj P β k fs.toList):sk P t β (k+1):=by
 intro b d A W u x hd al;obtain⟨d,rfl⟩:∃ e,d=e+1:=⟨d - 1,by omega⟩;obtain⟨h1,ab⟩:=al;obtain⟨xs,rfl⟩:∃ cs,u= .agg cs:=by simpa [shaped,aW] using h1
 simp only [Value.cells] at ab;have vK:xs.toList.length=ah.size β:=ah.len ab;have vf:∀ f∈fs.toList,((do
  if f.name≠ "_" then do
   let a ← part f.type xs f.offset
   Instr.checkKey b d f.type a):Sem Unit).run P W= .ok () W:=by
  have key:∀ l,Gj P β k l→ ∀ f∈l,((do
   if f.name≠ "_" then do
    let a ← part f.type xs f.offset
    Instr.checkKey b d f.type a):Sem Unit).run P W= .ok () W:=by
   intro l ak
   induction ak with
   | nil=>simp
   | cons l bg eH hk r b2=>
     rename_i f k7
     intro CN s9
     rcases List.mem_cons.1 s9 with rfl | s9
     ·split
      ·obtain⟨a,aW,vL⟩:=tz (A:=A) (P:=P) (W:=W) (cs:=xs) (off:=l.off) eH (by have:=l.hf;simp at vK;omega) (l.jL ab)
       rw [← bg]
       simp only [Sem.run_bind,aW,Result.andThen_ok]
       exact hk b d A W a _ (by omega) vL
      rfl
     exact b2 CN s9
  exact key _ ad
 simp only [Instr.checkKey,Sem.run_bind,run_underlying h,Result.andThen_ok];rw [← Array.forIn_toList,Rq]
 ·rfl
 intro f aT;have:=vf f aT;split
 ·rename_i aH;rw [if_pos aH] at this;simp only [Sem.run_bind] at this ⊢;revert this;generalize (part f.type xs f.offset).run P W=r;cases r <;> simp only [Result.andThen] <;> intro h <;> first | rw [h];rfl | cases h
 rfl
structure pX (P:Program)(t:TypeId)(α:Type)[ah α][DecidableEq α]:Prop where
 check:∀ b A W u (x:α),(I.of x).holds A W u→ (Instr.checkKey b 10000 t u).run P W= .ok () W
 same:∀ A W u v (x y:α),(I.of x).holds A W u→ (I.of y).holds A W v→ (Op.equal t u v).run P W= .ok (decide (x=y)) W
 now:∃ D,P.underlying t=some D∧ ∀ A W u v (x y:α),(I.of x).holds A W u→ (I.of y).holds A W v→Instr.sameNow D u v=none∨Instr.sameNow D u v=some (decide (x=y))
def mR {α β:Type}[DecidableEq α]:List (α×β)→α→Nat→Option (Nat×β)
 | [],_,_=>none
 | (k,v)::r,x,i=>if x=k then some (i,v) else mR r x (i+1)
def Found {α β:Type}[ah α][ah β](A:List Nat)(W:World)(kv:List (α×β)):Option (Nat×Value)→Option (Nat×β)→Prop
 | none,none=>True
 | some (i,u),some (j,v)=>i=j∧ (I.of v).holds A W u
 | _,_=>False
theorem Rw {α β:Type}[ah α][ah β][DecidableEq α]{D:TypeDesc}{A:List Nat}{W:World}{u:Value}{x:α}(hu:(I.of x).holds A W u)
 (hs:∀ v (y:α),(I.of y).holds A W v→Instr.sameNow D u v=none∨Instr.sameNow D u v=some (decide (x=y))) (Gk:List (α×β)):∀ {es:List MapEntry} {kv:List (α×β)} (i:Nat),lV A W es kv→
 Instr.findNow D u es i=none∨ ∃ r,Instr.findNow D u es i=some r∧Found A W Gk r (mR kv x i)
 | [],_,i,h=>by cases h;exact .inr ⟨none,rfl,trivial⟩
 | e::es,_,i,h=>by
   cases h with
   | cons h1 ab ax=>
     rename_i k v r
     rcases hs e.key k h1 with aO | aO
     ·exact .inl (by simp [Instr.findNow,aO])
     by_cases hk:x=k
     ·exact .inr ⟨some (i,e.val),by simp [Instr.findNow,aO,hk],by simp only [mR,if_pos hk];exact⟨rfl,ab⟩⟩
     rcases Rw hu hs Gk (i+1) ax with a7 | ⟨k7,a7,bl⟩
     ·exact .inl (by simp [Instr.findNow,aO,hk,a7])
     exact .inr ⟨k7,by simp [Instr.findNow,aO,hk,a7],by simp only [mR,if_neg hk];exact bl⟩
theorem Rk {α β:Type}[ah α][ah β][DecidableEq α]{P:Program}{t:TypeId}(lZ:pX P t α){A:List Nat}{W:World}{u:Value}{x:α}(hu:(I.of x).holds A W u)(Gk:List (α×β)):∀ {es:List MapEntry} {kv:List (α×β)} (i:Nat),lV A W es kv→
 ∃ r,(Instr.findAsking t u es i).run P W= .ok r W∧Found A W Gk r (mR kv x i)
 | [],_,i,h=>by cases h;exact⟨none,rfl,trivial⟩
 | e::es,_,i,h=>by
   cases h with
   | cons h1 ab ax=>
     rename_i k v r
     have aO:=lZ.same A W u e.key x k hu h1
     by_cases hk:x=k
     ·exact⟨some (i,e.val),by simp [Instr.findAsking,Sem.run_bind,aO,hk],by simp only [mR,if_pos hk];exact⟨rfl,ab⟩⟩
     obtain⟨k7,a7,bl⟩:=Rk lZ hu Gk (i+1) ax
     exact⟨k7,by simp [Instr.findAsking,Sem.run_bind,aO,hk,a7],by simp only [mR,if_neg hk];exact bl⟩
theorem Lc {α β:Type}[ah α][ah β][DecidableEq α]{P:Program}{t:TypeId}(lZ:pX P t α){A:List Nat}{W:World}{u:Value}{x:α}(hu:(I.of x).holds A W u){es:List MapEntry}{kv:List (α×β)}(h:lV A W es kv):
 ∃ r,(Instr.findKey t u es).run P W= .ok r W∧Found A W kv r (mR kv x 0):=by
 obtain⟨D,ko,hs⟩:=lZ.now
 rcases Rw hu (fun v y aR=>hs A W u v x y hu aR) kv 0 h with h1 | ⟨r,h1,ab⟩
 ·obtain⟨r,ax,aO⟩:=Rk lZ hu kv 0 h
  exact⟨r,by simp [Instr.findKey,Sem.run_bind,run_underlying ko,h1,ax],aO⟩
 exact⟨r,by simp [Instr.findKey,Sem.run_bind,run_underlying ko,h1],ab⟩
theorem LQ {α β:Type}[ah α][ah β][DecidableEq α]{A:List Nat}{W:World}{x:α} :∀ {es:List MapEntry} {kv:List (α×β)} {j i:Nat} {v:β},lV A W es kv→mR kv x j=some (i,v)→
 ∃ m e,i=j+m∧es[m]? =some e∧ (I.of x).holds A W e.key∧ (∀ (e':MapEntry) (y:β),(I.of x).holds A W e'.key→ (I.of y).holds A W e'.val→lV A W (es.set m e') (gn kv x y))∧lV A W (es.eraseIdx m) (iL kv x)
 | [],_,j,i,v,h,aT=>by cases h;cases aT
 | e::es,_,j,i,v,h,aT=>by
   cases h with
   | cons h1 ab ax=>
     rename_i k GR r
     by_cases hk:x=k
     ·subst hk
      simp only [mR,if_pos] at aT
      simp only [Option.some.injEq,Prod.mk.injEq] at aT
      exact⟨0,e,by omega,rfl,h1,fun e' y g1 g2=>by simp only [gn,if_pos];exact .cons g1 g2 ax,by simp only [iL,if_pos];exact ax⟩
     simp only [mR,if_neg hk] at aT
     obtain⟨m,e',g1,g2,g3,g4,g5⟩:=LQ ax aT
     exact⟨m+1,e',by omega,by simpa using g2,g3,fun Pf y av cQ=>by simp only [gn,if_neg hk];exact .cons h1 ab (g4 Pf y av cQ),by simp only [iL,if_neg hk];exact .cons h1 ab g5⟩
theorem Lq {α β:Type}[ah α][ah β][DecidableEq α]{A:List Nat}{W:World}{x:α} :∀ {es:List MapEntry} {kv:List (α×β)} {j:Nat},lV A W es kv→mR kv x j=none→
 (∀ (e':MapEntry) (y:β),(I.of x).holds A W e'.key→ (I.of y).holds A W e'.val→lV A W (es++[e']) (gn kv x y))∧iL kv x=kv
 | [],_,j,h,_=>by cases h;exact⟨fun e' y h1 ab=>.cons h1 ab .nil,rfl⟩
 | e::es,_,j,h,aT=>by
   cases h with
   | cons h1 ab ax=>
     rename_i k GR r
     by_cases hk:x=k
     ·simp [mR,hk] at aT
     simp only [mR,if_neg hk] at aT
     obtain⟨g1,g2⟩:=Lq ax aT
     exact⟨fun e' y av cQ=>by simp only [gn,if_neg hk];exact .cons h1 ab (g1 e' y av cQ),by simp only [iL,if_neg hk,g2]⟩
theorem lV.length {α β:Type}[ah α][ah β]{A W} :∀ {es:List MapEntry} {kv:List (α×β)},lV A W es kv→es.length=kv.length
 | _,_,.nil=>rfl
 | _,_,.cons _ _ r=>by simp [r.length]
theorem RT {α β:Type}[DecidableEq α]:∀ (kv:List (α×β)) (x:α) (i:Nat),(mR kv x i).map (·.2)=dD kv x
 | [],_,_=>rfl
 | (k,v)::r,x,i=>by simp only [mR,dD];split <;> simp [RT]
section
variable {c:cF} {E:List (Nat×I)} {L:List aF} {ops:Array Oper} {Q:Exit→Act→World→Prop}
variable {d:Option Tmp} {ty:TypeId} {pos:String} {af:Array Edge} {g:Option (Nat×Bool)} {x y z:Operand} {t t2:TypeId}
variable {bC:Type} [dU bC] {hp:aG bC} {loc:List aF}
theorem J.ae1 {α β:Type}[ah α][ah β]{rest:List Oper}{ba:Nat}(mk:bC)(hk:∀ p,dU.gp p mk= [⟨some p,.map ([]:List (α×β))⟩])(aH:Nat.blt ba c.n=true)
 (k:∀ p,p ∉ dI hp→J c ops Q rest ((ba,.of (⟨some p⟩:eQ))::E) (loc++aI ((p,mk)::hp))):J c ops Q (⟨some ba,.makeMap t none,ty,pos,af,none⟩::rest) E (loc++aI hp):=fun a W s=>by
 refine iP rfl (R:=fun v W'=>v= .map (some W.heap.size)∧W'=W.alloc (.map #[] 0)) (.mv ?_ ⟨rfl,rfl⟩) fun v W' ⟨bb,hw⟩=>?_
 ·simp only [execOp,Instr.makeMap,newObj,Sem.run_bind,Sem.run_pure];rfl
 subst bb
 subst hw
 refine k _ s.fresh _ _ (bI.put ?_ (by simpa using aH) (wN.2 rfl))
 refine(s.alloc (cp:= .map ([]:List (α×β))) ⟨#[],0,rfl,.nil,by simp,by simp⟩).perm ?_
 simp only [aI,hk,List.singleton_append]
 exact List.perm_middle.symm
theorem J.ET {α β:Type}[ah α][ah β]{rest:List Oper}{ba:Nat}(n:Nat)(aq:L.drop n=aI hp)(mk:bC)(hk:∀ p,dU.gp p mk= [⟨some p,.map ([]:List (α×β))⟩])(aH:Nat.blt ba c.n=true)(k:∀ a:Nat×aG bC,a.1 ∉ hp.map (·.1)∧a.2=(a.1,mk)::hp→J c ops Q rest ((ba,.of (⟨some a.1⟩:eQ))::E) (L.take n++aI a.2)):J c ops Q (⟨some ba,.makeMap t none,ty,pos,af,none⟩::rest) E L:=by
 have e:L=L.take n++aI hp:=by rw [← aq,List.take_append_drop]
 clear aq;generalize L.take n=loc at *;subst e;exact J.ae1 (α:=α) (β:=β) mk hk aH fun p h=>k (p,(p,mk)::hp) ⟨h,rfl⟩
theorem bI.Fc {a:Act}{W:World}(s:bI c E L a W){p:Nat}{α β:Type}[ah α][ah β]{kv:List (α×β)}(hm:(⟨some p,.map kv⟩:aF)∈L):
 ∃ es clock,W.heap[p]? =some (.map es clock)∧lV (aP L++c.bZ) W es.toList kv∧ (∀ x∈es.toList,x.born<clock)∧ (es.toList.map MapEntry.born).Nodup:=by
 obtain⟨o,bg,es,clock,rfl,ab,ax,aO⟩:=s.own _ hm
 exact⟨es,clock,bg,ab,ax,aO⟩
theorem RU {a:Act}{W:World}(s:bI c E L a W){p key elem:Nat}{α β:Type}[ah α][ah β][DecidableEq α][Inhabited β]{kv:List (α×β)}{i:α}(hu:c.P.underlying t=some (.map key elem))(lZ:pX c.P key α)(gU:dp c.P elem (default:β))
 (al:aN c E L x (.of (⟨some p⟩:eQ))) (aR:aN c E L y (.of i)) (hm:(⟨some p,.map kv⟩:aF)∈L):
 ∃ u,(I.of ((dD kv i).getD default)).holds (aP L++c.bZ) W u∧ ∀ ok,(Instr.lookup t (a.eval x) (a.eval y) ok).run c.P W= .ok (if ok then .tuple #[u,.bool (dD kv i).isSome] else u) W:=by
 obtain⟨es,clock,bg,ab,ax,aO⟩:=s.Fc hm
 have me:=wN.1 (al a W s)
 have re:=aR a W s
 obtain⟨r,aA,aT⟩:=Lc lZ re ab
 obtain⟨gP,dY,ej,bF,O3⟩:=gU.zero
 have bA:(getObj p).run c.P W= .ok (.map es clock) W:=by simp [getObj,Sem.run,bg]
 have ad:=fun b=>lZ.check b _ W _ i re
 have Cy:=RT kv i 0
 cases sa:mR kv i 0 with
 | none=>
   rw [sa] at aT Cy
   cases r with
   | some q=>exact aT.elim
   | none=>
     refine⟨dY,by rw [← Cy];exact O3 _ W,fun ok=>?_⟩
     rw [← Cy]
     simp [Instr.lookup,Sem.run_bind,run_underlying hu,me,bA,ad,aA,zeroValue,typeInfo,ej,bF]
 | some q=>
   rw [sa] at aT Cy
   cases r with
   | none=>exact aT.elim
   | some nN=>
     refine⟨nN.2,by rw [← Cy];exact aT.2,fun ok=>?_⟩
     rw [← Cy]
     simp [Instr.lookup,Sem.run_bind,run_underlying hu,me,bA,ad,aA]
theorem uN {p key elem:Nat}{α β:Type}[ah α][ah β][DecidableEq α][Inhabited β]{kv:List (α×β)}{i:α}{r:β}(hu:c.P.underlying t=some (.map key elem))(lZ:pX c.P key α)(gU:dp c.P elem (default:β))
 (al:aN c E L x (.of (⟨some p⟩:eQ))) (aR:aN c E L y (.of i)) (hm:(⟨some p,.map kv⟩:aF)∈L) (aA:(dD kv i).getD default=r):
 bc c E L ⟨d,.lookup t x y false,ty,pos,af,g⟩ (.of r):= .pure fun a W s=>by
 subst aA
 obtain⟨u,h1,ab⟩:=RU s hu lZ gU al aR hm
 have ax:=ab false
 exact⟨u,by simp only [execOp,Sem.run_bind,ax,Result.andThen_ok];rfl,h1⟩
theorem LK {p key elem:Nat}{α β:Type}[ah α][ah β][DecidableEq α][Inhabited β]{kv:List (α×β)}{i:α}{r:Option β}(hu:c.P.underlying t=some (.map key elem))(lZ:pX c.P key α)(gU:dp c.P elem (default:β))
 (al:aN c E L x (.of (⟨some p⟩:eQ))) (aR:aN c E L y (.of i)) (hm:(⟨some p,.map kv⟩:aF)∈L) (aA:dD kv i=r):
 bc c E L ⟨d,.lookup t x y true,ty,pos,af,g⟩ (.bP [.of (r.getD default),.of r.isSome]):= .pure fun a W s=>by
 subst aA
 obtain⟨u,h1,ab⟩:=RU s hu lZ gU al aR hm
 have ax:=ab true
 exact⟨_,by simp only [execOp,Sem.run_bind,ax,Result.andThen_ok];rfl,_,rfl,.cons h1 (.cons (of_bool.2 rfl) .nil)⟩
theorem adH {es:List MapEntry}{m:Nat}{e e':MapEntry}(h:es[m]? =some e)(hb:e'.born=e.born):(es.set m e').map MapEntry.born=es.map MapEntry.born:=by
 apply List.ext_getElem?;intro j;simp only [List.getElem?_map,List.getElem?_set];split
 ·rename_i aB;subst aB;have:=(List.getElem?_eq_some_iff.1 h).1;rw [if_pos this,h];simp [hb]
 rfl
theorem J.af8 {rest:List Oper}{op:Op}(Cz:op= .mapUpdate t x y z∨op= .insert t x y z){p key elem:Nat}{k k':bC}{α β:Type}[ah α][ah β][kp α][DecidableEq α]{kv sb:List (α×β)}{i:α}{v:β}(hu:c.P.underlying t=some (.map key elem))(lZ:pX c.P key α)
 (al:aN c E (loc++aI hp) x (.of (⟨some p⟩:eQ))) (aR:aN c E (loc++aI hp) y (.of i)) (bF:aN c E (loc++aI hp) z (.of v)) (hp':pat hp p=some k) (hk:dU.gp p k= [⟨some p,.map kv⟩]) (um:gn kv i v=sb) (j9:dU.gp p k'= [⟨some p,.map sb⟩])
 (kG:J c ops Q rest E (loc++aI (ct hp p k'))):J c ops Q (⟨none,op,ty,pos,af,none⟩::rest) E (loc++aI hp):=fun a W s=>by
 subst um
 obtain⟨es,clock,bg,ab,ax,aO⟩:=s.Fc (iK (n:=loc.length) (by simp) hp' hk)
 have me:=wN.1 (al a W s)
 have re:=aR a W s
 have X8:=bF a W s
 obtain⟨r,aA,aT⟩:=Lc lZ re ab
 have bA:(getObj p).run c.P W= .ok (.map es clock) W:=by simp [getObj,Sem.run,bg]
 have ad:=lZ.check false _ W _ i re
 have cj:p<W.heap.size:=(Array.getElem?_eq_some_iff.1 bg).1
 have lr:∀ o,(setObj p o).run c.P W= .ok () (W.putObj p o):=fun o=>by simp only [setObj,Sem.run,bg];rfl
 have key:∃ nI yW,(Instr.mapUpdate t (a.eval x) (a.eval y) (a.eval z)).run c.P W= .ok () (W.putObj p (.map nI yW))∧lV (aP (loc++aI hp)++c.bZ) W nI.toList (gn kv i v)∧ (∀ x∈nI.toList,x.born<yW)∧ (nI.toList.map MapEntry.born).Nodup:=by
  cases sa:mR kv i 0 with
  | none=>
    rw [sa] at aT
    cases r with
    | some q=>exact aT.elim
    | none=>
      obtain⟨g1,_⟩:=Lq ab sa
      refine⟨es.push { key:=a.eval y,val:=a.eval z,born:=clock },clock+1,by simp [Instr.mapUpdate,Sem.run_bind,run_underlying hu,me,bA,ad,aA,lr],by simpa using g1 { key:=a.eval y,val:=a.eval z,born:=clock } v re X8,?_,?_⟩
      ·intro q hq
       simp only [Array.toList_push,List.mem_append,List.mem_singleton] at hq
       rcases hq with hq | rfl
       ·exact Nat.lt_succ_of_lt (ax q hq)
       exact Nat.lt_succ_self _
      simp only [Array.toList_push,List.map_append,List.map_cons,List.map_nil]
      refine List.nodup_append.2 ⟨aO,by simp,fun b hb b' X9=>?_⟩
      simp only [List.mem_singleton] at X9
      subst X9
      obtain⟨q,hq,rfl⟩:=List.mem_map.1 hb
      exact Nat.ne_of_lt (ax q hq)
  | some q=>
    rw [sa] at aT
    cases r with
    | none=>exact aT.elim
    | some nN=>
      obtain⟨m,e,g1,g2,g3,g4,_⟩:=LQ ab sa
      have iZ:nN.1=m:=by have:=aT.1;omega
      have hq:es[m]? =some e:=by simpa using g2
      have bW:=acM (P:=c.P) g3 re W
      let e':MapEntry:= { e with key:=a.eval y,val:=a.eval z }
      have zj:(es.modify m fun e=>{ e with key:=a.eval y,val:=a.eval z }).toList=es.toList.set m e':=by
       apply List.ext_getElem?;intro j;rw [Array.getElem?_toList,Array.getElem?_modify,List.getElem?_set,Array.getElem?_toList];by_cases aB:m=j
       ·subst aB;rw [if_pos rfl,if_pos rfl,hq,if_pos (by simpa using (Array.getElem?_eq_some_iff.1 hq).1)];rfl
       rw [if_neg aB,if_neg aB]
      refine⟨es.modify m fun e=>{ e with key:=a.eval y,val:=a.eval z },clock,by simp [Instr.mapUpdate,Sem.run_bind,run_underlying hu,me,bA,ad,aA,lr,iZ,hq,bW],by rw [zj];exact g4 e' v re X8,?_,?_⟩
      ·rw [zj]
       intro w hw
       rcases List.mem_or_eq_of_mem_set hw with hw | rfl
       ·exact ax w hw
       exact ax e (List.mem_of_getElem? g2)
      rw [zj,adH (e':=e') g2 rfl];exact aO
 obtain⟨nI,yW,j7,ar,aU,cz⟩:=key
 obtain⟨R,bo,bN⟩:=uF hp'
 have bN:=bN k'
 rw [hk] at bo
 rw [j9] at bN
 have b3:∀ {z:List (α×β)} {M:List aF},M.Perm ([⟨some p,.map z⟩]++R)→ (loc++M).Perm (⟨some p,.map z⟩::(loc++R)):=fun h=>(h.append_left loc).trans (by simp only [List.singleton_append];exact List.perm_middle)
 have cf:=(s.perm (b3 bo)).sU (i:=0) (cp':= .map (gn kv i v)) rfl (o':= .map nI yW) ⟨nI,yW,rfl,ar.mono (oD (b3 bo)),aU,cz⟩
 refine iP rfl (R:=fun v W'=>W'=W.putObj p (.map nI yW)) (.Bv ?_ rfl) fun v W' hw=>?_
 ·rcases Cz with rfl | rfl <;> simp [execOp,j7]
 subst hw
 exact kG _ _ (cf.perm (b3 bN).symm)
theorem J.E5 {rest:List Oper}{op:Op}(n:Nat)(aq:L.drop n=aI hp)(Cz:op= .mapUpdate t x y z∨op= .insert t x y z){p key elem:Nat}{k k':bC}{cE:aG bC}{α β:Type}[ah α][ah β][kp α][DecidableEq α]{kv sb:List (α×β)}{i:α}{v:β}(hu:c.P.underlying t=some (.map key elem))(lZ:pX c.P key α)(al:aN c E L x (.of (⟨some p⟩:eQ)))(aR:aN c E L y (.of i))(bF:aN c E L z (.of v))(hp':pat hp p=some k)(hk:dU.gp p k= [⟨some p,.map kv⟩])(um:gn kv i v=sb)(j9:dU.gp p k'= [⟨some p,.map sb⟩])(bF:ct hp p k'=cE)(kG:J c ops Q rest E (L.take n++aI cE)):J c ops Q (⟨none,op,ty,pos,af,none⟩::rest) E L:=by
 subst bF;have e:L=L.take n++aI hp:=by rw [← aq,List.take_append_drop]
 clear aq;generalize L.take n=loc at *;subst e;exact J.af8 Cz hu lZ al aR bF hp' hk um j9 kG
theorem J.af9 {rest:List Oper}{p key elem:Nat}{k k':bC}{α β:Type}[ah α][ah β][DecidableEq α]{kv sb:List (α×β)}{i:α}(hu:c.P.underlying t=some (.map key elem))(lZ:pX c.P key α)
 (al:aN c E (loc++aI hp) x (.of (⟨some p⟩:eQ))) (aR:aN c E (loc++aI hp) y (.of i)) (hp':pat hp p=some k) (hk:dU.gp p k= [⟨some p,.map kv⟩]) (um:iL kv i=sb) (j9:dU.gp p k'= [⟨some p,.map sb⟩])
 (kG:J c ops Q rest E (loc++aI (ct hp p k'))):J c ops Q (⟨none,.call ⟨.builtin .delete,#[x,y],#[t,t2]⟩,ty,pos,af,none⟩::rest) E (loc++aI hp):=fun a W s=>by
 subst um
 obtain⟨es,clock,bg,ab,ax,aO⟩:=s.Fc (iK (n:=loc.length) (by simp) hp' hk)
 have me:=wN.1 (al a W s)
 have re:=aR a W s
 obtain⟨r,aA,aT⟩:=Lc lZ re ab
 have bA:(getObj p).run c.P W= .ok (.map es clock) W:=by simp [getObj,Sem.run,bg]
 have ad:=fun b=>lZ.check b _ W _ i re
 have lr:∀ o,(setObj p o).run c.P W= .ok () (W.putObj p o):=fun o=>by simp only [setObj,Sem.run,bg];rfl
 have key:∃ nI,(Builtin.delete_ #[t,t2] ty #[a.eval x,a.eval y]).run c.P W= .ok (.tuple #[]) (W.putObj p (.map nI clock))∧lV (aP (loc++aI hp)++c.bZ) W nI.toList (iL kv i)∧ (∀ x∈nI.toList,x.born<clock)∧ (nI.toList.map MapEntry.born).Nodup:=by
  cases sa:mR kv i 0 with
  | none=>
    rw [sa] at aT
    cases r with
    | some q=>exact aT.elim
    | none=>
      obtain⟨_,g1⟩:=Lq ab sa
      exact⟨es,by simp [Builtin.delete_,Sem.run_bind,run_underlying hu,me,bA,ad,aA,lr],by rw [g1];exact ab,ax,aO⟩
  | some q=>
    rw [sa] at aT
    cases r with
    | none=>exact aT.elim
    | some nN=>
      obtain⟨m,e,g1,g2,_,_,g5⟩:=LQ ab sa
      have iZ:nN.1=m:=by have:=aT.1;omega
      have hm:m<es.size:=by simpa using (List.getElem?_eq_some_iff.1 g2).1
      have he:(es.eraseIdxIfInBounds m).toList=es.toList.eraseIdx m:=by simp [Array.eraseIdxIfInBounds,hm]
      have nD:(es.toList.eraseIdx m).Sublist es.toList:=List.eraseIdx_sublist _ _
      exact⟨es.eraseIdxIfInBounds m,by simp [Builtin.delete_,Sem.run_bind,run_underlying hu,me,bA,ad,aA,lr,iZ],by rw [he];exact g5,by rw [he];exact fun w hw=>ax w (nD.subset hw),by rw [he];exact(nD.map _).nodup aO⟩
 obtain⟨nI,j7,ar,aU,cz⟩:=key
 obtain⟨R,bo,bN⟩:=uF hp'
 have bN:=bN k'
 rw [hk] at bo
 rw [j9] at bN
 have b3:∀ {z:List (α×β)} {M:List aF},M.Perm ([⟨some p,.map z⟩]++R)→ (loc++M).Perm (⟨some p,.map z⟩::(loc++R)):=fun h=>(h.append_left loc).trans (by simp only [List.singleton_append];exact List.perm_middle)
 have cf:=(s.perm (b3 bo)).sU (i:=0) (cp':= .map (iL kv i)) rfl (o':= .map nI clock) ⟨nI,clock,rfl,ar.mono (oD (b3 bo)),aU,cz⟩
 refine iP rfl (R:=fun v W'=>W'=W.putObj p (.map nI clock)) (.mv (v:= .tuple #[]) ?_ rfl) fun v W' hw=>?_
 ·simp [execOp,resolve,invoke,builtin,j7]
 subst hw
 exact kG _ _ (cf.perm (b3 bN).symm)
theorem J.Je {rest:List Oper}{p key elem:Nat}{k k':bC}{cE:aG bC}{α β:Type}[ah α][ah β][DecidableEq α]{kv sb:List (α×β)}{i:α}(n:Nat)(aq:L.drop n=aI hp)(hu:c.P.underlying t=some (.map key elem))(lZ:pX c.P key α)(al:aN c E L x (.of (⟨some p⟩:eQ)))(aR:aN c E L y (.of i))(hp':pat hp p=some k)(hk:dU.gp p k= [⟨some p,.map kv⟩])(um:iL kv i=sb)(j9:dU.gp p k'= [⟨some p,.map sb⟩])(bF:ct hp p k'=cE)(kG:J c ops Q rest E (L.take n++aI cE)):J c ops Q (⟨none,.call ⟨.builtin .delete,#[x,y],#[t,t2]⟩,ty,pos,af,none⟩::rest) E L:=by
 subst bF;have e:L=L.take n++aI hp:=by rw [← aq,List.take_append_drop]
 clear aq;generalize L.take n=loc at *;subst e;exact J.af9 hu lZ al aR hp' hk um j9 kG
theorem aep {p key elem:Nat}{α β:Type}[ah α][ah β]{kv:List (α×β)}(hu:c.P.underlying t=some (.map key elem))(al:aN c E L x (.of (⟨some p⟩:eQ)))(hm:(⟨some p,.map kv⟩:aF)∈L):
 bc c E L ⟨d,.call ⟨.builtin .len,#[x],#[t]⟩,ty,pos,af,g⟩ (.of (kv.length:Int)):= .pure fun a W s=>by
 obtain⟨es,clock,bg,ab,ax,aO⟩:=s.Fc hm
 have me:=wN.1 (al a W s)
 have bA:(getObj p).run c.P W= .ok (.map es clock) W:=by simp [getObj,Sem.run,bg]
 have ak:es.size=kv.length:=by simpa using ab.length
 refine⟨.int .i64 kv.length,?_,of_int.2 rfl⟩
 simp [execOp,resolve,invoke,builtin,Builtin.len_,me,bA,ak,run_underlying hu,goInt]
end
theorem aga {P:Program}{t:TypeId}(h:P.underlying t=some (.int .i64)):pX P t Int where
 check b A W u x al:=LC (α:=Int) h rfl b 10000 A W u x (by decide) al
 same A W u v x y al aR:=by
  have:=(TD h).run 10000 (by decide) A W u v x y al aR;simpa [Op.equal,Op.maxDepth] using this
 now:=⟨_,h,fun A W u v x y al aR=>.inr (by
  rw [of_int.1 al,of_int.1 aR];simp only [Instr.sameNow,if_pos];rfl)⟩
theorem M5 {P:Program}{t:TypeId}{α:Type}[ah α][DecidableEq α]{D:TypeDesc}{n m:Nat}(h:P.underlying t=some D)(ko:(match (motive:=TypeDesc→Bool) D with | .array _ _ | .struct _=>true | _=>false)=true)(anZ:sk P t α n)(ux:ma P t α m)(aH:Nat.ble n 10000=true)(hm:Nat.ble m 10000=true):pX P t α where
 check b A W u x al:=anZ b 10000 A W u x (Nat.le_of_ble_eq_true aH) al
 same A W u v x y al aR:=by
  have:=ux.run 10000 (Nat.le_of_ble_eq_true hm) A W u v x y al aR;simpa [Op.equal,Op.maxDepth] using this
 now:=⟨_,h,fun A W u v x y al aR=>.inl (by cases D <;> simp at ko <;> rfl)⟩
structure k8 (P:Program)(t:TypeId)(name:String)(f:FuncId):Prop where
 run:∀ v W args,(callMethod (.iface t v) name args).run P W= .ok (.enter f (#[v]++args)) W
theorem k8.of {P:Program}{t:TypeId}{name:String}{f:FuncId}{i:TypeInfo}{D:TypeDesc}{m:Method}(ao:P.info? t=some i)(hm:i.methods.find? (fun x=>x.name==name)=some m)(hp:m.path= #[])(aT:m.func=some (f,false))(ko:P.underlying t=some D)
 (aH:(match (motive:=TypeDesc→Bool) D with | .pointer _=>false | _=>true)=true) (cn:bM P f):k8 P t name f where
 run v W args:=by
  have ams:∀ args,(callFunc f args).run P W= .ok (.enter f args) W:=fun args=>cn.run ..;have dj:∀ n,(method (n+1) t v name).run P W= .ok (f,v) W:=fun n=>by
   simp only [method,Sem.run_bind,typeInfo,run_program,Result.andThen_ok,ao,Sem.run_pure,hm,hp,aT,follow,receiverAt,run_underlying ko];cases D <;> simp at aH <;> simp [Place.get]
  obtain⟨n,aH⟩:∃ n,P.types.size+Made.depth=n+1:=⟨P.types.size+Made.depth - 1,by simp [Made.depth]⟩;simp only [callMethod,Sem.run_bind,run_program,Result.andThen_ok,aH,dj,ams]
theorem k8.vQ {P:Program}{t:TypeId}{name:String}{f:FuncId}{D:TypeDesc}(hm:((P.info? t).bind fun i=>(i.methods.find? (fun x=>x.name==name)).map fun m=>(m.path.size,m.func))=some (0,some (f,false)))(ko:P.underlying t=some D)
 (aH:(match (motive:=TypeDesc→Bool) D with | .pointer _=>false | _=>true)=true) (cn:bM P f):k8 P t name f:=by
 cases ao:P.info? t with
 | none=>rw [ao] at hm;cases hm
 | some i=>
   rw [ao] at hm
   simp only [Option.bind_some] at hm
   cases ab:i.methods.find? (fun x=>x.name==name) with
   | none=>rw [ab] at hm;cases hm
   | some m=>
     rw [ab] at hm
     simp only [Option.map_some,Option.some.injEq,Prod.mk.injEq] at hm
     exact k8.of ao ab (Array.eq_empty_of_size_eq_zero hm.1) hm.2 ko aH cn
theorem bJ.map {P:Program}{f:FuncId}{τs:List I}{Lin:List aF}{δ zL:Type}{ρ:δ→I}{Lo:δ→List aF}{xB:zL→I}{Ya:zL→List aF}(F:δ→zL)(aA:∀ d,xB (F d)=ρ d)(ak:∀ d,Ya (F d)=Lo d)(h:bJ P f τs Lin ρ Lo):bJ P f τs Lin xB Ya:=
 fun A W vs h1 ab ax aO a7=>(h A W vs h1 ab ax aO a7).mono fun e W' ⟨v,d,av,cQ,ev,hJ,ec,dM⟩=>⟨v,F d,av,cQ,by rw [ak];exact ev,by rw [ak];exact hJ,by rw [ak];exact ec,by rw [ak,aA];exact dM⟩
structure nZ (P:Program)(name:String)(τ:I)(τs:List I)(Lin:List aF){δ:Type}(ρ:δ→I)(Lo:δ→List aF):Prop where
 go:∀ (A:List Nat) (W:World) (u:Value) (vs:List Value),(∀ k∈A,k<W.heap.size∧k ∉ aP Lin)→ (aP Lin).Nodup→ (∀ k∈aP Lin,k<W.heap.size)→ (∀ e∈Lin,e.ok (aP Lin++A) W)→ho (aP Lin++A) W (τ::τs) (u::vs)→
  ∃ f v,(∀ args,(callMethod u name args).run P W= .ok (.enter f (#[v]++args)) W)∧Calls P f (v::vs).toArray W (kZ (aP Lin) A W ρ Lo)
theorem nZ.of {P:Program}{name:String}{t:TypeId}{f:FuncId}{τ σ:I}{τs:List I}{Lin:List aF}{δ:Type}{ρ:δ→I}{Lo:δ→List aF}(mt:k8 P t name f)(Gl:∀ A W u,τ.holds A W u→ ∃ v,u= .iface t v∧σ.holds A W v)
 (h:bJ P f (σ::τs) Lin ρ Lo):nZ P name τ τs Lin ρ Lo where
 go A W u vs h1 ab ax aO a7:=by
  cases a7 with
  | cons bl cN=>
    obtain⟨v,rfl,cW⟩:=Gl _ _ _ bl
    exact⟨f,v,fun args=>mt.run v W args,h A W (v::vs) h1 ab ax aO (.cons cW cN)⟩
section
variable {c:cF} {E:List (Nat×I)} {L:List aF} {ops:Array Oper} {Q:Exit→Act→World→Prop}
variable {d:Option Tmp} {ty:TypeId} {pos:String} {af:Array Edge} {g:Option (Nat×Bool)} {x y z:Operand} {t t2:TypeId}
theorem SO {a:Act}{W:World}{name:String}{xs:List Operand}{ats:Array TypeId}{τ:I}{τs:List I}{Lin Lr:List aF}{δ:Type}{ρ:δ→I}{Lo:δ→List aF}(h:nZ c.P name τ τs Lin ρ Lo)
 (s:bI c E (Lin++Lr) a W) (al:ho (aP (Lin++Lr)++c.bZ) W (τ::τs) ((x::xs).map a.eval)):
 hy c.P ⟨d,.call ⟨.invoke x name,xs.toArray,ats⟩,ty,pos,af,g⟩ a W fun v W'=> ∃ ba,bI c E (Lo ba++Lr) a W'∧ (ρ ba).holds (aP (Lo ba++Lr)++c.bZ) W' v:=by
 have mz:=s.nodup
 rw [ff] at mz
 obtain⟨om,qp,q9⟩:=List.nodup_append.1 mz
 have lr:Ext (aP (Lin++Lr)++c.bZ) W (aP Lin++(aP Lr++c.bZ)) W:=Bw
 have eM:∀ k∈aP Lr++c.bZ,k<W.heap.size∧k ∉ aP Lin:=fun k hm=>by
  rcases List.mem_append.1 hm with hm | hm
  ·exact⟨s.lt k (by rw [ff];exact List.mem_append.2 (.inr hm)),fun h=>q9 k h k hm rfl⟩
  obtain⟨h1,ab⟩:=s.e6 k hm;exact⟨h1,fun h=>ab (by rw [ff];exact List.mem_append.2 (.inl h))⟩
 have cj:∀ k∈aP Lin,k<W.heap.size:=fun k hm=>s.lt k (by rw [ff];exact List.mem_append.2 (.inl hm))
 obtain⟨f,v,j7,ad⟩:=h.go (aP Lr++c.bZ) W (a.eval x) (xs.map a.eval) eM om cj (fun e he=>aF.uS (s.own e (List.mem_append.2 (.inl he))) lr fun _ _=>rfl) (by simpa using al.mono lr)
 refine .wL (f:=f) (args:=(v::xs.map a.eval).toArray) (W':=W) ?_ (ad.mono fun e W' ⟨v,ba,he,aT,h1,ab,ax,aO⟩=>?_)
 ·have:=j7 (xs.map a.eval).toArray
  simp only [execOp,resolve,Sem.run_bind,Sem.run_pure,Result.andThen_ok,invoke]
  simp only [List.map_toArray] at this ⊢
  simp
  rw [List.take_of_length_le (by simp),this]
  simp
 refine⟨v,he,ba,s.after aT h1 ab ax,(ρ ba).mono Ij aO⟩
variable {bC:Type} [dU bC] {hp:aG bC}
theorem J.Fu {rest:List Oper}{ba:Nat}{name:String}{xs:List Operand}{ats:Array TypeId}{τ:I}{τs:List I}{Lin Lr:List aF}{δ:Type}{ρ:δ→I}{Lo:δ→List aF}{hq:δ→aG bC}(n m:Nat)(aq:L.drop n=aI hp)(h:nZ c.P name τ τs (Lin++aI hp) ρ (fun d=>Lo d++aI (hq d)))
 (h1:(L.take n).take m=Lin) (ab:(L.take n).drop m=Lr) (al:iJ c E L (x::xs) (τ::τs)) (aH:Nat.blt ba c.n=true) (k:∀ q,J c ops Q rest ((ba,ρ q)::E) ((Lo q++Lr)++aI (hq q))):
 J c ops Q (⟨some ba,.call ⟨.invoke x name,xs.toArray,ats⟩,ty,pos,af,none⟩::rest) E L:=by
 have e:L=(Lin++Lr)++aI hp:=by rw [← h1,← ab,List.take_append_drop,← aq,List.take_append_drop]
 clear aq h1 ab
 subst e
 exact fun a W s=>iP rfl (SO (Lr:=Lr) h (s.perm nn) ((al.holds a W s).mono (oD nn))) fun v W' ⟨q,cf,bb⟩=>
  k q _ _ ((cf.perm nn).put (by simpa using aH) ((ρ q).mono (oD nn) bb))
theorem dL.Fu {name:String}{xs:List Operand}{ats:Array TypeId}{τ:I}{τs:List I}{ρ:I}(n:Nat)(aq:L.drop n=aI hp)(h:nZ c.P name τ τs (aI hp) (fun _:Unit=>ρ) (fun _=>aI hp))
 (al:iJ c E L (x::xs) (τ::τs)):dL c E L ⟨d,.call ⟨.invoke x name,xs.toArray,ats⟩,ty,pos,af,g⟩ ρ:=fun a W s=>by
 have e:L=L.take n++aI hp:=by rw [← aq,List.take_append_drop]
 have b3:L.Perm (aI hp++L.take n):=by
  conv=>lhs;rw [e]
  exact List.perm_append_comm
 have bg:=SO (d:=d) (ty:=ty) (pos:=pos) (af:=af) (g:=g) (ats:=ats) (Lr:=L.take n) h (s.perm b3) ((al.holds a W s).mono (oD b3))
 unfold hy at bg ⊢
 exact Oper.wp_mono (fun gv W' ⟨v,h1,_,ab,ax⟩=>⟨v,h1,ab.perm b3.symm,ρ.mono (oD b3.symm) ax⟩) bg
theorem MC {D:TypeDesc}{σ τ:I}(hu:c.P.underlying t=some D)(ko:(match (motive:=TypeDesc→Bool) D with | .interface _=>false | _=>true)=true)(al:aN c E L x σ)(Gl:∀ A W v,σ.holds A W v→τ.holds A W (.iface t v)):
 bc c E L ⟨d,.makeInterface t x,ty,pos,af,g⟩ τ:= .pure fun a W s=>
 ⟨.iface t (a.eval x),by
   simp only [execOp,Instr.makeInterface,Sem.run_bind,run_underlying hu,Result.andThen_ok];cases D <;> simp at ko <;> rfl,Gl _ _ _ (al a W s)⟩
end
def JJ (P:Program)(u:Value){α σ ε γ:Type}(τ:α→I)(Ls:σ→γ→List aF)(Lx:ε→γ→List aF)(step:α→σ→ag (σ ⊕ ε))(an0:List Nat→World→Prop):Prop:=
 ∃ l,u= .func (.yield l) #[] #[]∧ ∀ x s R,step x s R→ ∀ g A W v,an0 (aP (Ls s g)++A) W→FE A W (Ls s g)→ (τ x).holds (aP (Ls s g)++A) W v→
   YieldAt Fence.wide 8 P l #[v] W (fun e W'=>(∃ cf,R (.inl cf)∧kZ (aP (Ls s g)) A W (fun _:γ=>I.of true) (fun g=>Ls cf g) e W')∨ ∃ q,R (.inr q)∧kZ (aP (Ls s g)) A W (fun _:γ=>I.of false) (fun g=>Lx q g) e W')
structure EV (P:Program)(f:FuncId)(τs:List I){bC:Type}[dU bC]{α:Type}(τ:α→I)(run:∀ {σ ε:Type},(σ→aG bC)→ (α→σ→ag (σ ⊕ ε))→σ→ag (σ ⊕ ε)):Prop where
 go:∀ {σ ε γ:Type} (Ls:σ→γ→List aF) (Lx:ε→γ→List aF) (hq:σ→aG bC) (lH:σ→γ→List aF),(∀ s g,Ls s g=lH s g++aI (hq s))→ ∀ (step:α→σ→ag (σ ⊕ ε)) (cg:σ) (g0:γ) (R:σ ⊕ ε→Prop),run hq step cg R→
  ∀ (A:List Nat) (W:World) (u:Value) (vs:List Value),FE A W (Ls cg g0)→ho (aP (Ls cg g0)++A) W τs vs→
    JJ P u τ Ls Lx step (fun cM W'=>Ext (aP (Ls cg g0)++A) W cM W')→
    Calls P f (u::vs).toArray W (kZ (aP (Ls cg g0)) A W (δ:= {r // R r}×γ) (fun _=>.bP []) (fun d=>Lr Ls Lx d.1.1 d.2))
theorem EV.of {P:Program}{f:FuncId}{fn:Func}{code:Code}{n:Nat}{τs:List I}{bC:Type}[dU bC]{α:Type}{τ:α→I}{run:∀ {σ ε:Type},(σ→aG bC)→ (α→σ→ag (σ ⊕ ε))→σ→ag (σ ⊕ ε)}
 (aT:P.funcs[f]? =some fn) (hb:fn.body=some code) (aH:fn.ntmps=n) (hlen:Nat.ble (τs.length+1) n=true)
 (h:∀ {σ ε γ:Type} (Ls:σ→γ→List aF) (Lx:ε→γ→List aF) (hq:σ→aG bC) (lH:σ→γ→List aF),(∀ s g,Ls s g=lH s g++aI (hq s))→ ∀ (step:α→σ→ag (σ ⊕ ε)) (cg:σ) (g0:γ) (R:σ ⊕ ε→Prop),run hq step cg R→
  ∀ W A u,JJ P u τ Ls Lx step (fun cM W'=>Ext (aP (Ls cg g0)++A) W cM W')→
    aw ⟨P,n,W,aP (Ls cg g0),A,none,[]⟩ (bodyPost P fn (kZ (aP (Ls cg g0)) A W (δ:= {r // R r}×γ) (fun _=>.bP []) (fun d=>Lr Ls Lx d.1.1 d.2))) code (params 0 (.eq u::τs)) (Ls cg g0)):EV P f τs τ run:=by
 refine⟨?_⟩
 intro σ ε γ Ls Lx hq lH pK step cg g0 R aA A W u vs ak bb aR
 refine calls_of_wp aT hb (wpIn_wide.1 (h Ls Lx hq lH pK step cg g0 R aA W A u aR _ _ ?_))
 have vO:ho (aP (Ls cg g0)++A) W (.eq u::τs) (u::vs):= .cons rfl bb
 have lz:=vO.length
 have hle:τs.length+1≤n:=Nat.le_of_ble_eq_true hlen
 exact
 {defers:=rfl
  size:=by simp at lz;simp [aH,lz];omega
  env:=fun t τ e1=>by
   obtain⟨_,v,ab,ax⟩:=Bk vO 0 t τ e1;refine⟨v,?_,ax⟩;have cj:t<(u::vs).length:=(List.getElem?_eq_some_iff.1 ab).1;rw [Array.getElem?_append_left (by simpa using cj)];simpa using ab
  dO:= .refl _ _
  own:=ak.ok
  nodup:=ak.nodup
  lt:=ak.lt
  gL:=fun k hk _=>hk
  e6:=ak.e6 }
section
variable {c:cF} {E:List (Nat×I)} {L:List aF} {ops:Array Oper} {Q:Exit→Act→World→Prop}
variable {d:Option Tmp} {ty:TypeId} {pos:String} {af:Array Edge} {g:Option (Nat×Bool)} {x y:Operand} {t t2:TypeId}
theorem Vb {bC:Type}[dU bC]{σ γ:Type}{Ls lH:σ→γ→List aF}{hq:σ→aG bC}{s:σ}{g:γ}{p:Nat}{k:bC}{e:aF}(n:Nat)(aq:L.drop n=Ls s g)(pK:∀ s g,Ls s g=lH s g++aI (hq s))(h:pat (hq s) p=some k)(hk:dU.gp p k= [e]):e∈L:=by
 obtain⟨R,h1,_⟩:=uF h;rw [hk] at h1;have:e∈L.drop n:=by rw [aq,pK];exact List.mem_append.2 (.inr (h1.mem_iff.2 (by simp)))
 exact List.mem_of_mem_drop this
theorem J.afC {rest:List Oper}{ba wg:Nat}{ats:Array TypeId}{u:Value}{α σ ε γ:Type}{τ:α→I}{Ls:σ→γ→List aF}{Lx:ε→γ→List aF}{step:α→σ→ag (σ ⊕ ε)}{Lin:List aF}{x:Operand}{v:α}{s:σ}{gg:γ}{R:σ ⊕ ε→Prop}
 (ad:c.rd=none) (aR:JJ c.P u τ Ls Lx step (fun cM W'=>Ext (c.X++c.bZ) c.jY cM W')) (aT:look E wg=some (.eq u)) (al:aN c E (Lin++Ls s gg) x (τ v)) (aA:step v s R) (aH:Nat.blt ba c.n=true)
 (aL:∀ cf,R (.inl cf)→ ∀ dT,J c ops Q rest ((ba,.of true)::E) (Lin++Ls cf dT)) (bz:∀ q,R (.inr q)→ ∀ dT,J c ops Q rest ((ba,.of false)::E) (Lin++Lx q dT)):
 J c ops Q (⟨some ba,.call ⟨.value (.tmp wg),#[x],ats⟩,ty,pos,af,none⟩::rest) E (Lin++Ls s gg):=fun a W st=>by
 obtain⟨l,rfl,aR⟩:=aR
 obtain⟨P8,h1,ab⟩:=st.env wg _ aT
 have hu:P8= .func (.yield l) #[] #[]:=ab
 subst hu
 have rb:bI c E (Ls s gg++Lin) a W:=st.perm List.perm_append_comm
 have bb:=al a W st
 have vO:(τ v).holds (aP (Ls s gg)++(aP Lin++c.bZ)) W (a.eval x):=(τ v).mono (.drop fun k hm=>by
  rw [ff];simp only [List.mem_append] at hm ⊢;rcases hm with hm | hm | hm
  ·exact .inl (.inr hm)
  ·exact .inl (.inl hm)
  exact .inr hm) bb
 obtain⟨fn,tmps,assign,body,j7,gQ⟩:=aR v s R aA gg (aP Lin++c.bZ) W (a.eval x) (rb.VU.trans Bw) rb.JI vO
 have NV:(execOp a.eval ⟨some ba,.call ⟨.value (.tmp wg),#[x],ats⟩,ty,pos,af,none⟩).run c.P W= .ok (.round l fn tmps assign body) W:=by
  rw [← j7];simp [execOp,resolve,Deferred.ofValue,Act.eval,h1,invoke,Sem.run_bind,Sem.run_pure,Result.andThen]
 refine wpListIn_plain rfl fun K wb=>?_
 refine⟨fun _ _=>trivial,?_⟩
 rw [Oper.semAt_eq _ _ _ (fun _ h=>by cases h),NV,Oper.uponIn_round]
 refine⟨fun h=>by simp at h,?_⟩
 have O8:RoundIn c.F (9 - 1) c.P l fn tmps assign body W _:=gQ
 refine O8.mono fun e W' he=>?_
 rcases he with⟨cf,hs,w,dT,rfl,s9,ax,aO,a7,bl⟩ | ⟨q,hs,w,dT,rfl,s9,ax,aO,a7,bl⟩
 ·obtain rfl:=of_bool.1 bl
  refine wb _ _ (aL cf hs dT _ _ ?_)
  exact(((rb.after s9 ax aO a7).perm List.perm_append_comm).put (by simpa using aH) (of_bool.2 rfl))
 obtain rfl:=of_bool.1 bl
 refine wb _ _ (bz q hs dT _ _ ?_)
 exact(((rb.after s9 ax aO a7).perm List.perm_append_comm).put (by simpa using aH) (of_bool.2 rfl))
def Yb {σ ε γ:Type}(c:cF)(js:ε→Code)(l D:Nat)(rec:Loop)(Ls:σ→γ→List aF)(Lx:ε→γ→List aF)(R:σ ⊕ ε→Prop):Exit→Act→World→Prop:=fun x a W=>
 (∃ cf,R (.inl cf)∧x= .normal∧ ∃ g,bI c [] (⟨some l,.is (.loop rec)⟩::⟨some D,.gf⟩::Ls cf g) a W)∨
 ∃ q,R (.inr q)∧yV (js q)=true∧x=E0 (js q)∧ ∃ g,bI c [] (⟨some l,.is (.loop rec)⟩::⟨some D,.gf⟩::Lx q g) a W
theorem aj.ajO {σ ε γ:Type}{js:ε→Code}{l D:Nat}{rec:Loop}{Ls:σ→γ→List aF}{Lx:ε→γ→List aF}{R:σ ⊕ ε→Prop}{cf:σ}(gQ:R (.inl cf))(g:γ)(n:Nat)(aq:L.drop n=⟨some l,.is (.loop rec)⟩::⟨some D,.gf⟩::Ls cf g):
 aj c (Yb c js l D rec Ls Lx R) .normal E L:=fun a W s=>.inl ⟨cf,gQ,rfl,g,by rw [← aq];exact(s.rR n).less (fun t τ h=>by simp [look] at h)⟩
theorem acu {gt p:Nat}{assign body:Code}{f:FuncId}{q0:List I}{bC:Type}[dU bC]{α σ ε γ ρ:Type}{τ:α→I}{run:∀ {σ ε:Type},(σ→aG bC)→ (α→σ→ag (σ ⊕ ε))→σ→ag (σ ⊕ ε)}
 {Ls:σ→γ→List aF} {Lx:ε→γ→List aF} {hq:σ→aG bC} {step:α→σ→ag (σ ⊕ ε)} {cg:σ} {g0:γ} {k:σ ⊕ ε→ag ρ} {kU:ρ→Prop} (lH:σ→γ→List aF) (js:ε→Code)
 (ad:c.rd=none) (cn:bM c.P f) (bA:look E gt=some (.lv f q0)) (nf:EV c.P f q0 τ run) (aA:ag.bind (run hq step cg) k kU) (pK:∀ s g,Ls s g=lH s g++aI (hq s)) (aq:L=Ls cg g0) (hp:Nat.blt p c.n=true)
 (tJ:∀ x s R,step x s R→ ∀ g (ql:World) (qx qm:List Nat) (l D:Nat) (rec:Loop),rec.state= .ready→
  aw ⟨c.P,c.n,ql,qx,qm,some l,[]⟩ (Exit.then (Ky ⟨c.P,c.n,ql,qx,qm,some l,[]⟩ l body (Yb ⟨c.P,c.n,ql,qx,qm,some l,[]⟩ js l D { rec with state:= .busy } Ls Lx R)) (fun _ _ _=>False)) assign ((p,τ x)::E) (⟨some l,.is (.loop rec)⟩::⟨some D,.gf⟩::Ls s g))
 (sL:∀ cf,k (.inl cf) kU→ ∀ g D,aj { c with ds:=D::c.ds } Q .normal E (⟨some D,.gf⟩::Ls cf g))
 (Fa:∀ q,k (.inr q) kU→ ∀ g D,aw { c with ds:=D::c.ds } Q (js q) E (⟨some D,.gf⟩::Lx q g)):
 aw c Q (.rangeFunc (.tmp gt) #[p] assign body) E L:=fun a W st=>by
 subst aq
 refine wpIn_rangeFunc fun fn vP=>?_
 show ∃ l mark zk d aif CN args akH,(Instr.enterLoop fn a.tmps #[p] assign body c.rd).run c.P W=_∧_
 rw [ad]
 obtain⟨rec,l7⟩:∃ rec:Loop,rec= { state:= .ready,pending:=none,fn,tmps:=a.tmps,params:= #[p],assign,body,defers:=W.heap.size } :=⟨_,rfl⟩
 obtain⟨v,Gd,fi,zK,ami⟩:=st.env gt _ bA
 obtain⟨il,Ge⟩:∃ il,(W.alloc (.deferred (some []))).alloc (.loop rec)=il:=⟨_,rfl⟩
 have s1:=(st.alloc (o:= .deferred (some [])) (cp:= .gf) rfl).alloc (o:= .loop rec) (cp:= .is (.loop rec)) rfl
 rw [Ge,World.size_alloc] at s1
 obtain⟨D,ko⟩:∃ D,D=W.heap.size:=⟨_,rfl⟩
 obtain⟨l,ak⟩:∃ l,l=W.heap.size+1:=⟨_,rfl⟩
 have Gf:=run_enterLoop_outer (P:=c.P) (w:=W) fn a.tmps #[p] assign body
 rw [← l7,Ge,← ak,← ko] at Gf
 rw [← ak,← ko] at s1
 obtain⟨na,ta⟩:∃ na:σ→γ→List aF,na=fun s g=>⟨some l,.is (.loop rec)⟩::⟨some D,.gf⟩::Ls s g:=⟨_,rfl⟩
 obtain⟨qq,Gg⟩:∃ qq:ε→γ→List aF,qq=fun q g=>⟨some l,.is (.loop { rec with state:= .done,pending:=some (js q) })⟩::⟨some D,.gf⟩::Lx q g:=⟨_,rfl⟩
 have s2:bI c E (na cg g0) a il:=by rw [ta];exact s1
 have Pa:ho (aP (na cg g0)++c.bZ) il q0 fi:=by
  have h1:(I.lv f q0).holds (aP (na cg g0)++c.bZ) il v:=by
   obtain⟨GR,h1,ab⟩:=s2.env gt _ bA;rw [Gd] at h1;cases h1;exact ab
  obtain⟨Pb,ar,aU⟩:=h1;rw [zK] at ar;have:Pb=fi:=by injection ar with _ _ ar;injection ar with ar;exact ar.symm
  rw [← this];exact aU
 have Gh:bI c E ((na cg g0)++[]) a il:=by rw [List.append_nil];exact s2
 have Fb:=Gh.JI
 simp only [aP,List.nil_append] at Fb
 have Ox:JJ c.P (.func (.yield l) #[] #[]) τ na qq step (fun cM W'=>Ext (aP (na cg g0)++c.bZ) il cM W'):=by
  refine⟨l,rfl,fun x s uy hs g A qF v2 iz hle bb=>?_⟩;have zl:=hle;rw [ta] at zl;obtain⟨o,dn,e5⟩:=zl.ok ⟨some l,.is (.loop rec)⟩ (by simp);have sV:o= .loop rec:=e5;subst sV;have aR:=run_yield (P:=c.P) (args:= #[v2]) dn (by rw [l7];rfl);refine⟨_,_,_,_,aR,roundIn_of_wpIn trivial ?_⟩;have ar:rec.assign=assign:=by rw [l7]
  have aU:rec.body=body:=by rw [l7]
  have cz:rec.params= #[p]:=by rw [l7]
  have eL:rec.tmps=a.tmps:=by rw [l7]
  rw [ar,aU,cz,eL];refine H7 (n:=9) rfl ?_;have NW:((#[p]:Array Tmp).zip #[v2]).foldl (fun tmps (t,a)=>tmps.setIfInBounds t a) a.tmps=a.tmps.setIfInBounds p v2:=by simp
  rw [NW];subst ta Gg;refine wpIn_mono ((tJ x s uy hs g qF (aP (⟨some l,.is (.loop rec)⟩::⟨some D,.gf⟩::Ls s g)) A l D rec (by rw [l7])) { tmps:=a.tmps.setIfInBounds p v2,defers:= [] } qF ?_) ?_
  ·have kC:p<c.n:=by simpa using hp
   exact
   {defers:=rfl
    size:=by simp [s2.size]
    env:=fun t vI e1=>by
     simp only [look] at e1;by_cases e:Nat.beq p t=true
     ·rw [e] at e1;simp only [cond_true,Option.some.injEq] at e1;subst e1;have:=eS.1 e;subst this;exact⟨v2,by simp [s2.size,kC],bb⟩
     simp only [Bool.not_eq_true] at e;rw [e] at e1;simp only [cond_false] at e1;obtain⟨u,h1,ab⟩:=s2.env t vI e1;have de:p≠t:=fun h=>by rw [eS.2 h] at e;cases e
     exact⟨u,by rw [Array.getElem?_setIfInBounds_ne de];exact h1,vI.mono iz ab⟩
    dO:= .refl _ _
    own:=hle.ok
    nodup:=hle.nodup
    lt:=hle.lt
    gL:=fun k hk _=>hk
    e6:=hle.e6 }
  intro e a3 anW hq;cases e with
  | normal=>
    obtain⟨P9,Pc,hb⟩:=hq
    refine⟨P9,Pc,H7 (n:=9) rfl (wpIn_mono hb ?_)⟩
    intro e a5 GS J7
    have fin:∀ (jump:Option Code) {Lr:List aF},bI ⟨c.P,c.n,qF,aP (⟨some l,.is (.loop rec)⟩::⟨some D,.gf⟩::Ls s g),A,some l,[]⟩ [] (⟨some l,.is (.loop { rec with state:= .busy })⟩::⟨some D,.gf⟩::Lr) a5 GS→
     ∃ rl,(Instr.endRound l jump).run c.P GS= .ok (.bool jump.isNone) rl∧bI ⟨c.P,c.n,qF,aP (⟨some l,.is (.loop rec)⟩::⟨some D,.gf⟩::Ls s g),A,some l,[]⟩ [] (⟨some l,.is (.loop { rec with state:=if jump.isNone then .ready else .done,pending:=jump })⟩::⟨some D,.gf⟩::Lr) a5 rl:=fun jump Lr jv=>by
     obtain⟨o,h1,ab⟩:=jv.own ⟨some l,.is (.loop { rec with state:= .busy })⟩ (by simp)
     have mb:o= .loop { rec with state:= .busy } :=ab
     subst mb
     exact⟨_,run_endRound jump h1,jv.sU (i:=0) rfl rfl⟩
    rcases J7 with⟨cf,iM,rfl,dT,jv⟩ | ⟨q,iM,aB,rfl,dT,jv⟩
    ·obtain⟨rl,bl,kl⟩:=fin none jv
     refine⟨_,rl,bl,.inl ⟨cf,iM,?_⟩⟩
     have Pd:({ rec with state:=if (none:Option Code).isNone then .ready else .done,pending:=none } :Loop)=rec:=by rw [l7];rfl
     rw [Pd] at kl
     exact kl.ends (ρ:=fun _:γ=>I.of true) (Lo:=fun g=>⟨some l,.is (.loop rec)⟩::⟨some D,.gf⟩::Ls cf g) dT (List.Sublist.refl _) (of_bool.2 rfl)
    obtain⟨rl,bl,kl⟩:=fin (some (js q)) jv
    have key:kZ (aP (⟨some l,.is (.loop rec)⟩::⟨some D,.gf⟩::Ls s g)) A qF (fun _:γ=>I.of false) (fun g=>⟨some l,.is (.loop { rec with state:= .done,pending:=some (js q) })⟩::⟨some D,.gf⟩::Lx q g) (.returned (.bool false)) rl:=
     kl.ends (ρ:=fun _:γ=>I.of false) (Lo:=fun g=>⟨some l,.is (.loop { rec with state:= .done,pending:=some (js q) })⟩::⟨some D,.gf⟩::Lx q g) dT (List.Sublist.refl _) (of_bool.2 rfl)
    exact Rt aB bl (.inr ⟨q,iM,key⟩)
  | exit id=>exact hq.elim
  | goto t=>exact hq.elim
  | ret=>exact hq.elim
  | panic lI=>exact hq.elim
  | outgrown=>exact hq.elim
 have y7:=nf.go na qq hq (fun s g=>⟨some l,.is (.loop rec)⟩::⟨some D,.gf⟩::lH s g) (fun s g=>by rw [ta];simp only [pK,List.cons_append]) step cg g0 (fun r=>k r kU) aA c.bZ il (.func (.yield l) #[] #[]) fi Fb Pa Ox
 have mc:a.eval (.tmp gt)= .func (.func f) #[] fi.toArray:=by simp [Act.eval,Gd,zK]
 refine⟨l,[JE D],il,{ target:= .fn (.func f) fi.toArray,args:= #[.func (.yield l) #[] #[]] },il,f,#[.func (.yield l) #[] #[]]++fi.toArray,il,Gf,?_,fun _ _=>trivial,?_,fun h=>by simp at h,?_⟩
 ·simp only [resolve,mc]
  simp [go_sem]
 ·simp [invoke,go_sem,cn.run]
 refine CallsIn.Md ?_
 have NX:(#[.func (.yield l) #[] #[]]++fi.toArray:Array Value)=(.func (.yield l) #[] #[]::fi).toArray:=by simp
 rw [NX]
 refine y7.mono fun e Qa ⟨anX,⟨⟨r,Yc⟩,dT⟩,he,aT,ax,aO,a7,bl⟩=>?_
 subst he
 have rm:=Gh.after aT ax (by simpa [aP] using aO) (by simpa [aP] using a7)
 rw [List.append_nil] at rm
 cases r with
 | inl cf=>
   simp only [Lr] at rm
   subst ta
   obtain⟨o,dn,e5⟩:=rm.own ⟨some l,.is (.loop rec)⟩ (by simp)
   have sV:o= .loop rec:=e5
   subst sV
   have oR:=run_endLoop (P:=c.P) dn (by rw [l7];simp)
   have kC:rec.pending=none:=by rw [l7]
   rw [kC] at oR
   refine⟨none,_,oR,?_⟩
   have wh:=(rm.sU (i:=0) (cp':= .is (.loop { rec with state:= .exhausted })) (o':= .loop { rec with state:= .exhausted }) rfl rfl).rR 1
   rw [kC] at wh
   exact sL cf Yc dT D _ _ (wh.mark D)
 | inr q=>
   simp only [Lr] at rm
   subst Gg
   obtain⟨o,dn,e5⟩:=rm.own ⟨some l,.is (.loop { rec with state:= .done,pending:=some (js q) })⟩ (by simp)
   have sV:o= .loop { rec with state:= .done,pending:=some (js q) } :=e5
   subst sV
   have oR:=run_endLoop (P:=c.P) dn (by simp)
   refine⟨some (js q),_,oR,?_⟩
   have wh:=(rm.sU (i:=0) (cp':= .is (.loop { rec with state:= .exhausted,pending:=some (js q) })) (o':= .loop { rec with state:= .exhausted,pending:=some (js q) }) rfl rfl).rR 1
   exact Fa q Yc dT D _ _ (wh.mark D)
end
def ag.any (α:Type):ag α:=fun Q=> ∀ x,Q x
theorem ag.any_bind {α β:Type}{k:α→ag β}{R:β→Prop}(h:ag.bind (ag.any α) k R)(x:α):k x R:=h x
theorem ho.append {A:List Nat}{W:World} :∀ {τs σs:List I} {vs us:List Value},ho A W τs vs→ho A W σs us→ho A W (τs++σs) (vs++us)
 | _,_,_,_,.nil,h=>h
 | _,_,_,_,.cons h r,ab=>.cons h (r.append ab)
section
variable {c:cF} {E:List (Nat×I)} {L:List aF} {ops:Array Oper} {Q:Exit→Act→World→Prop}
variable {d:Option Tmp} {ty:TypeId} {pos:String} {af:Array Edge} {g:Option (Nat×Bool)} {x y:Operand} {t t2:TypeId}
def ee (c:cF)(E:List (Nat×I))(L:List aF)(o:Oper){δ:Type}(ρ:δ→I)(L':δ→List aF):Prop:=
 ∀ a W,bI c E L a W→hy c.P o a W fun v W'=> ∃ q,bI c E (L' q) a W'∧ (ρ q).holds (aP (L' q)++c.bZ) W' v
theorem J.nb {o:Oper}{rest:List Oper}{ba:Nat}{δ:Type}{ρ:δ→I}{L':δ→List aF}(h:ee c E L o ρ L')(bA:o.guard=none)(hd:o.dst=some ba)(aH:Nat.blt ba c.n=true)
 (k:∀ q,J c ops Q rest ((ba,ρ q)::E) (L' q)):J c ops Q (o::rest) E L:=fun a W s=>
 iP bA (h a W s) fun v W' ⟨q,f,bb⟩=>by
  rw [hd];exact k q _ _ (f.put (by simpa using aH) bb)
theorem J.YX {o:Oper}{rest:List Oper}{ba j gs:Nat}{b want:Bool}{δ β:Type}{σ:β→I}{L2:β→List aF}{K:β→Prop}{val:δ→β}{ρ:δ→I}{L':δ→List aF}(bA:o.guard=some (j,want))(aB:(ops[j]?).bind (·.dst)=some gs)
 (ak:look E gs=some (.of b)) (hd:o.dst=some ba) (aH:Nat.blt ba c.n=true) (h:b=want→ee c E L o ρ L')
 (h1:b=want→ ∀ q,K (val q)∧ρ q=σ (val q)∧L' q=L2 (val q)) (ab: ¬ b=want→ ∃ y,K y∧L=L2 y)
 (k:∀ y,K y→J c ops Q rest ((ba,.cond (b=want) (σ y))::E) (L2 y)):J c ops Q (o::rest) E L:=fun a W s=>by
 have aR:=H2 aB ak s
 unfold cF.s3 wpListIn
 by_cases hb:b=want
 ·rw [if_pos (by simp [Region.wanted,bA,aR,hb])]
  refine((h hb a W s).wpIn fun v W' ⟨q,f,bb⟩=>?_)
  obtain⟨ar,aU,cz⟩:=h1 hb q
  rw [aU] at bb
  rw [cz] at f bb
  rw [hd]
  exact k _ ar _ _ (f.put (by simpa using aH) ⟨fun _=>bb,fun h=>absurd hb h⟩)
 rw [if_neg (by simp [Region.wanted,bA,aR,hb])]
 rw [hd]
 obtain⟨y,ar,aU⟩:=ab hb
 rw [aU] at s
 exact⟨fun _ _=>trivial,k y ar _ _ (s.put (by simpa using aH) ⟨fun h=>absurd h hb,fun _=>rfl⟩)⟩
theorem ee.perm {eE:List aF}{o:Oper}{δ:Type}{ρ:δ→I}{L' L2:δ→List aF}(p:L.Perm eE)(uz:∀ q,(L' q).Perm (L2 q))(h:ee c E eE o ρ L'):ee c E L o ρ L2:=fun a W s=>by
 have:=h a W (s.perm p);unfold hy at this ⊢;exact Oper.wp_mono (fun gv W' ⟨v,h1,q,ab,ax⟩=>⟨v,h1,q,ab.perm (uz q),(ρ q).mono (oD (uz q)) ax⟩) this
theorem ee.to {o:Oper}{δ:Type}{ρ:δ→I}{L' L2:δ→List aF}(e:∀ q,L' q=L2 q)(h:ee c E L o ρ L'):ee c E L o ρ L2:=by
 have:L'=L2:=funext e;subst this;exact h
theorem ee.map {o:Oper}{δ zL:Type}{ρ:δ→I}{L':δ→List aF}{xB:zL→I}{L2:zL→List aF}(F:δ→zL)(aA:∀ d,xB (F d)=ρ d)(ak:∀ d,L2 (F d)=L' d)(h:ee c E L o ρ L'):ee c E L o xB L2:=fun a W s=>by
 have:=h a W s;unfold hy at this ⊢;exact Oper.wp_mono (fun gv W' ⟨v,h1,q,ab,ax⟩=>⟨v,h1,F q,by rw [ak];exact ab,by rw [ak,aA];exact ax⟩) this
theorem ee.hU {α:Type}[ah α]{o:Oper}{i s cap T:Nat}{key:Option Nat}{xs:List α}{δ:Type}{ρ:δ→I}{L':δ→List aF}(ak:look E s=some (.eq (aJ key xs.length cap)))(aq:L[i]? =some ⟨key,.row T xs cap⟩)
 (h:ee c ((s,.of xs)::E) (L.set i ⟨none,.dead⟩) o ρ L'):ee c E L o ρ L':=fun a W st=>by
 have h1:=h a W (st.freeze ak aq)
 unfold hy at h1 ⊢
 refine Oper.wp_mono (fun gv W' ⟨v,ab,q,cf,ax⟩=>⟨v,ab,q,{ cf with env:=fun t τ e1=>?_ },ax⟩) h1
 by_cases e:Nat.beq s t=true
 ·have:=eS.1 e
  subst this
  rw [ak] at e1
  cases e1
  obtain⟨v,aO,a7⟩:=st.env s _ ak
  exact⟨v,aO,a7⟩
 refine cf.env t τ ?_
 simp only [look]
 rw [Bool.not_eq_true] at e
 rw [e]
 exact e1
theorem ee.aA {o:Oper}{τ:I}(h:bc c E L o τ):ee c E L o (fun _:Unit=>τ) (fun _=>L):=fun a W s=>by
 have h1:=h a W s;unfold hy at h1 ⊢;exact Oper.wp_mono (fun gv W' ⟨v,ab,f,ax⟩=>⟨v,ab,(),s.world f,ax⟩) h1
theorem ee.akJ {o:Oper}{δ:Type}{τ:I}(h:ee c E L o (fun _:δ=>τ) (fun _=>L)):dL c E L o τ:=fun a W s=>by
 have:=h a W s;unfold hy at this ⊢;exact Oper.wp_mono (fun gv W' ⟨v,h1,q,ab,ax⟩=>⟨v,h1,ab,ax⟩) this
theorem ee.call {o:Oper}{f:FuncId}{rk:Act→List Value}{τs:List I}{Lin Lr:List aF}{δ:Type}{ρ:δ→I}{Lo:δ→List aF}(h:bJ c.P f τs Lin ρ Lo)
 (ad:∀ a W,bI c E (Lin++Lr) a W→ (execOp a.eval o).run c.P W= .ok (.enter f (rk a).toArray) W∧ho (aP (Lin++Lr)++c.bZ) W τs (rk a)):ee c E (Lin++Lr) o ρ (fun q=>Lo q++Lr):=fun a W s=>by
 obtain⟨j7,al⟩:=ad a W s
 have mz:=s.nodup
 rw [ff] at mz
 obtain⟨om,qp,q9⟩:=List.nodup_append.1 mz
 have lr:Ext (aP (Lin++Lr)++c.bZ) W (aP Lin++(aP Lr++c.bZ)) W:=Bw
 have eM:∀ k∈aP Lr++c.bZ,k<W.heap.size∧k ∉ aP Lin:=fun k hm=>by
  rcases List.mem_append.1 hm with hm | hm
  ·exact⟨s.lt k (by rw [ff];exact List.mem_append.2 (.inr hm)),fun h=>q9 k h k hm rfl⟩
  obtain⟨h1,ab⟩:=s.e6 k hm;exact⟨h1,fun h=>ab (by rw [ff];exact List.mem_append.2 (.inl h))⟩
 have cj:∀ k∈aP Lin,k<W.heap.size:=fun k hm=>s.lt k (by rw [ff];exact List.mem_append.2 (.inl hm))
 refine .wL (f:=f) (args:=(rk a).toArray) (W':=W) j7 ?_
 refine(h (aP Lr++c.bZ) W (rk a) eM om cj (fun e he=>aF.uS (s.own e (List.mem_append.2 (.inl he))) lr fun _ _=>rfl) (al.mono lr)).mono fun e W' ⟨v,ba,he,aT,h1,ab,ax,aO⟩=>?_
 exact⟨v,he,ba,s.after aT h1 ab ax,(ρ ba).mono Ij aO⟩
theorem ee.VX {o:Oper}{bC:Type}[dU bC]{hp:aG bC}{Lin Lr:List aF}{δ:Type}{ρ:δ→I}{Lo:δ→List aF}{hq:δ→aG bC}(n m:Nat)(aq:L.drop n=aI hp)(h1:(L.take n).take m=Lin)(ab:(L.take n).drop m=Lr)
 (h:ee c E ((Lin++aI hp)++Lr) o ρ (fun q=>(Lo q++aI (hq q))++Lr)):ee c E L o ρ (fun q=>(Lo q++Lr)++aI (hq q)):=by
 have e:L=(Lin++Lr)++aI hp:=by rw [← h1,← ab,List.take_append_drop,← aq,List.take_append_drop]
 clear aq h1 ab
 subst e
 exact h.perm nn fun q=>nn
theorem ee.dB {f:FuncId}{xs:List Operand}{ats:Array TypeId}{bC:Type}[dU bC]{hp:aG bC}{τs:List I}{Lin Lr:List aF}{δ:Type}{ρ:δ→I}{Lo:δ→List aF}{hq:δ→aG bC}(n m:Nat)(aq:L.drop n=aI hp)(cn:bM c.P f)(h:bJ c.P f τs (Lin++aI hp) ρ (fun d=>Lo d++aI (hq d)))
 (h1:(L.take n).take m=Lin) (ab:(L.take n).drop m=Lr) (al:iJ c E L xs τs):ee c E L ⟨d,.call ⟨.value (.func f),xs.toArray,ats⟩,ty,pos,af,g⟩ ρ (fun q=>(Lo q++Lr)++aI (hq q)):=by
 have e:L=(Lin++Lr)++aI hp:=by rw [← h1,← ab,List.take_append_drop,← aq,List.take_append_drop]
 refine ee.VX n m aq h1 ab (ee.call (rk:=fun a=>xs.map a.eval) h fun a W s=>⟨by simp [execOp,resolve,Deferred.ofValue,Act.eval,invoke,cn.run],?_⟩)
 subst e
 exact(al.holds a W (s.perm nn.symm)).mono (oD nn)
theorem ee.lj {f:FuncId}{xs:List Operand}{ats:Array TypeId}{τs:List I}{Lin Lr:List aF}{δ:Type}{ρ:δ→I}{Lo:δ→List aF}(m:Nat)(cn:bM c.P f)(h:bJ c.P f τs Lin ρ Lo)
 (h1:L.take m=Lin) (ab:L.drop m=Lr) (al:iJ c E L xs τs):ee c E L ⟨d,.call ⟨.value (.func f),xs.toArray,ats⟩,ty,pos,af,g⟩ ρ (fun q=>Lo q++Lr):=by
 have e:L=Lin++Lr:=by rw [← h1,← ab,List.take_append_drop]
 clear h1 ab
 subst e
 exact ee.call (rk:=fun a=>xs.map a.eval) h fun a W s=>⟨by simp [execOp,resolve,Deferred.ofValue,Act.eval,invoke,cn.run],al.holds a W s⟩
theorem aN.ae2 {qC:Operand}{f:FuncId}{sW τs:List I}{xs:List Operand}{ats:Array TypeId}(cn:bM c.P f)(aT:aN c E L qC (.lv f sW))(al:iJ c E L xs τs){a:Act}{W:World}(s:bI c E L a W):
 ∃ fi:List Value,(execOp a.eval ⟨d,.call ⟨.value qC,xs.toArray,ats⟩,ty,pos,af,g⟩).run c.P W= .ok (.enter f (xs.map a.eval++fi).toArray) W∧ho (aP L++c.bZ) W (τs++sW) (xs.map a.eval++fi):=by
 obtain⟨fi,h1,ab⟩:=aT a W s
 exact⟨fi,by simp [execOp,resolve,Deferred.ofValue,h1,invoke,cn.run],(al.holds a W s).append ab⟩
theorem ee.lv {qC:Operand}{f:FuncId}{sW τs:List I}{xs:List Operand}{ats:Array TypeId}{Lin Lr:List aF}{δ:Type}{ρ:δ→I}{Lo:δ→List aF}(m:Nat)(cn:bM c.P f)(aT:aN c E L qC (.lv f sW))(h:bJ c.P f (τs++sW) Lin ρ Lo)
 (h1:L.take m=Lin) (ab:L.drop m=Lr) (al:iJ c E L xs τs):ee c E L ⟨d,.call ⟨.value qC,xs.toArray,ats⟩,ty,pos,af,g⟩ ρ (fun q=>Lo q++Lr):=by
 have e:L=Lin++Lr:=by rw [← h1,← ab,List.take_append_drop]
 clear h1 ab
 subst e
 intro a W s
 obtain⟨fi,ax,aO⟩:=aN.ae2 (d:=d) (ty:=ty) (pos:=pos) (af:=af) (g:=g) (ats:=ats) cn aT al s
 have mz:=s.nodup
 rw [ff] at mz
 obtain⟨om,qp,q9⟩:=List.nodup_append.1 mz
 have lr:Ext (aP (Lin++Lr)++c.bZ) W (aP Lin++(aP Lr++c.bZ)) W:=Bw
 have eM:∀ k∈aP Lr++c.bZ,k<W.heap.size∧k ∉ aP Lin:=fun k hm=>by
  rcases List.mem_append.1 hm with hm | hm
  ·exact⟨s.lt k (by rw [ff];exact List.mem_append.2 (.inr hm)),fun h=>q9 k h k hm rfl⟩
  obtain⟨h1,ab⟩:=s.e6 k hm;exact⟨h1,fun h=>ab (by rw [ff];exact List.mem_append.2 (.inl h))⟩
 have cj:∀ k∈aP Lin,k<W.heap.size:=fun k hm=>s.lt k (by rw [ff];exact List.mem_append.2 (.inl hm))
 refine .wL (f:=f) (W':=W) ax ?_
 refine(h (aP Lr++c.bZ) W _ eM om cj (fun e he=>aF.uS (s.own e (List.mem_append.2 (.inl he))) lr fun _ _=>rfl) (aO.mono lr)).mono fun e W' ⟨v,ba,he,aT,h1,ab,ax,aO⟩=>?_
 exact⟨v,he,ba,s.after aT h1 ab ax,(ρ ba).mono Ij aO⟩
theorem iJ.perm {eE:List aF}(p:L.Perm eE):∀ {xs:List Operand} {τs:List I},iJ c E L xs τs→iJ c E eE xs τs
 | [],[],h=>h
 | _::_,_::_,h=>⟨h.1.perm p,iJ.perm p h.2⟩
 | [],_::_,h=>h.elim
 | _::_,[],h=>h.elim
theorem ee.ajF {qC:Operand}{f:FuncId}{sW τs:List I}{xs:List Operand}{ats:Array TypeId}{bC:Type}[dU bC]{hp:aG bC}{Lin Lr:List aF}{δ:Type}{ρ:δ→I}{Lo:δ→List aF}{hq:δ→aG bC}(n m:Nat)(aq:L.drop n=aI hp)(cn:bM c.P f)(aT:aN c E L qC (.lv f sW))(h:bJ c.P f (τs++sW) (Lin++aI hp) ρ (fun d=>Lo d++aI (hq d)))
 (h1:(L.take n).take m=Lin) (ab:(L.take n).drop m=Lr) (al:iJ c E L xs τs):ee c E L ⟨d,.call ⟨.value qC,xs.toArray,ats⟩,ty,pos,af,g⟩ ρ (fun q=>(Lo q++Lr)++aI (hq q)):=by
 have e:L=(Lin++Lr)++aI hp:=by rw [← h1,← ab,List.take_append_drop,← aq,List.take_append_drop]
 refine ee.VX n m aq h1 ab ?_
 subst e
 refine ee.to (fun q=>rfl) (ee.lv (Lin++aI hp).length cn (aT.perm nn) h List.take_left List.drop_left (al.perm nn))
theorem ee.obj {f:FuncId}{xs:List Operand}{ats:Array TypeId}{bC:Type}[dU bC]{hp:aG bC}{p:Nat}{k:bC}{τs:List I}{Lin:List aF}{δ:Type}{ρ:δ→I}{Lo:δ→List aF}(n:Nat)(k':δ→bC)(aq:L.drop n=aI hp)(hp':pat hp p=some k)(cn:bM c.P f)(h:bJ c.P f τs Lin ρ Lo)
 (hk:dU.gp p k=Lin) (j9:∀ q,dU.gp p (k' q)=Lo q) (al:iJ c E L xs τs):ee c E L ⟨d,.call ⟨.value (.func f),xs.toArray,ats⟩,ty,pos,af,g⟩ ρ (fun q=>L.take n++aI (ct hp p (k' q))):=by
 obtain⟨R,bo,bN⟩:=uF hp'
 have e:L=L.take n++aI hp:=by rw [← aq,List.take_append_drop]
 have b3:∀ {M X:List aF},M.Perm (X++R)→ (L.take n++M).Perm (X++(R++L.take n)):=fun h=>List.perm_append_comm.trans ((h.append_right _).trans (by rw [List.append_assoc]))
 have Pg:L.Perm (Lin++(R++L.take n)):=by
  conv=>lhs;rw [e]
  exact b3 (by rw [← hk];exact bo)
 refine ee.perm Pg (fun q=>(b3 (bN (k' q))).symm) ?_
 refine ee.to (fun q=>by rw [j9]) (ee.call (Lr:=R++L.take n) (rk:=fun a=>xs.map a.eval) h fun a W s=>⟨by simp [execOp,resolve,Deferred.ofValue,Act.eval,invoke,cn.run],?_⟩)
 exact(al.holds a W (s.perm Pg.symm)).mono (oD Pg)
theorem dL.obj {f:FuncId}{xs:List Operand}{ats:Array TypeId}{bC:Type}[dU bC]{hp:aG bC}{p:Nat}{k:bC}{τs:List I}{Lin:List aF}{δ:Type}{τ:I}(n:Nat)(aq:L.drop n=aI hp)(hp':pat hp p=some k)(cn:bM c.P f)(h:bJ c.P f τs Lin (fun _:δ=>τ) (fun _=>Lin))
 (hk:dU.gp p k=Lin) (al:iJ c E L xs τs):dL c E L ⟨d,.call ⟨.value (.func f),xs.toArray,ats⟩,ty,pos,af,g⟩ τ:=by
 have e:L=L.take n++aI hp:=by rw [← aq,List.take_append_drop]
 have xC:ct hp p k=hp:=by
  clear e aq h hk;induction hp with
  | nil=>rfl
  | cons z r b2=>
    obtain⟨q,an1⟩:=z
    simp only [pat] at hp'
    simp only [ct]
    split at hp'
    ·rename_i e;simp only [Option.some.injEq] at hp';rw [if_pos e,hp']
    rename_i e;rw [if_neg e,b2 hp']
 refine ee.akJ (ee.to (fun q=>?_) (ee.obj (d:=d) (ty:=ty) (pos:=pos) (af:=af) (g:=g) (ats:=ats) n (fun _=>k) aq hp' cn h hk (fun _=>hk) al))
 rw [xC,← e]
theorem J.UZ {l:List Oper}{bC:Type}[dU bC]{hp:aG bC}{p:Nat}{Lin Lr:List aF}(n m:Nat)(mk:bC)(aq:L.drop n=aI hp)(h1:(L.take n).take m=Lin)(ab:(L.take n).drop m=Lr)(hk:dU.gp p mk=Lin)(hm:p∈aP Lin)
 (k:∀ a:Nat×aG bC,a.1 ∉ hp.map (·.1)∧a.2=(a.1,mk)::hp→a.1=p→J c ops Q l E (Lr++aI a.2)):J c ops Q l E L:=fun a W s=>by
 have e:L=(Lin++Lr)++aI hp:=by rw [← h1,← ab,List.take_append_drop,← aq,List.take_append_drop]
 have b3:L.Perm (Lr++aI ((p,mk)::hp)):=by
  rw [e,aI,hk,← List.append_assoc];exact List.perm_append_comm.append_right _
 refine k (p,(p,mk)::hp) ⟨fun Gm=>?_,rfl⟩ rfl _ _ (s.perm b3)
 have kk:=s.nodup
 rw [e,ff,ff] at kk
 exact(List.nodup_append.1 kk).2.2 p (List.mem_append.2 (.inl hm)) p (Uk Gm) rfl
end
section
variable {c:cF} {E:List (Nat×I)} {L:List aF} {ops:Array Oper} {Q:Exit→Act→World→Prop}
theorem ei.q {hs:List dz}{i np:Nat}{o:Oper}{h:dz}(bQ:ei c ops Q hs E L i o h):wV c ops Q hs E L np i o h:=fun hd E' L' h1 ab _=>bQ hd E' L' h1 ab
structure EW (P:Program)(f:FuncId)(τs:List I){bC:Type}[dU bC](hp:aG bC){α:Type}(τ:α→I)(run:∀ {σ ε:Type},(α→σ→Option (σ ⊕ ε))→σ→Option (σ ⊕ ε)):Prop where
 go:∀ {σ ε γ:Type} (Ls:σ→γ→List aF) (Lx:ε→γ→List aF) (lH:σ→γ→List aF),(∀ s g,Ls s g=lH s g++aI hp)→O9 P f τs [] τ (run (σ:=σ) (ε:=ε)) Ls Lx
theorem EW.of {P:Program}{f:FuncId}{fn:Func}{code:Code}{n:Nat}{τs:List I}{bC:Type}[dU bC]{hp:aG bC}{α:Type}{τ:α→I}{run:∀ {σ ε:Type},(α→σ→Option (σ ⊕ ε))→σ→Option (σ ⊕ ε)}
 (aT:P.funcs[f]? =some fn) (hb:fn.body=some code) (aH:fn.ntmps=n) (hlen:Nat.ble (τs.length+1) n=true)
 (h:∀ {σ ε γ:Type} (Ls:σ→γ→List aF) (Lx:ε→γ→List aF) (lH:σ→γ→List aF),(∀ s g,Ls s g=lH s g++aI hp)→ ∀ (step:α→σ→Option (σ ⊕ ε)) (cg:σ) (g0:γ) (r:σ ⊕ ε),run step cg=some r→
  ∀ W A u,J6 P u τ Ls Lx step (fun cM W'=>Ext (aP (Ls cg g0)++A) W cM W')→
    aw ⟨P,n,W,aP (Ls cg g0),A,none,[]⟩ (bodyPost P fn (kZ (aP (Ls cg g0)) A W (fun _:γ=>.bP []) (fun g=>[]++Lr Ls Lx r g))) code (params 0 (.eq u::τs)) (Ls cg g0)):EW P f τs hp τ run:=by
 refine⟨?_⟩
 intro σ ε γ Ls Lx lH pK step cg g0 r aA A W u vs ak bb aR
 refine calls_of_wp aT hb (wpIn_wide.1 (h Ls Lx lH pK step cg g0 r aA W A u aR _ _ ?_))
 have vO:ho (aP (Ls cg g0)++A) W (.eq u::τs) (u::vs):= .cons rfl bb
 have lz:=vO.length
 have hle:τs.length+1≤n:=Nat.le_of_ble_eq_true hlen
 exact
 {defers:=rfl
  size:=by simp at lz;simp [aH,lz];omega
  env:=fun t τ e1=>by
   obtain⟨_,v,ab,ax⟩:=Bk vO 0 t τ e1;refine⟨v,?_,ax⟩;have cj:t<(u::vs).length:=(List.getElem?_eq_some_iff.1 ab).1;rw [Array.getElem?_append_left (by simpa using cj)];simpa using ab
  dO:= .refl _ _
  own:=ak.ok
  nodup:=ak.nodup
  lt:=ak.lt
  gL:=fun k hk _=>hk
  e6:=ak.e6 }
theorem ahb {bC:Type}[dU bC]{σ γ:Type}{Ls lH:σ→γ→List aF}{hp:aG bC}{s:σ}{g:γ}{p:Nat}{k:bC}{e:aF}(n:Nat)(aq:L.drop n=Ls s g)(pK:∀ s g,Ls s g=lH s g++aI hp)(h:pat hp p=some k)(hk:dU.gp p k= [e]):e∈L:=
 Vb (hq:=fun _=>hp) n aq pK h hk
theorem R9 {gt p:Nat}{assign body:Code}{f:FuncId}{q0:List I}{bC:Type}[dU bC]{hp:aG bC}{α σ ε γ:Type}{τ:α→I}{run:∀ {σ ε:Type},(α→σ→Option (σ ⊕ ε))→σ→Option (σ ⊕ ε)}
 {Ls:σ→γ→List aF} {Lx:ε→γ→List aF} {step:α→σ→Option (σ ⊕ ε)} {cg:σ} {g0:γ} {r:σ ⊕ ε} (lH:σ→γ→List aF) (js:ε→Code)
 (ad:c.rd=none) (cn:bM c.P f) (bA:look E gt=some (.lv f q0)) (nf:EW c.P f q0 hp τ run) (aA:run step cg=some r) (pK:∀ s g,Ls s g=lH s g++aI hp) (aq:L=Ls cg g0) (hp':Nat.blt p c.n=true)
 (tJ:∀ x s r,step x s=some r→ ∀ g (ql:World) (qx qm:List Nat) (l D:Nat) (rec:Loop),rec.state= .ready→
  aw ⟨c.P,c.n,ql,qx,qm,some l,[]⟩ (Exit.then (Ky ⟨c.P,c.n,ql,qx,qm,some l,[]⟩ l body (Kx ⟨c.P,c.n,ql,qx,qm,some l,[]⟩ js l D { rec with state:= .busy } Ls Lx r)) (fun _ _ _=>False)) assign ((p,τ x)::E) (⟨some l,.is (.loop rec)⟩::⟨some D,.gf⟩::Ls s g))
 (sL:∀ cf,r= .inl cf→ ∀ g D,aj { c with ds:=D::c.ds } Q .normal E (⟨some D,.gf⟩::Ls cf g))
 (Fa:∀ q,r= .inr q→ ∀ g D,aw { c with ds:=D::c.ds } Q (js q) E (⟨some D,.gf⟩::Lx q g)):
 aw c Q (.rangeFunc (.tmp gt) #[p] assign body) E L:=
 acK (Lin:= []) (run:=run) js ad cn bA (fun ar aU qq=>nf.go (fun s g=>ar::aU::Ls s g) qq (fun s g=>ar::aU::lH s g) (fun s g=>by rw [pK];rfl)) aA aq hp' tJ sL Fa
end
structure Raw where
 f:FuncId
 us:Option (List Value)
instance:Inhabited Raw:=⟨⟨0,none⟩⟩
def Raw.val:Raw→Value
 | ⟨f,some us⟩=>.func (.func f) #[] us.toArray
 | ⟨_,none⟩=>.nilFunc
instance:ah Raw where
 size:=1
 agg:=false
 rep _ _ cs x:=cs= [x.val]
 len h:=by rw [h];rfl
 one h:=by
  intro v bb;rw [h,List.mem_singleton] at bb;subst bb;rename_i x;obtain⟨f,us⟩:=x;cases us <;> rfl
 flat _:=rfl
 mono _ h:=h
instance:a6 Raw:=⟨[.nilFunc],fun _ _=>rfl⟩
theorem Um {A W v}{x:Raw} :(I.of x).holds A W v↔v=x.val:=by
 constructor
 ·intro h;exact nV (by have:=h.1;exact this) h.2
 intro h;subst h;obtain⟨f,us⟩:=x;cases us <;> exact⟨rfl,rfl⟩
section
variable {c:cF} {E:List (Nat×I)} {L:List aF} {ops:Array Oper} {Q:Exit→Act→World→Prop}
variable {d:Option Tmp} {ty:TypeId} {pos:String} {af:Array Edge} {g:Option (Nat×Bool)} {x y:Operand} {t t2:TypeId}
theorem ho.eqs {A:List Nat}{W:World} :∀ {us vs:List Value},ho A W (us.map I.eq) vs→vs=us
 | [],_,.nil=>rfl
 | _::_,_,.cons h r=>by rw [r.eqs];congr 1
theorem ho.VY {A:List Nat}{W:World} :∀ {us:List Value},ho A W (us.map I.eq) us
 | []=>.nil
 | _::_=>.cons rfl .VY
theorem ahn {f:FuncId}{xs:List Operand}{us:List Value}(al:iJ c E L xs (us.map I.eq)):bc c E L ⟨d,.makeFunc (.func f) #[] xs.toArray,ty,pos,af,g⟩ (.of (⟨f,some us⟩:Raw)):= .pure fun a W s=>
 ⟨.func (.func f) #[] us.toArray,by
   have h:=(al.holds a W s).eqs;simp [execOp,Instr.makeFunc,h],Um.2 rfl⟩
theorem ads {f:FuncId}{us:List Value}(al:aN c E L x (.of (⟨f,some us⟩:Raw))):aN c E L x (.lv f (us.map I.eq)):=fun a W s=>
 ⟨us,Um.1 (al a W s),.VY⟩
theorem J.anT {o:Oper}{rest:List Oper}{ba j gs:Nat}{b want:Bool}{β γ xB:Type}{m:ag β}{z:β}{k:β→ag xB}{R:xB→Prop}(h:ag.bind (bif decide (b=want) then m else ag.ret z) k R)(σ:β→I)(L2:β→γ→List aF)(g0:γ)(aq:L=L2 z g0)
 (bA:o.guard=some (j,want)) (aB:(ops[j]?).bind (·.dst)=some gs) (ak:look E gs=some (.of b)) (hd:o.dst=some ba) (aH:Nat.blt ba c.n=true)
 (bw:b=want→m (fun r=>k r R)→ee c E L o (fun q: {r // k r R}×γ=>σ q.1.1) (fun q=>L2 q.1.1 q.2))
 (kG:∀ y g,k y R→J c ops Q rest ((ba,.cond (b=want) (σ y))::E) (L2 y g)):J c ops Q (o::rest) E L:=by
 by_cases hb:b=want
 ·have hm:m (fun r=>k r R):=by
   have cL:(bif decide (b=want) then m else ag.ret z) (fun r=>k r R):=h;rw [decide_eq_true hb] at cL;exact cL
  exact J.YX (β:=β×γ) (K:=fun y=>k y.1 R) (σ:=fun y=>σ y.1) (L2:=fun y=>L2 y.1 y.2) (val:=fun q=>(q.1.1,q.2)) bA aB ak hd aH (fun _=>bw hb hm) (fun _ q=>⟨q.1.2,rfl,rfl⟩) (fun h=>absurd hb h) fun y aR=>kG y.1 y.2 aR
 have hm:k z R:=by
  have cL:(bif decide (b=want) then m else ag.ret z) (fun r=>k r R):=h;rw [decide_eq_false hb] at cL;exact cL
 exact J.YX (δ:=Unit) (β:=β×γ) (K:=fun y=>k y.1 R) (σ:=fun y=>σ y.1) (L2:=fun y=>L2 y.1 y.2) (val:=fun _=>(z,g0)) (ρ:=fun _=>σ z) (L':=fun _=>L2 z g0) bA aB ak hd aH (fun h=>absurd h hb) (fun h=>absurd h hb) (fun _=>⟨(z,g0),hm,aq⟩) fun y aR=>kG y.1 y.2 aR
end
section
variable {c:cF} {E:List (Nat×I)} {L:List aF} {ops:Array Oper} {Q:Exit→Act→World→Prop}
theorem J.U0 {l:List Oper}{p q:Nat}(gw:Nat)(ak:look E gw=some (.eq (.pointer (some ⟨p,0,none⟩))))(he:q=p)(k:J c ops Q l ((gw,.of (some q:Ref))::E) L):J c ops Q l E L:=fun a W s=>by
 subst he;refine k a W (s.less fun t τ h=>?_);simp only [look] at h;by_cases e:Nat.beq gw t=true
 ·rw [e] at h;simp only [cond_true,Option.some.injEq] at h;have:=eS.1 e;subst this;subst h;exact⟨_,ak,fun A W v bb=>wW.2 bb⟩
 simp only [Bool.not_eq_true] at e;rw [e] at h;exact⟨τ,h,fun _ _ _ h=>h⟩
end
section
variable {c:cF} {E:List (Nat×I)} {L:List aF} {ops:Array Oper} {Q:Exit→Act→World→Prop}
def qc (ops:Array Oper)(n:Nat)(hs:List (Option Nat×List Nat×List Nat×List Nat))(E:List Nat):Bool:=
 decide (hs.length=n)&&decide (n≤ops.size)&&decide (hs.filterMap (·.1)).Nodup&&((List.range n).all fun m=>match hs[m]? with | some (some s,up,_)=> !E.contains s||(List.range n).all fun k=>decide (k=m)||up.contains k | _=>true)&&
 ((List.range n).all fun i=>match hs[i]? with
   | none=>false
   | some (_,up,rd,wr)=>
     (((ops[i]?).map fun o=>(o.dst==(hs[i]?).bind (·.1))&&o.after.all fun e=> !Region.binds .any e||decide (e.on<i)).getD false)&&
     (up.all fun k=>Region.waitsFor .any ops i k||(List.range i).any fun m=>Region.waitsFor .any ops i m&&((hs[m]?).map fun h=>h.2.1.contains k).getD false)&&
     ((List.range n).all fun k=>match hs[k]? with
       | none=>true
       | some (_,amt,_,Yd)=>
         (!(decide (k<i)&&Yd.any rd.contains)||up.contains k)&&(!(decide (i<k)&&Yd.any fun j=>rd.contains j||wr.contains j)||amt.contains i)))&&
 (decide (n=ops.size)||(Region.sinkB .any ops n&&Region.chainB .any ops n))&&
 Region.seqB .any ops (ops.size - n) n ((List.range n).foldl (fun l i=>l.setIfInBounds i true) (Array.replicate ops.size false))
theorem ab7 {n:Nat}{hs:List dz}{np:Nat}(hw:∀ h∈hs,∀ j∈h.wr,j<np∨L.length≤j)(fo:qc ops n (lB hs) (E.map (·.1))=true)(bQ:pg c ops Q hs E L np 0 (ops.toList.take n) hs)
 (bw:∀ hd,J c ops Q (ops.toList.drop n) (h9 (fun _=>true) hd E 0 hs) (gI (fun _=>true) hd 0 hs L)):
 ∀ m (bs:Array Bool) (hd:Nat→Hid) (a:Act) (W:World),((List.range n).filter fun i=> !bs.getD i true).length≤m→HeadInv .any ops n bs→
   bI c (h9 (fun i=>bs.getD i false) hd E 0 hs) (gI (fun i=>bs.getD i false) hd 0 hs L) a W→wpAnyIn c.F 9 c.P .any ops Q (m+(ops.size - n)) bs a W:=by
 simp only [qc,Bool.and_eq_true,decide_eq_true_eq,Bool.or_eq_true] at fo
 obtain⟨⟨⟨⟨⟨⟨aij,aH⟩,kk⟩,Xd⟩,pB⟩,Fe⟩,zm⟩:=fo
 have hlen:hs.length=n:=by simpa [lB] using aij
 have qi:∀ i,i<n→ ∃ h o,hs[i]? =some h∧ops[i]? =some o:=fun i ao=>⟨hs[i]'(by omega),ops[i],by simp,by simp⟩
 have y8:∀ (i:Nat) (h:dz) (o:Oper),hs[i]? =some h→ops[i]? =some o→
  o.dst=h.slot∧ (∀ e∈o.after,Region.binds .any e=true→e.on<i)∧
  (∀ k∈h.up,Region.waitsFor .any ops i k=true∨ ∃ m,m<i∧Region.waitsFor .any ops i m=true∧ ∃ x,hs[m]? =some x∧k∈x.up)∧
  (∀ (k:Nat) (x:dz),hs[k]? =some x→ (k<i→ (∃ j∈x.wr,h.rd.contains j=true)→k∈h.up)∧ (i<k→ (∃ j∈x.wr,h.rd.contains j=true∨h.wr.contains j=true)→i∈x.up)):=by
  intro i h o ao bg
  have cj:i<n:=by have:=(List.getElem?_eq_some_iff.1 ao).1;omega
  have h1:=List.all_eq_true.1 pB i (List.mem_range.2 cj)
  rw [Mh ao] at h1
  simp only [Bool.and_eq_true] at h1
  obtain⟨⟨ab,ax⟩,aO⟩:=h1
  simp only [bg,Option.map_some,Option.getD_some,Bool.and_eq_true,Option.bind_some,beq_iff_eq] at ab
  refine⟨ab.1,fun e he hb=>?_,fun k hk=>?_,fun k x al=>?_⟩
  ·have:=Array.all_eq_true_iff_forall_mem.1 ab.2 e he
   simp [hb] at this
   exact this
  ·have:=List.all_eq_true.1 ax k hk
   simp only [Bool.or_eq_true,List.any_eq_true,Bool.and_eq_true,List.mem_range] at this
   rcases this with a7 | ⟨m,a7,bl,cN⟩
   ·exact .inl a7
   have hm:m<hs.length:=by omega
   rw [Mh (List.getElem?_eq_getElem hm)] at cN
   exact .inr ⟨m,a7,bl,hs[m],List.getElem?_eq_getElem hm,by simpa using cN⟩
  have Ph:k<n:=by have:=(List.getElem?_eq_some_iff.1 al).1;omega
  have:=List.all_eq_true.1 aO k (List.mem_range.2 Ph)
  rw [Mh al] at this
  simp only [Bool.and_eq_true,Bool.or_eq_true,Bool.not_eq_true',Bool.and_eq_false_iff,decide_eq_false_iff_not,List.contains_iff_mem] at this
  refine⟨fun oX ⟨j,aB,aA⟩=>?_,fun s4 ⟨j,aB,aA⟩=>?_⟩
  ·rcases this.1 with(a7 | a7) | a7
   ·exact absurd oX a7
   ·have:=List.any_eq_false.1 a7 j aB
    exact absurd aA this
   exact a7
  rcases this.2 with(a7 | a7) | a7
  ·exact absurd s4 a7
  ·have:=List.any_eq_false.1 a7 j aB
   simp only [Bool.or_eq_true] at this
   exact absurd aA this
  exact a7
 have NY:∀ (i j s:Nat) (x y:dz),hs[i]? =some x→hs[j]? =some y→x.slot=some s→y.slot=some s→i=j:=by
  have key:∀ (l:List dz),((lB l).filterMap (·.1)).Nodup→ ∀ (i j s:Nat) (x y:dz),l[i]? =some x→l[j]? =some y→x.slot=some s→y.slot=some s→i=j:=by
   intro l;induction l with
   | nil=>intro _ i j s x y h;simp at h
   | cons z r b2=>
     intro kk i j s x y ao aB al aR
     have aA:((lB r).filterMap (·.1)).Nodup:=by
      cases bF:z.slot with
      | none=>simpa [lB,bF] using kk
      | some w=>
        simp only [lB,List.map_cons,List.filterMap_cons,bF] at kk
        exact(List.nodup_cons.1 kk).2
     have FB:z.slot=some s→ ∀ (q:Nat) (v:dz),r[q]? =some v→v.slot≠some s:=fun bF q v hq bb=>by
      simp only [lB,List.map_cons,List.filterMap_cons,bF] at kk;exact(List.nodup_cons.1 kk).1 (List.mem_filterMap.2 ⟨_,List.mem_map.2 ⟨v,List.mem_of_getElem? hq,rfl⟩,bb⟩)
     cases i with
     | zero=>
       simp only [List.getElem?_cons_zero,Option.some.injEq] at ao
       subst ao
       cases j with
       | zero=>rfl
       | succ j=>simp only [List.getElem?_cons_succ] at aB;exact absurd aR (FB al j y aB)
     | succ i=>
       simp only [List.getElem?_cons_succ] at ao
       cases j with
       | zero=>
         simp only [List.getElem?_cons_zero,Option.some.injEq] at aB
         subst aB
         exact absurd al (FB aR i x ao)
       | succ j=>simp only [List.getElem?_cons_succ] at aB;rw [b2 aA i j s x y ao aB al aR]
  exact key hs kk
 have aik:∀ (t:Nat) (τ:I),look E t=some τ→ ∀ (m:Nat) (h:dz),hs[m]? =some h→h.slot=some t→ ∀ k,k<n→k≠m→k∈h.up:=by
  intro t τ ak m h hm iM k hk Gn;have sZ:m<n:=by have:=(List.getElem?_eq_some_iff.1 hm).1;omega
  have h1:=List.all_eq_true.1 Xd m (List.mem_range.2 sZ);rw [show(lB hs)[m]? =some (h.slot,h.up,h.rd,h.wr) by simp [lB,hm],iM] at h1;have Cd:t∈E.map (·.1):=by
   clear Xd h1 bQ bw hm iM;induction E with
   | nil=>simp [look] at ak
   | cons x r b2=>
     obtain⟨s,σ⟩:=x
     simp only [look] at ak
     by_cases e:Nat.beq s t=true
     ·have:=eS.1 e;subst this;simp
     simp only [Bool.not_eq_true] at e
     rw [e] at ak
     simp only [List.map_cons,List.mem_cons]
     exact .inr (b2 ak)
  replace h1:(!(E.map (·.1)).contains t||(List.range n).all fun k=>decide (k=m)||h.up.contains k)=true:=h1;rw [show(E.map (·.1)).contains t=true by simpa using Cd] at h1;have ab:∀ x,x<n→x=m∨x∈h.up:=by simpa using h1
  exact(ab k hk).resolve_left Gn
 have xD:∀ (bs:Array Bool),HeadInv .any ops n bs→ ∀ (d i:Nat),i≤d→ ∀ (h:dz) (o:Oper),hs[i]? =some h→ops[i]? =some o→ (∀ e∈o.after,Region.binds .any e=true→bs.getD e.on false=true)→ ∀ k∈h.up,bs.getD k false=true:=by
  intro bs inv d;induction d with
  | zero=>
    intro i ao h o gr CA hw k hk
    rcases (y8 i h o gr CA).2.2.1 k hk with h1 | ⟨m,hm,_⟩
    ·obtain⟨xO,qt,e,he,hb,zM⟩:=Region.waitsFor_spec h1
     rw [CA] at qt;cases qt
     rw [← zM];exact hw e he hb
    omega
  | succ d b2=>
    intro i ao h o gr CA hw k hk
    rcases (y8 i h o gr CA).2.2.1 k hk with h1 | ⟨m,hm,h1,x,al,amu⟩
    ·obtain⟨xO,qt,e,he,hb,zM⟩:=Region.waitsFor_spec h1
     rw [CA] at qt;cases qt
     rw [← zM];exact hw e he hb
    obtain⟨xO,qt,e,he,hb,zM⟩:=Region.waitsFor_spec h1
    rw [CA] at qt;cases qt
    have sZ:=hw e he hb
    rw [zM] at sZ
    obtain⟨aV,GW,qu,Gp⟩:=qi m (by have:=(List.getElem?_eq_some_iff.1 gr).1;omega)
    exact b2 m (by omega) x GW al Gp (fun e he hb=>inv.closed m GW Gp sZ e he hb) k amu
 have sL:∀ (bs:Array Bool) (hd:Nat→Hid) (a:Act) (W:World),(∀ i,i<n→bs.getD i true=true)→HeadInv .any ops n bs→
  bI c (h9 (fun i=>bs.getD i false) hd E 0 hs) (gI (fun i=>bs.getD i false) hd 0 hs L) a W→wpAnyIn c.F 9 c.P .any ops Q (ops.size - n) bs a W:=by
  intro bs hd a W w7 inv st
  have ak:=RN inv aH w7
  rw [← ak] at zm
  have Jo:(ops.toList.drop n).length=ops.size - n:=by simp
  rw [← Jo]
  rw [← Jo] at zm
  refine HL (ops.toList.drop n) n bs a W (fun j=>by simp) zm (bw hd a W ?_)
  have mD:∀ m,m<hs.length→bs.getD (0+m) false=true:=fun m hm=>by
   have h1:=w7 m (by omega);have ab:m<bs.size:=by rw [inv.size];omega
   simpa [ab] using h1
  rw [RS (ls':=fun _=>true) mD,SL (ls':=fun _=>true) mD] at st
  exact st
 have more:∀ f (bs:Array Bool) a W,wpAnyIn c.F 9 c.P .any ops Q f bs a W→wpAnyIn c.F 9 c.P .any ops Q (f+1) bs a W:=by
  intro f;induction f with
  | zero=>intro bs a W h;exact⟨fun _=>h.2,fun i ao=>by rw [h.1] at ao;cases ao⟩
  | succ f Pj=>intro bs a W h;exact⟨h.1,fun i ao=>wpOpIn_mono (fun gv qy cL=>Pj _ gv qy cL) (h.2 i ao)⟩
 intro m
 induction m with
 | zero=>
   intro bs hd a W hm inv st
   rw [Nat.zero_add]
   refine sL bs hd a W (fun i ao=>?_) inv st
   cases h:bs.getD i true with
   | true=>rfl
   | false=>
     have:i∈ (List.range n).filter fun i=> !bs.getD i true:=List.mem_filter.2 ⟨List.mem_range.2 ao,by rw [h];rfl⟩
     rw [List.length_eq_zero_iff.1 (Nat.le_zero.1 hm)] at this
     cases this
 | succ m b2=>
   intro bs hd a W hm inv st
   rw [show m+1+(ops.size - n)=(m+(ops.size - n))+1 by omega]
   by_cases Ff:∀ i,i<n→bs.getD i true=true
   ·have h1:=sL bs hd a W Ff inv st
    have key:∀ k,wpAnyIn c.F 9 c.P .any ops Q (k+(ops.size - n)) bs a W:=by
     intro k;induction k with
     | zero=>rw [Nat.zero_add];exact h1
     | succ k Pk=>rw [show k+1+(ops.size - n)=(k+(ops.size - n))+1 by omega];exact more _ _ _ _ Pk
    exact more _ _ _ _ (key m)
   have hex:∃ i,i<n∧bs.getD i true=false:=by
    false_or_by_contra;rename_i ab;exact Ff fun i ao=>by
     cases h:bs.getD i true with
     | true=>rfl
     | false=>exact absurd ⟨i,ao,h⟩ ab
   have M6:∀ t∈Region.ready .any ops bs,t<n:=by
    intro t zG;rcases Nat.lt_or_ge t n with h | h
    ·exact h
    obtain⟨i,ao,mZ⟩:=hex;have ard:n<ops.size∨n=ops.size:=by omega
    have akK:t<ops.size:=by
     obtain⟨_,o,bg,_⟩:=mem_ready.1 zG;exact(Array.getElem?_eq_some_iff.1 bg).1
    rcases Fe with h1 | h1
    ·omega
    exact absurd zG (tail_waits h1.1 h1.2 (by omega) inv _ i rfl ao mZ t h)
   refine⟨fun bq=>?_,fun i ao=>?_⟩
   ·exfalso
    have key:∀ d i,i≤d→i<n→bs.getD i true=true:=by
     intro d;induction d with
     | zero=>
       intro i xE ao
       cases ak:bs.getD i true with
       | true=>rfl
       | false=>
         obtain⟨h,o,gr,bg⟩:=qi i ao
         have:i∈Region.ready .any ops bs:=mem_ready.2 ⟨ak,o,bg,fun e he hb=>by have:=(y8 i h o gr bg).2.1 e he hb;omega⟩
         rw [bq] at this;cases this
     | succ d Pl=>
       intro i xE ao
       cases ak:bs.getD i true with
       | true=>rfl
       | false=>
         obtain⟨h,o,gr,bg⟩:=qi i ao
         have:i∈Region.ready .any ops bs:=mem_ready.2 ⟨ak,o,bg,fun e he hb=>by
          have h1:=(y8 i h o gr bg).2.1 e he hb;have ab:=Pl e.on (by omega) (by omega);have ax:e.on<bs.size:=by rw [inv.size];omega
          simpa [ax] using ab⟩
         rw [bq] at this;cases this
    obtain⟨i,ao,mZ⟩:=hex
    have:=key i i (Nat.le_refl _) ao
    rw [mZ] at this;cases this
   have fT:i<n:=M6 i ao
   obtain⟨mZ,o,bg,EN⟩:=mem_ready.1 ao
   obtain⟨h,_,gr,_⟩:=qi i fT
   have zn:bs.getD i false=false:=getD_both mZ
   have Cf:i<bs.size:=by rw [inv.size];omega
   have Oy:((List.range n).filter fun j=> !(bs.setIfInBounds i true).getD j true).length≤m:=by
    have:((List.range n).filter fun j=> !(bs.setIfInBounds i true).getD j true).length<((List.range n).filter fun j=> !bs.getD j true).length:=by
     refine Ui (fun j=> !bs.getD j true) (fun j=> !(bs.setIfInBounds i true).getD j true) i (by simp only [mZ];rfl) ?_ (fun j aB=>?_) n fT
     ·simp [Cf]
     by_cases e:i=j
     ·subst e;simp only [mZ];rfl
     rw [getD_set_ne true e] at aB;exact aB
    omega
   have akL:=inv.set ao fT
   obtain⟨are,ao5,apv,Xe⟩:=y8 i h o gr bg
   have JK:=xD bs inv i i (Nat.le_refl _) h o gr bg EN
   have Un:∀ (k:Nat) (x:dz),hs[k]? =some x→i<k→ (∃ j∈x.wr,h.rd.contains j=true∨h.wr.contains j=true)→bs.getD k false=false:=fun k x al s4 aB=>by
    have h1:=(Xe k x al).2 s4 aB;cases hk:bs.getD k false with
    | false=>rfl
    | true=>
      obtain⟨_,ok,_,jo⟩:=qi k (by have:=(List.getElem?_eq_some_iff.1 al).1;omega)
      have:=xD bs inv k k (Nat.le_refl _) x ok al jo (fun e he hb=>inv.closed k ok jo hk e he hb) i h1
      rw [zn] at this;cases this
   have yX:hs=hs.take i++h::hs.drop (i+1):=by
    have jq:i<hs.length:=by omega
    rw [List.getElem?_eq_getElem jq] at gr;cases gr;rw [List.getElem_cons_drop];exact(List.take_append_drop i hs).symm
   have Ka:(hs.take i).length=i:=by rw [List.length_take];omega
   have xz:∀ (t:Nat) (τ:I),look E t=some τ→ ∀ (m:Nat) (x:dz),hs[m]? =some x→bs.getD (0+m) false=true→x.slot≠some t:=fun t τ ak m x al Kb iM=>by
    rw [Nat.zero_add] at Kb;have amv:i≠m:=fun e=>by subst e;rw [zn] at Kb;cases Kb
    obtain⟨_,GW,_,Gp⟩:=qi m (by have:=(List.getElem?_eq_some_iff.1 al).1;omega);have:=xD bs inv m m (Nat.le_refl _) x GW al Gp (fun e he hb=>inv.closed m GW Gp Kb e he hb) i (aik t τ ak m x al iM i fT amv);rw [zn] at this;cases this
   have VZ:=(pg.get bQ i h o gr (by rw [List.getElem?_take,if_pos fT,Array.getElem?_toList];exact bg))
   rw [Nat.zero_add] at VZ
   have Pm:=VZ hd (h9 (fun i=>bs.getD i false) hd E 0 hs) (gI (fun i=>bs.getD i false) hd 0 hs L) (fun t τ ak=>?_) (fun j e aB aA=>?_) (Mi hw)
   ·have hw:=HO (K:=fun a W=> ∃ x,bI c (qZ h.slot (h.τ (hG h.up i (mC hd i x))) (h9 (fun i=>bs.getD i false) hd E 0 hs)) (oQ (gI (fun i=>bs.getD i false) hd 0 hs L) (h.dF (hG h.up i (mC hd i x))) h.wr) a W) bg (Pm a W st)
    refine wpOpIn_mono (fun gv W' ⟨x,rb⟩=>?_) hw
    have Ye:∀ j,j≠i→mC hd i x j=hd j:=fun j aB=>by
     have:Nat.beq j i=false:=by
      cases hb:Nat.beq j i
      ·rfl
      exact absurd (eS.1 hb) aB
     simp only [mC,this,cond_false]
    have Pn:∀ (j:Nat) (y:dz),hs[j]? =some y→bs.getD j false=true→hG y.up j (mC hd i x)=hG y.up j hd:=fun j y aR aB=>by
     obtain⟨_,xO,_,qt⟩:=qi j (by have:=(List.getElem?_eq_some_iff.1 aR).1;omega);refine acJ (Ye j fun e=>by subst e;rw [zn] at aB;cases aB) fun k hk=>Ye k fun e=>?_;have:=xD bs inv j j (Nat.le_refl _) y xO aR qt (fun e he hb=>inv.closed j xO qt aB e he hb) k hk;subst e;rw [zn] at this;cases this
    have Kc:(bs.setIfInBounds i true).getD i false=true:=by simp [Cf]
    have hg:∀ j,j≠i→ (bs.setIfInBounds i true).getD j false=bs.getD j false:=fun j aB=>getD_set_ne false (fun e=>aB e.symm)
    refine b2 _ (mC hd i x) gv W' Oy akL ?_
    have akM:gI (fun j=>(bs.setIfInBounds i true).getD j false) (mC hd i x) 0 hs L=oQ (gI (fun i=>bs.getD i false) hd 0 hs L) (h.dF (hG h.up i (mC hd i x))) h.wr:=by
     apply List.ext_getElem?;intro j;rw [IU,LO,IU];by_cases aB:h.wr.contains j=true
     ·rw [if_pos aB];have ar:∀ (ls:Nat→Bool) (g:Nat→Hid) (v:Option aF),(∀ k x,hs[k]? =some x→i<k→x.wr.contains j=true→ls k=false)→nE ls g j 0 hs v=(bif ls i then(nE ls g j 0 (hs.take i) v).map (fun _=>h.dF (hG h.up i g) j) else nE ls g j 0 (hs.take i) v):=fun ls g v F8=>by
       conv=>lhs;rw [yX]
       rw [Li,Ka,Nat.zero_add,nE,aB,Bool.and_true,LA];intro k x al hw;rw [List.getElem?_drop] at al;exact F8 (i+1+k) x al (by omega) hw
      have fx:∀ k x,hs[k]? =some x→i<k→x.wr.contains j=true→bs.getD k false=false:=fun k x al s4 hw=>Un k x al s4 ⟨j,by simpa using hw,.inr aB⟩;rw [ar (fun j=>(bs.setIfInBounds i true).getD j false) (mC hd i x) _ (fun k x al s4 hw=>by rw [hg k (by omega)];exact fx k x al s4 hw),ar (fun j=>bs.getD j false) hd _ fx];simp only [Kc,zn,cond_true,cond_false];rw [H3 (ls':=fun j=>bs.getD j false) (hd':=hd) fun q x al _=>by
       have hq:q<i:=by have:=(List.getElem?_eq_some_iff.1 al).1;omega
       rw [List.getElem?_take,if_pos hq] at al;rw [Nat.zero_add];exact⟨hg q (by omega),fun ak=>Pn q x al (by rw [hg q (by omega)] at ak;exact ak)⟩]
     rw [if_neg aB];refine H3 fun q x al hw=>?_;rw [Nat.zero_add];have hq:q≠i:=fun e=>by subst e;rw [gr] at al;cases al;exact aB hw
     exact⟨hg q hq,fun ak=>Pn q x al (by rw [hg q hq] at ak;exact ak)⟩
    rw [akM]
    refine rb.less fun t τ ak=>?_
    rcases SJ ak with⟨j,y,h1,ab,ax,aO⟩ | ⟨h1,fx⟩
    ·rw [Nat.zero_add] at ab aO
     by_cases kc:j=i
     ·subst kc
      rw [gr] at h1
      cases h1
      exact⟨τ,by rw [ax,aO];simp [qZ,look,Nat.beq_refl],fun _ _ _ h=>h⟩
     rw [hg j kc] at ab
     rw [Pn j y h1 ab] at aO
     have a7:=LP (ls:=fun i=>bs.getD i false) (hd:=hd) (E:=E) (k:=0) h1 (by rw [Nat.zero_add];exact ab) ax fun q z hq bF=>NY q j t z y hq h1 bF ax
     rw [Nat.zero_add,← aO] at a7
     refine⟨τ,?_,fun _ _ _ h=>h⟩
     cases xF:h.slot with
     | none=>exact a7
     | some s=>
       have de:Nat.beq s t=false:=by
        cases hb:Nat.beq s t
        ·rfl
        have:=eS.1 hb;subst this;exact absurd (NY j i s y h h1 gr ax xF) kc
       simp only [qZ,look,de,cond_false]
       exact a7
    have hb:=xz t τ h1
    have a7:=LB (ls:=fun i=>bs.getD i false) (hd:=hd) (E:=E) (k:=0) hb
    refine⟨τ,?_,fun _ _ _ h=>h⟩
    cases xF:h.slot with
    | none=>simp only [qZ];rw [a7];exact h1
    | some s=>
      have de:Nat.beq s t=false:=by
       cases mB:Nat.beq s t
       ·rfl
       have:=eS.1 mB;subst this;exact absurd xF (fx i h gr (by rw [Nat.zero_add];exact Kc))
      simp only [qZ,look,de,cond_false]
      rw [a7];exact h1
   ·rcases TG ak with⟨j,aB,y,h1,ab,ax⟩ | h1
    ·have a7:=LP (ls:=fun i=>bs.getD i false) (hd:=hd) (E:=E) (k:=0) h1 (by rw [Nat.zero_add];exact JK j aB) ab fun q z hq bF=>NY q j t z y hq h1 bF ab
     rw [Nat.zero_add,← ax] at a7
     exact a7
    rw [LB (xz t τ h1)];exact h1
   rw [IU] at aB ⊢
   rw [← aB]
   conv=>lhs;rw [yX]
   rw [Li,LA]
   ·refine H3 fun q x al hw=>?_
    rw [Nat.zero_add]
    have hq:q<i:=by have:=(List.getElem?_eq_some_iff.1 al).1;omega
    rw [List.getElem?_take,if_pos hq] at al
    exact⟨JK q ((Xe q x al).1 hq ⟨j,by simpa using hw,aA⟩),fun _=>rfl⟩
   intro q x al hw
   rw [Ka,Nat.zero_add]
   cases q with
   | zero=>exact zn
   | succ q=>
     simp only [List.getElem?_cons_succ] at al
     rw [List.getElem?_drop] at al
     exact Un (i+(q+1)) x (by rw [← al];congr 1;omega) (by omega) ⟨j,by simpa using hw,.inl aA⟩
theorem aw.IV {ka:Nat}{l:List Oper}(n:Nat){np:Nat}(hm:c.P.follows .mixedOrders=true)(hs:List dz)(ds:List (Option Nat×List Nat×List Nat×List Nat))(es:List Nat)(eC:lB hs=ds)(kR:E.map (·.1)=es)(fo:Gv.qc l.toArray n ds es=true)(ug:∀ h∈hs,∀ j∈h.wr,j<np∨L.length≤j)
 (bQ:pg c l.toArray Q hs E L np 0 (l.take n) hs) (bw:∀ hd,J c l.toArray Q (l.drop n) (h9 (fun _=>true) hd E 0 hs) (gI (fun _=>true) hd 0 hs L)):aw c Q (.region ka l.toArray true) E L:=fun a W s=>by
 subst eC kR
 refine wpIn_region_any hm ?_
 have aH:n≤l.toArray.size:=by
  simp only [Gv.qc,Bool.and_eq_true,decide_eq_true_eq] at fo;exact fo.1.1.1.1.1.2
 have akN:HeadInv .any l.toArray n (Array.replicate l.toArray.size false):=
  {size:=by simp
   closed:=fun j xO _ ak=>by rw [getD_replicate_false] at ak;cases ak
   tail:=fun t _ bw=>by simp at bw;simp [bw] }
 have h:=ab7 ug (ops:=l.toArray) (Q:=Q) fo (by simpa using bQ) (by simpa using bw) n (Array.replicate l.toArray.size false) (fun _ _=>none) a W.drew (Nat.le_trans (List.length_filter_le _ _) (by simp)) akN ?_
 ·rw [show n+(l.toArray.size - n)=l.toArray.size by omega] at h
  exact h
 have h1:∀ (hs:List dz) (k:Nat),h9 (fun i=>(Array.replicate l.toArray.size false).getD i false) (fun _ _=>none) E k hs=E:=by
  intro hs;induction hs with
  | nil=>intro k;rfl
  | cons h r b2=>
    intro k
    have ab:=b2 (k+1)
    simp only [getD_replicate_false] at ab
    unfold h9
    simp only [getD_replicate_false]
    exact ab
 have ab:∀ (hs:List dz) (k:Nat) (L:List aF),gI (fun i=>(Array.replicate l.toArray.size false).getD i false) (fun _ _=>none) k hs L=L:=by
  intro hs;induction hs with
  | nil=>intro k L;rfl
  | cons h r b2=>intro k L;rw [gI,b2];simp only [getD_replicate_false,cond_false]
 rw [h1,ab]
 exact s.world (Fr.drew W)
theorem aw.an2 {ka:Nat}{l:List Oper}{ds:List (Option Nat×List Nat×List Nat×List Nat)}(n np:Nat)(hm:c.P.follows .mixedOrders=true)(hs:List dz)(es:List Nat)
 (bQ:pg c l.toArray Q hs E L np 0 (l.take n) hs) (bw:∀ hd,J c l.toArray Q (l.drop n) (h9 (fun _=>true) hd E 0 hs) (gI (fun _=>true) hd 0 hs L))
 (eC:lB hs=ds:=by rfl) (kR:E.map (·.1)=es:=by rfl) (fo:Gv.qc l.toArray n ds es=true:=by kernel_rfl) (hw:(ds.all fun d=>d.2.2.2.all fun j=>Nat.blt j np)=true:=by kernel_rfl):aw c Q (.region ka l.toArray true) E L:=
 aw.IV n hm hs ds es eC kR fo (VT eC hw) bQ bw
theorem aw.Qd {ka:Nat}{l:List Oper}{ds:List (Option Nat×List Nat×List Nat×List Nat)}(np:Nat)(hm:c.P.follows .mixedOrders=true)(hs:List dz)(es:List Nat)
 (bQ:pg c l.toArray Q hs E L np 0 l hs) (bw:∀ hd,aj c Q .normal (h9 (fun _=>true) hd E 0 hs) (gI (fun _=>true) hd 0 hs L))
 (eC:lB hs=ds:=by rfl) (kR:E.map (·.1)=es:=by rfl) (fo:Gv.qc l.toArray l.length ds es=true:=by kernel_rfl) (hw:(ds.all fun d=>d.2.2.2.all fun j=>Nat.blt j np)=true:=by kernel_rfl):aw c Q (.region ka l.toArray true) E L:=
 aw.IV l.length hm hs ds es eC kR fo (VT eC hw) (by rw [List.take_length];exact bQ) (fun hd=>by rw [List.drop_length];exact J.nil (bw hd))
theorem aw.Kv {ka:Nat}{l:List Oper}{ds:List (Option Nat×List Nat×List Nat×List Nat)}(hm:c.P.follows .mixedOrders=true)(hs:List dz)(es:List Nat)
 (bQ:BJ c l.toArray Q hs E L 0 l hs) (bw:∀ hd,aj c Q .normal (h9 (fun _=>true) hd E 0 hs) (gI (fun _=>true) hd 0 hs L))
 (eC:lB hs=ds:=by rfl) (kR:E.map (·.1)=es:=by rfl) (fo:Gv.qc l.toArray l.length ds es=true:=by kernel_rfl):aw c Q (.region ka l.toArray true) E L:=
 aw.IV (np:=L.length) l.length hm hs ds es eC kR fo (fun _ _ j _=>by omega) (by rw [List.take_length];exact bQ.F9) (fun hd=>by rw [List.drop_length];exact J.nil (bw hd))
def rg:Nat→Nat→List (Option Nat)
 | _,0=>[]
 | a,n+1=>some a::rg (a+1) n
theorem aQ.tail {l:List Oper}{f:Nat}{bs:Array Bool}(n:Nat)(aT:(l.drop n).length=f)(hs:Region.seqB .any l.toArray f n bs=true)(h:J c l.toArray Q (l.drop n) E L):aQ c l.toArray Q f bs E L:=fun a W s=>by
 subst aT;exact HL (l.drop n) n bs a W (fun j=>by simp) hs (h a W s)
theorem ag.br {α β:Type}{o:Option α}{k:α→ag β}{R:β→Prop}{P:Prop}(h:ag.bind (ag.of o) k R)(g:∀ y,o=some y→k y R→P):P:=(ag.ae0 h).elim fun y h=>g y h.1 h.2
theorem ag.ex {α β:Type}{m:ag α}{k:α→ag β}{R:β→Prop}(h:ag.bind m k R):∃ K:α→Prop,m K∧ ∀ r,K r→k r R:=⟨_,h,fun _ h=>h⟩
end
theorem bJ.law {P:Program}{f:FuncId}{τs:List I}{bC:Type}[dU bC]{R:Bool×aG bC→Prop}{Lo: {r:Bool×aG bC // R r}×Unit→List aF}(h:bJ P f τs ([]++aI ([]:aG bC)) (fun d: {r:Bool×aG bC // R r}×Unit=>I.of d.1.1.1) Lo)(gQ:∀ r,R r→r.1=true):dZ P f τs (I.of true):=by
 intro A W vs eM bb;refine(h A W vs (fun k hk=>⟨eM k hk,by simp [aI,aP]⟩) (by simp [aI,aP]) (fun k hk=>by simp [aI,aP] at hk) (fun e he=>by simp [aI] at he) (by simpa [aI,aP] using bb)).mono ?_;intro e W' ⟨v,d,h1,ab,_,_,_,ax⟩;refine⟨v,h1,by simpa [aI,aP] using ab,?_⟩;have aO:=gQ d.1.1 d.1.2;rw [of_bool] at ax ⊢;rw [ax,aO]
end Gv
