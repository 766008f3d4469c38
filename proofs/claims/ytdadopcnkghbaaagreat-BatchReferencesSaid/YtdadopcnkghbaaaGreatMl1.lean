/-
  The library of the decompiler, as far as it is needed here. Conditions: none.
-/
import Derived.Lib.AppendZerosOnto
import Derived.Lib.Overlaps
import Derived.MapKept
import Derived.Maps.RangeRun
import Derived.Shelf.SlSortCmp.NoneTotal
import Derived.Lib.QuietBelow
import Derived.Test.YtdadopcnkghbaaaGreatMl0
set_option linter.defProp false
set_option linter.unusedVariables false
set_option linter.unusedSimpArgs false
namespace Gv
open Go
abbrev Hid:=Nat->aw Nat
def fK(l:aa (aw Nat)):Hid:=λi=>(l[i]?).getD none
structure dt where
 slot:Option Nat
 up:List Nat
 rd:List Nat
 wr:List Nat
 τ:(Nat->Hid)->J
 fS:(Nat->Hid)->Nat->aE
def hx(up:aa Nat)(i:Nat)(hd:Nat->Hid):Nat->Hid:=λj=>bif Nat.beq j i||up.any (λk=>Nat.beq k j)then hd j else λ_=>none
def mV(hd:Nat->Hid)(i:Nat)(x:Hid):Nat->Hid:=λj=>bif Nat.beq j i then x else hd j
def agp{up:aa Nat}{i:Nat}{hd hd':Nat->Hid}(h:hd i=hd' i)(cT:∀k∈up,hd k=hd' k):hx up i hd=hx up i hd':=by
 funext j;unfold hx;cases h1:Nat.beq j i
 ·cases ad:up.any (λk=>Nat.beq k j)
  ·rfl
  obtain⟨k,hk,he⟩:=oQ.1 ad;have:=eP.1 he;subst this;simp only[sL,cond_true];exact cT k hk
 have:=eP.1 h1;subst this;simp only[NQ,cond_true];exact h
def pa:aa aE->(Nat->aE)->aa Nat->aa aE
 |L,_,[]=>L
 |L,f,j::r=>pa (L.set j (f j)) f r
def Vh:∀{L:aa aE} {f:Nat->aE} {bT:aa Nat},(pa L f bT).length=L.length
 |_,_,[]=>rfl
 |L,f,j::r=>by rw[pa,Vh,vk]
def Pk:∀{L:aa aE} {f:Nat->aE} {bT:aa Nat} (i:Nat),(pa L f bT)[i]? =if bT.contains i=true then L[i]?.map (λ_=>f i)else L[i]?
 |_,_,[],i=>by simp[pa]
 | L,f,j::r,i=>by
   rw[pa,Pk i];by_cases h:j=i
   ·subst h;simp only[Ua,BEq.rfl,NQ,mc,oP];by_cases ao:j<L.length
    ·simp[ao]
    simp[ao]
   have hb:(i==j)=false:=by simp;exact λe=>h e.symm
   rw[Ua,hb,sL,w3 h]
def gy(ls:Nat->Bool)(hd:Nat->Hid):Nat->aa dt->aa aE->aa aE
 |_,[],L=>L
 |k,h::r,L=>gy ls hd (k+1) r (bif ls k then pa L (h.fS (hx h.up k hd)) h.wr else L)
def hW(ls:Nat->Bool)(hd:Nat->Hid)(E:aa (Nat×J)):Nat->aa dt->aa (Nat×J)
 |_,[]=>E
 | k,h::r=>match ls k,h.slot with
   |true,some s=>(s,h.τ (hx h.up k hd))::hW ls hd E (k+1) r
   |_,_=>hW ls hd E (k+1) r
def n1(ls:Nat->Bool)(hd:Nat->Hid)(j:Nat):Nat->aa dt->aw aE->aw aE
 |_,[],v=>v
 |k,h::r,v=>n1 ls hd j (k+1) r (bif ls k&&h.wr.contains j then v.map (λ_=>h.fS (hx h.up k hd) j)else v)
def KL{ls:Nat->Bool}{hd:Nat->Hid}(j:Nat):∀{k:Nat} {hs:aa dt} {L:aa aE},(gy ls hd k hs L)[j]? =n1 ls hd j k hs L[j]?
 |_,[],_=>rfl
 | k,h::r,L=>by
   rw[gy,n1,KL j];congr 1;cases ls k
   ·rfl
   simp only[cond_true,zd];rw[Pk];cases h.wr.contains j <;> rfl
def O8{ls:Nat->Bool}{hd:Nat->Hid}{j:Nat}:∀{k:Nat} {hs:aa dt} {v:aw aE},(∀m h,hs[m]? =some h->h.wr.contains j=true->ls (k+m)=false)->n1 ls hd j k hs v=v
 |_,[],_,_=>rfl
 | k,h::r,v,aI=>by
   rw[n1,O8 λm x hm al=>by have:=aI (m+1) x (by simpa using hm) al;rw[<-this];congr 1;omega];cases hw:h.wr.contains j
   ·simp
   have:=aI 0 h I hw;simp only[Nat.add_zero]at this;rw[this];rfl
def OM{ls:Nat->Bool}{hd:Nat->Hid}{j:Nat}:∀{k:Nat} {hs rs:aa dt} {v:aw aE},n1 ls hd j k (hs++rs) v=n1 ls hd j (k+hs.length) rs (n1 ls hd j k hs v)
 |_,[],_,_=>rfl
 | k,h::r,rs,v=>by
   rw[List.cons_append,n1,OM,n1,List.length_cons];congr 1;omega
def JZ{ls ls':Nat->Bool}{hd hd':Nat->Hid}{j:Nat}:∀{k:Nat} {hs:aa dt} {v:aw aE},(∀m h,hs[m]? =some h->h.wr.contains j=true->ls (k+m)=ls' (k+m)∧(ls (k+m)=true->hx h.up (k+m) hd=hx h.up (k+m) hd'))->n1 ls hd j k hs v=n1 ls' hd' j k hs v
 |_,[],_,_=>rfl
 | k,h::r,v,aI=>by
   have bJ:=JZ (ls:=ls) (ls':=ls') (hd:=hd) (hd':=hd') (j:=j) (k:=k+1) (hs:=r) (v:=bif ls k&&h.wr.contains j then v.map (λ_=>h.fS (hx h.up k hd) j)else v) λm x hm al=>by
    have:=aI (m+1) x (by simpa using hm) al;rw[show k+1+m=k+(m+1) by omega];exact this
   rw[n1,n1,bJ];congr 1;cases hw:h.wr.contains j
   ·simp
   have:=aI 0 h I hw;simp only[Nat.add_zero]at this;rw[<-this.1];cases ao:ls k
   ·rfl
   rw[this.2 ao]
def O9{ls:Nat->Bool}{hd:Nat->Hid}{E:aa (Nat×J)}{t:Nat}:∀{k:Nat} {hs:aa dt},(∀(m:Nat) (h:dt),hs[m]? =some h->ls (k+m)=true->h.slot≠some t)->look (hW ls hd E k hs) t=look E t
 |_,[],_=>rfl
 | k,h::r,aI=>by
   have bJ:=O9 (ls:=ls) (hd:=hd) (E:=E) (t:=t) (k:=k+1) (hs:=r) λm x hm ao=>aI (m+1) x (by simpa using hm) (by rw[<-ao];congr 1;omega);unfold hW;split
   ·rename_i s h1 ad;have cX:Nat.beq s t=false:=by
     cases hb:Nat.beq s t
     ·rfl
     have:=eP.1 hb;subst this;exact absurd ad (aI 0 h I h1)
    simp only[look,cX,cond_false];exact bJ
   exact bJ
def Pl{ls:Nat->Bool}{hd:Nat->Hid}{E:aa (Nat×J)}{s:Nat}:∀{k:Nat} {hs:aa dt} {j:Nat} {h:dt},hs[j]? =some h->ls (k+j)=true->h.slot=some s->(∀m x,hs[m]? =some x->x.slot=some s->m=j)->look (hW ls hd E k hs) s=some (h.τ (hx h.up (k+j) hd))
 |_,[],_,_,h,_,_,_=>by simp at h
 | k,x::r,0,h,aC,ao,hs,_=>by
   simp only[List.getElem?_cons_zero,fi]at aC;subst aC;simp only[Nat.add_zero]at ao;unfold hW;rw[ao,hs];simp[look,ng]
 | k,x::r,j+1,h,aC,ao,hs,hu=>by
   have bJ:=Pl (ls:=ls) (hd:=hd) (E:=E) (s:=s) (k:=k+1) (hs:=r) (j:=j) (h:=h) (by simpa using aC) (by rw[<-ao];congr 1;omega) hs λm y hm hy=>by
    have:=hu (m+1) y (by simpa using hm) hy;omega
   rw[show k+1+j=k+(j+1) by omega]at bJ;unfold hW;split
   ·rename_i b0 h1 ad;have cX:Nat.beq b0 s=false:=by
     cases hb:Nat.beq b0 s
     ·rfl
     have:=eP.1 hb;subst this;have:=hu 0 x I ad;omega
    simp only[look,cX,cond_false];exact bJ
   exact bJ
def Wh{ls:Nat->Bool}{hd:Nat->Hid}{E:aa (Nat×J)}{t:Nat}{τ:J}:∀{k:Nat} {hs:aa dt},look (hW ls hd E k hs) t=some τ->(∃(j:Nat) (h:dt),hs[j]? =some h∧ls (k+j)=true∧h.slot=some t∧τ=h.τ (hx h.up (k+j) hd))∨(look E t=some τ∧∀(m:Nat) (h:dt),hs[m]? =some h->ls (k+m)=true->h.slot≠some t)
 |_,[],h=>.inr ⟨h,λm h hm=>by simp at hm⟩
 | k,x::r,h=>by
   unfold hW at h;have go:(ls k=true->x.slot≠some t)->look (hW ls hd E (k+1) r) t=some τ->(∃(j:Nat) (h:dt),(x::r)[j]? =some h∧ls (k+j)=true∧h.slot=some t∧τ=h.τ (hx h.up (k+j) hd))∨(look E t=some τ∧∀(m:Nat) (h:dt),(x::r)[m]? =some h->ls (k+m)=true->h.slot≠some t):=λal h=>by
    rcases Wh h with⟨j,y,h1,ad,ay,aR⟩|⟨h1,ad⟩
    ·exact .inl ⟨j+1,y,by simpa using h1,by rw[<-ad];congr 1;omega,ay,by rw[aR];congr 2;omega⟩
    refine .inr ⟨h1,λm y hm ao=>?_⟩;cases m with
    |zero=>simp only[List.getElem?_cons_zero,fi]at hm;subst hm;exact al ao
    |succ m=>exact ad m y (by simpa using hm) (by rw[<-ao];congr 1;omega)
   split at h
   ·rename_i s h1 ad;simp only[look]at h;by_cases e:Nat.beq s t=true
    ·rw[e]at h;simp only[cond_true,fi]at h;have:=eP.1 e;subst this;exact .inl ⟨0,x,rfl,h1,ad,h.symm⟩
    rw[kX]at e;rw[e]at h;exact go (λ_ fJ=>by rw[ad]at fJ;cases fJ;rw[ng]at e;cases e) h
   rename_i e9;exact go (λao fJ=>e9 t ao fJ) h
def kG(hd:Nat->Hid)(hs:aa dt)(E:aa (Nat×J)):aa Nat->aa (Nat×J)
 |[]=>E
 | j::r=>match hs[j]? with
   | some h=>match h.slot with
     |some s=>(s,h.τ (hx h.up j hd))::kG hd hs E r
     |none=>kG hd hs E r
   |none=>kG hd hs E r
def W8{hd:Nat->Hid}{hs:aa dt}{E:aa (Nat×J)}{t:Nat}{τ:J}:∀{ds:aa Nat},look (kG hd hs E ds) t=some τ->(∃j∈ds,∃h:dt,hs[j]? =some h∧h.slot=some t∧τ=h.τ (hx h.up j hd))∨look E t=some τ
 |[],h=>.inr h
 | j::r,h=>by
   have go:look (kG hd hs E r) t=some τ->(∃i∈j::r,∃h:dt,hs[i]? =some h∧h.slot=some t∧τ=h.τ (hx h.up i hd))∨look E t=some τ:=λh=>by
    rcases W8 h with⟨i,h1,ad⟩|h1
    ·exact .inl ⟨i,by simp[h1],ad⟩
    exact .inr h1
   unfold kG at h;split at h
   ·rename_i x al;split at h
    ·rename_i s pf;simp only[look]at h;by_cases e:Nat.beq s t=true
     ·rw[e]at h;simp only[cond_true,fi]at h;have:=eP.1 e;subst this;exact .inl ⟨j,by simp,x,al,pf,h.symm⟩
     simp only[kX]at e;rw[e]at h;exact go h
    exact go h
   exact go h
def Ae(E:aa (Nat×J))(v:bl):aa Nat->Prop
 |[]=>True
 |s::r=>look E s=some (.eq v)∧Ae E v r
def Ae.get{E:aa (Nat×J)}{v:bl}:∀{eH:aa Nat},Ae E v eH->∀s∈eH,look E s=some (.eq v)
 | _::_,h,s,hs=>by
   rcases dO.1 hs with rfl|hs
   ·exact h.1
   exact Ae.get h.2 s hs
def Dp(τ:J)(E:aa (Nat×J)):aa Nat->aa (Nat×J)
 |[]=>E
 |s::r=>(s,τ)::Dp τ E r
def Wi{τ:J}{E:aa (Nat×J)}{t:Nat}{σ:J}:∀{eH:aa Nat},look (Dp τ E eH) t=some σ->(t∈eH∧σ=τ)∨look E t=some σ
 |[],h=>.inr h
 | s::r,h=>by
   simp only[Dp,look]at h;by_cases e:Nat.beq s t=true
   ·rw[e]at h;simp only[cond_true,fi]at h;have:=eP.1 e;subst this;exact .inl ⟨by simp,h.symm⟩
   simp only[kX]at e;rw[e]at h;rcases Wi h with⟨h1,ad⟩|h1
   ·exact .inl ⟨by simp[h1],ad⟩
   exact .inr h1
def rk:aw Nat->J->aa (Nat×J)->aa (Nat×J)
 |some s,τ,E=>(s,τ)::E
 |none,_,E=>E
section
variable{c:cj}{E:aa (Nat×J)}{L:aa aE}{ops:Array Oper}{Q:Exit->Act->bf->Prop}
def bG.jW{a:Act}{W:bf}{α:Type}[ah α]{i cap T:Nat}{eH:aa Nat}{key:aw Nat}{xs:aa α}(h:bG c E L a W)(ao:Ae E (aO key xs.length cap) eH)(av:L[i]? =some ⟨key,.row T xs cap⟩):
 bG c (Dp (.of xs) E eH) (L.set i ⟨none,.dead⟩) a W:=by
 have hk:=h.kill i
 refine {hk with env:=λt τ en=>?_}
 rcases Wi en with⟨hm,rfl⟩|h1
 ·obtain⟨v,h1,ad⟩:=h.env t _ (ao.get t hm)
  refine⟨v,h1,pB.2 ?_⟩
  have mu:v=aO key xs.length cap:=ad
  subst mu
  have aU:=h.own _ (eo av)
  cases key with
  |none=>exact .inl ⟨rfl,aU.1⟩
  | some p=>
    obtain⟨o,e3,cs,rfl,dK,aI,AJ,aD⟩:=aU
    obtain⟨ay,aR⟩:=OL dK aI aD
    refine .inr ⟨p,0,cap,cs,T,(0,0),rfl,h.FD av,e3,aI,by omega,ay,?_⟩
    have mQ:=BX (L:=L) (i:=i) (cp:=.dead)
    exact aR.mono (.drop λk hm=>by
     rcases ca.1 hm with hm|hm
     ·exact ca.2 (.inl (mQ.subset hm))
     exact ca.2 (.inr hm))
 exact hk.env t τ h1
def ae.jW{l:aa Oper}{α:Type}[ah α]{key:aw Nat}{xs:aa α}{cap T:Nat}(i:Nat)(eH:aa Nat)(ao:Ae E (aO key xs.length cap) eH)(av:L[i]? =some ⟨key,.row T xs cap⟩)
 (k:ae c ops Q l (Dp (.of xs) E eH) (L.set i ⟨none,.dead⟩)):ae c ops Q l E L:=λa W st=>k a W (st.jW ao av)
def ar.jW{x:Exit}{α:Type}[ah α]{key:aw Nat}{xs:aa α}{cap T:Nat}(i:Nat)(eH:aa Nat)(ao:Ae E (aO key xs.length cap) eH)(av:L[i]? =some ⟨key,.row T xs cap⟩)
 (k:ar c Q x (Dp (.of xs) E eH) (L.set i ⟨none,.dead⟩)):ar c Q x E L:=λa W st=>k a W (st.jW ao av)
def fA(c:cj)(ops:Array Oper)(Q:Exit->Act->bf->Prop)(hs:aa dt)(E:aa (Nat×J))(L:aa aE)(i:Nat)(o:Oper)(h:dt):Prop:=
 ∀ (hd:Nat->Hid) (E':aa (Nat×J)) (L':aa aE),(∀t τ,look (kG hd hs E h.up) t=some τ->look E' t=some τ)->
   (∀j e,(gy (λ_=>true) hd 0 (hs.take i) L)[j]? =some e->h.rd.contains j=true->L'[j]? =some e)->
   ae c ops (pr (λa W=> ∃x,bG c (rk h.slot (h.τ (hx h.up i (mV hd i x))) E') (pa L' (h.fS (hx h.up i (mV hd i x))) h.wr) a W) Q) [o] E' L'
def Cv(c:cj)(ops:Array Oper)(Q:Exit->Act->bf->Prop)(hs:aa dt)(E:aa (Nat×J))(L:aa aE):Nat->aa Oper->aa dt->Prop
 |_,[],[]=>True
 |i,o::os,h::r=>fA c ops Q hs E L i o h∧Cv c ops Q hs E L (i+1) os r
 |_,_,_=>False
def Vw{ls ls':Nat->Bool}{hd:Nat->Hid}:∀{k:Nat} {hs:aa dt},(∀m,m<hs.length->ls (k+m)=ls' (k+m))->hW ls hd E k hs=hW ls' hd E k hs
 |_,[],_=>rfl
 | k,h::r,aI=>by
   have bJ:=Vw (ls:=ls) (ls':=ls') (hd:=hd) (k:=k+1) (hs:=r) λm hm=>by
    have:=aI (m+1) (by simp;omega);rw[show k+1+m=k+(m+1) by omega];exact this
   have bu:=aI 0 (by simp);simp only[Nat.add_zero]at bu;unfold hW;rw[bu,bJ]
def Wj{ls ls':Nat->Bool}{hd:Nat->Hid}:∀{k:Nat} {hs:aa dt} {L:aa aE},(∀m,m<hs.length->ls (k+m)=ls' (k+m))->gy ls hd k hs L=gy ls' hd k hs L
 |_,[],_,_=>rfl
 | k,h::r,L,aI=>by
   have bu:=aI 0 (by simp);simp only[Nat.add_zero]at bu;rw[gy,gy,bu];exact Wj λm hm=>by
    have:=aI (m+1) (by simp;omega);rw[show k+1+m=k+(m+1) by omega];exact this
def lE(hs:aa dt):aa (aw Nat×aa Nat×aa Nat×aa Nat):=hs.map λh=>(h.slot,h.up,h.rd,h.wr)
def PM{hs:aa dt}{i:Nat}{h:dt}(ax:hs[i]? =some h):(lE hs)[i]? =some (h.slot,h.up,h.rd,h.wr):=by simp[lE,ax]
def xG(c:cj)(ops:Array Oper)(Q:Exit->Act->bf->Prop)(hs:aa dt)(E:aa (Nat×J))(L:aa aE)(np:Nat)(i:Nat)(o:Oper)(h:dt):Prop:=
 ∀ (hd:Nat->Hid) (E':aa (Nat×J)) (L':aa aE),(∀t τ,look (kG hd hs E h.up) t=some τ->look E' t=some τ)->
   (∀j e,(gy (λ_=>true) hd 0 (hs.take i) L)[j]? =some e->h.rd.contains j=true->L'[j]? =some e)->L'.drop np=L.drop np->
   ae c ops (pr (λa W=> ∃x,bG c (rk h.slot (h.τ (hx h.up i (mV hd i x))) E') (pa L' (h.fS (hx h.up i (mV hd i x))) h.wr) a W) Q) [o] E' L'
def pC(c:cj)(ops:Array Oper)(Q:Exit->Act->bf->Prop)(hs:aa dt)(E:aa (Nat×J))(L:aa aE)(np:Nat):Nat->aa Oper->aa dt->Prop
 |_,[],[]=>True
 |i,o::os,h::r=>xG c ops Q hs E L np i o h∧pC c ops Q hs E L np (i+1) os r
 |_,_,_=>False
def pC.get{hs:aa dt}{np:Nat}:∀{k:Nat} {os:aa Oper} {rs:aa dt},pC c ops Q hs E L np k os rs->∀i h o,rs[i]? =some h->os[i]? =some o->xG c ops Q hs E L np (k+i) o h
 |k,[],[],_,i,h,o,ax,_=>by simp at ax
 | k,as7::os,bu::r,b2,i,h,o,ax,aU=>by
   cases i with
   | zero=>
     simp only[List.getElem?_cons_zero,fi]at ax aU
     subst ax;subst aU;exact b2.1
   | succ i=>
     have:=pC.get b2.2 i h o (by simpa using ax) (by simpa using aU)
     rw[show k+1+i=k+(i+1) by omega]at this
     exact this
 |k,[],_::_,b2,_,_,_,_,_=>b2.elim
 |k,_::_,[],b2,_,_,_,_,_=>b2.elim
def Cv.Hh{hs:aa dt}{np:Nat}:∀{k:Nat} {os:aa Oper} {rs:aa dt},Cv c ops Q hs E L k os rs->pC c ops Q hs E L np k os rs
 |_,[],[],_=>trivial
 |_,_::_,_::_,h=>⟨λhd E' L' h1 ad _=>h.1 hd E' L' h1 ad,Cv.Hh h.2⟩
 |_,[],_::_,h=>h.elim
 |_,_::_,[],h=>h.elim
def VU{n:Nat}:∀{L:aa aE} {f:Nat->aE} {bT:aa Nat},(∀j∈bT,j<n∨L.length<=j)->(pa L f bT).drop n=L.drop n
 |_,_,[],_=>rfl
 | L,f,j::r,h=>by
   rw[pa,VU (λk hk=>by rw[vk];exact h k (by simp[hk]))];rcases h j (by simp)with h1|h1
   ·rw[List.drop_set_of_lt h1]
   rw[List.set_eq_of_length_le h1]
def PN{ls:Nat->Bool}{hd:Nat->Hid}{n:Nat}:∀{k:Nat} {hs:aa dt} {L:aa aE},(∀h∈hs,∀j∈h.wr,j<n∨L.length<=j)->(gy ls hd k hs L).drop n=L.drop n
 |_,[],_,_=>rfl
 | k,h::r,L,hw=>by
   rw[gy];cases ao:ls k
   ·exact PN λx al=>hw x (by simp[al])
   simp only[cond_true];rw[PN (λx al j aC=>by rw[Vh];exact hw x (by simp[al]) j aC),VU (hw h (by simp))]
def YS{hs:aa dt}{ds:aa (aw Nat×aa Nat×aa Nat×aa Nat)}{np:Nat}(dZ:lE hs=ds)(h:(ds.all λd=>d.2.2.2.all λj=>Nat.blt j np)=true):∀h∈hs,∀j∈h.wr,j<np∨L.length<=j:=λx al j aC=>by
 subst dZ;have h1:=kH.1 h (x.slot,x.up,x.rd,x.wr) (gY.2 ⟨x,al,rfl⟩);have ad:=kH.1 h1 j aC;exact .inl (Nat.blt_eq.mp ad)
def ar.fin{slot:aw Nat}{up wr:aa Nat}{i:Nat}{hd:Nat->Hid}{τ:(Nat->Hid)->J}{fS:(Nat->Hid)->Nat->aE}{E' iR:aa (Nat×J)}{L' L2:aa aE}(x:Hid)(aM:iR=rk slot (τ (hx up i (mV hd i x))) E')(av:L2=pa L' (fS (hx up i (mV hd i x))) wr):
 ar c (pr (λa W=> ∃x,bG c (rk slot (τ (hx up i (mV hd i x))) E') (pa L' (fS (hx up i (mV hd i x))) wr) a W) Q) .normal iR L2:=λa W s=>by
 subst aM av
 exact⟨x,s⟩
def ar.place{z:Exit}{e:aE}(j:Nat)(aC:L[j]? =some ⟨none,.dead⟩)(k:ar c Q z E (L.set j e)):ar c Q z E (e::L):=λa W s=>by
 refine k a W (s.sub (λx al=>?_) ?_)
 ·rcases Tt al with h|h
  ·exact dO.2 (.inr h)
  exact dO.2 (.inl h)
 have h1:=xn aC;have ad:(L.set j e).Perm (e::L.eraseIdx j):=by
  have ay:(L.set j e)[j]? =some e:=by rw[Bn (fL.1 aC).1]
  have aR:=xn ay;rwa[M6]at aR
 have aX:=zI (h1.cons e);have bh:ks (e::⟨none,.dead⟩::L.eraseIdx j)=ks (e::L.eraseIdx j):=by cases hk:e.key <;> simp[ks,hk]
 rw[bh]at aX;exact(zI ad).nodup_iff.2 (aX.nodup_iff.1 s.nodup)
def ar.back{z:Exit}{e hC:aE}(j:Nat)(aC:L[j]? =some hC)(k:ar c Q z E (L.set j e)):ar c Q z E (e::L.eraseIdx j):=λa W s=>by
 have ay:(L.set j e)[j]? =some e:=by rw[Bn (fL.1 aC).1]
 have aR:=xn ay;rw[M6]at aR;exact k a W (s.perm aR.symm)
def az.sc{z:Code}(n:Nat)(k:az c Q z E (L++List.replicate n ⟨none,.dead⟩)):az c Q z E L:=λa W s=>by
 refine k a W ?_;have hk:ks (L++List.replicate n ⟨none,.dead⟩)=ks L:=by
  rw[eg];have:∀n,ks (List.replicate n (⟨none,.dead⟩:aE))=[]:=λn=>by
   induction n with
   |zero=>rfl
   |succ n bJ=>rw[List.replicate_succ];simp[ks,bJ]
  rw[this,ma]
 exact
 {defers:=s.defers
  size:=s.size
  env:=λt τ ao=>by rw[hk];exact s.env t τ ao
  dk:=s.dk
  own:=λe he=>by
   rw[hk];rcases ca.1 he with he|he
   ·exact s.own e he
   rw[(List.mem_replicate.1 he).2];trivial
  nodup:=by rw[hk];exact s.nodup
  lt:=by rw[hk];exact s.lt
  fR:=by rw[hk];exact s.fR
  er:=by rw[hk];exact s.er}
def az.K6{z:Code}(n m:Nat)(k:az c Q z E (L.take m++(List.replicate n ⟨none,.dead⟩++L.drop m))):az c Q z E L:=by
 refine az.sc n λa W s=>k a W (s.perm ?_);have e:L=L.take m++L.drop m:=(gb m L).symm;conv=>lhs;rw[e]
 rw[jn];exact nc.append_left _
def ar.eL{z:Exit}{L2:aa aE}(h:L=L2)(k:ar c Q z E L2):ar c Q z E L:=by subst h;exact k
def ar.hc{z:Exit}{key:aw Nat}{n m cap:Nat}(gn:Nat)(ao:look E gn=some (.eq (aO key n cap)))(aI:n=m)(k:ar c Q z ((gn,.eq (aO key m cap))::E) L):ar c Q z E L:=λa W s=>by
 subst aI;refine k a W (s.less λt τ h=>?_);simp only[look]at h;by_cases e:Nat.beq gn t=true
 ·rw[e]at h;simp only[cond_true]at h;have:=eP.1 e;subst this;exact⟨τ,by rw[ao,h],λ_ _ _ h=>h⟩
 simp only[kX]at e;rw[e]at h;exact⟨τ,h,λ_ _ _ h=>h⟩
variable{hs:aa dt}{i d:Nat}{up rd:aa Nat}{fS:(Nat->Hid)->Nat->aE}{o:Oper}
def j1{τ:J}(bF:o.guard=none)(hd:o.dst=some d)(aI:Nat.blt d c.n=true)
 (h:∀(hd:Nat->Hid) (E':aa (Nat×J)) (L':aa aE),(∀t τ,look (kG hd hs E up) t=some τ->look E' t=some τ)->(∀j e,(gy (λ_=>true) hd 0 (hs.take i) L)[j]? =some e->rd.contains j=true->L'[j]? =some e)->bc c E' L' o τ):
 fA c ops Q hs E L i o ⟨some d,up,rd,[],λ_=>τ,fS⟩:=λHi E' L' aM av=>
 ae.v (h Hi E' L' aM av) bF hd aI (ae.nil (ar.fin (λ_=>none) I I))
def anh{j g:Nat}{b want:Bool}{τ:J}(bF:o.guard=some (j,want))(aC:(ops[j]?).bind (·.dst)=some g)(hd:o.dst=some d)(aI:Nat.blt d c.n=true)
 (ao:∀hd,look (kG hd hs E up) g=some (.of b))
 (h:∀(hd:Nat->Hid) (E':aa (Nat×J)) (L':aa aE),(∀t τ,look (kG hd hs E up) t=some τ->look E' t=some τ)->(∀j e,(gy (λ_=>true) hd 0 (hs.take i) L)[j]? =some e->rd.contains j=true->L'[j]? =some e)->b=want->bc c E' L' o τ):
 fA c ops Q hs E L i o ⟨some d,up,rd,[],λ_=>.cond (b=want) τ,fS⟩:=λHi E' L' aM av=>
 ae.g (h Hi E' L' aM av) bF aC (aM _ _ (ao Hi)) hd aI (ae.nil (ar.fin (λ_=>none) I I))
variable{ty t:bx}{pos:String}{af:Array Edge}
def ae.Zq{α:Type}[ah α]{rest:aa Oper}{a1 e n:Nat}{z:α}{r0 r:aa α}{bt:aa (Nat×bZ)}(hu:c.P.underlying t=some (.slice e))(ez:bK c.P e α)(gL:c4 c.P e z)(hs:Nat.beq (ah.size α) 0=false)(aI:Nat.ble (n*ah.size α) 16777216=true)
 (aY:o0 c E L (List.replicate n z) bt r0) (aD:r0=r) (jx:Nat.blt a1 c.n=true) (k:∀p,ae c ops Q rest ((a1,.eq (aO p r.length n))::E) (⟨p,.row e r n⟩::L)):
 ae c ops Q (⟨some a1,.buildSlice t n bt.toArray,ty,pos,af,none⟩::rest) E L:=by subst aD;exact ae.sa hu ez gL hs aI aY jx k
variable{g:aw (Nat×Bool)}{x y:bZ}
end
section
variable{c:cj}{E:aa (Nat×J)}{L:aa aE}{ops:Array Oper}{Q:Exit->Act->bf->Prop}
variable{d:aw Tmp}{ty:bx}{pos:String}{af:Array Edge}{g:aw (Nat×Bool)}{x y:bZ}{t t2:bx}
def Src(c:cj)(E:aa (Nat×J))(L:aa aE)(y:bZ)(N:Nat){α:Type}[ah α](vs:aa α):Prop:=
 ∀a W,bG c E L a W->(Builtin.lenOf (a.eval y)).run c.P W=.ok N W∧∃cells:aa bl,(Builtin.firstCells (ah.size α) vs.length (a.eval y)).run c.P W=.ok cells.toArray W∧hf (ks L++c.bP) W cells vs∧∀v∈cells,v.oneCell'=true
def ae.Lb{rest:aa Oper}{i e p off a1 dLen dCap N T:Nat}{cp cp':dr}{α:Type}[ah α]{vs:aa α}(hu:c.P.underlying t=some (.slice e))(ez:bK c.P e α)
 (al:aP c E L x (.eq (.slice (some ⟨p,off,none⟩) dLen dCap))) (hy:Src c E L y N vs) (Rr:Nat.min N dLen=vs.length) (av:L[i]? =some ⟨some p,cp⟩) (aI:Nat.blt a1 c.n=true)
 (RR:∀A W o cells,cp.holds A W o->hf A W cells vs->∃cs,o=.cells cs T (0,0)∧off+cells.length<=cs.size∧cp'.holds A W (.cells (cs.toList.take off++cells++cs.toList.drop (off+cells.length)).toArray T (0,0)))
 (k:ae c ops Q rest ((a1,.of (vs.length:Int))::E) (L.set i ⟨some p,cp'⟩)):
 ae c ops Q (⟨some a1,.call ⟨.builtin .copy,#[x,y],#[t,t2]⟩,ty,pos,af,none⟩::rest) E L:=λa W s=>by
 have jx:a1<c.n:=by simpa using aI
 have h1:a.eval x=_:=al a W s
 obtain⟨ao,cells,ak,aD,Dm⟩:=hy a W s
 obtain⟨o,aU,b2⟩:=s.own _ (eo av)
 obtain⟨cs,rfl,LD,si⟩:=RR _ _ _ _ b2 aD
 obtain⟨gD,dX,dK⟩:=ez.info
 have cD:=Ej (P:=c.P) p off T cells 0 cs W aU (by omega) Dm
 simp only[Nat.add_zero]at cD
 have jt:(execOp a.eval ⟨some a1,.call ⟨.builtin .copy,#[x,y],#[t,t2]⟩,ty,pos,af,none⟩).run c.P W=.ok (.value (goInt vs.length)) (W.setRow p (cs.toList.take off++cells++cs.toList.drop (off+cells.length)).toArray):=by
  simp[execOp,resolve,invoke,builtin,Builtin.copy_,h1,dL hu,ao,Rr,Go.sizeOf,typeInfo,dX,dK,ak,cD]
 refine iw I (R:=λv h5=>v=goInt vs.length∧h5=W.setRow p (cs.toList.take off++cells++cs.toList.drop (off+cells.length)).toArray) (.mK jt ⟨rfl,rfl⟩) λv h5 ⟨ba,hw⟩=>?_
 subst ba
 subst hw
 exact k _ _ ((s.store av aU si).put jx (of_int.2 I))
def Kl{i T cap lo N k:Nat}{key:aw Nat}{α:Type}[ah α]{xs:aa α}(hy:aP c E L y (.eq (hE key lo N cap (ah.size α))))(av:L[i]? =some ⟨key,.row T xs cap⟩)(hk:0<k)(jv:lo+k<=xs.length):
 Src c E L y N ((xs.drop lo).take k):=λa W s=>by
 obtain⟨p,cs,rfl,e3,g1,g2,g3,g4⟩:=s.rowAt av (by omega)
 have h1:a.eval y=_:=hy a W s
 have kF:cap≠lo:=by omega
 have ba:a.eval y=.slice (some ⟨p,lo*ah.size α,none⟩) N (cap-lo):=by rw[h1];simp[hE,kF]
 have hlen:((xs.drop lo).take k).length=k:=by rw[fy,ku];omega
 have tx:cs.toList.length=cap*ah.size α:=by simpa using g1
 have aoo:(lo+k)*ah.size α<=xs.length*ah.size α:=hi _ jv
 have LC:xs.length*ah.size α<=cap*ah.size α:=hi _ g2
 rw[nh]at aoo
 have aac:((cs.toList.drop (lo*ah.size α)).take (k*ah.size α)).length=k*ah.size α:=by rw[fy,ku];omega
 have gS:hf (ks L++c.bP) W ((cs.toList.drop (lo*ah.size α)).take (k*ah.size α)) ((xs.drop lo).take k):=by
  refine⟨by rw[aac,hlen],λj aC=>?_⟩;rw[hlen]at aC;have aX:=g4.2 (lo+j) (by omega);have fu:=Ct (s:=ah.size α) aC;have asg:=Ct (s:=ah.size α) (show lo+j<xs.length by omega);rw[vm,rM,oR (by omega)]at aX;rw[vm,rM,oR (by omega),EN,<-nh];simpa using aX
 have fp:=Ix (P:=c.P) W ⟨p,lo*ah.size α,none⟩ ((cs.toList.drop (lo*ah.size α)).take (k*ah.size α)) λj v ba=>by
  rw[kI,E8 W p _ cs T (0,0) e3];rw[jR]at ba;split at ba
  ·rw[lp]at ba;simpa using ba
  cases ba
 rw[aac]at fp
 refine⟨by rw[ba];rfl,(cs.toList.drop (lo*ah.size α)).take (k*ah.size α),?_,gS,gS.one⟩
 rw[ba]
 simp only[Builtin.firstCells]
 rw[hlen]
 exact fp
def PE{p lo n cap size:Nat}(h:cap≠lo):hE (some p) lo n cap size=Value.slice (some ⟨p,lo*size,none⟩) n (cap-lo):=by simp[hE,h]
def WY{i T cap:Nat}{key:aw Nat}{α:Type}[ah α]{xs:aa α}(hy:aP c E L y (.eq (aO key xs.length cap)))(av:L[i]? =some ⟨key,.row T xs cap⟩)(al:0<xs.length):Src c E L y xs.length xs:=by
 have:=Kl (lo:=0) (k:=xs.length) (N:=xs.length) (by rw[zy];exact hy) av al (by omega);simpa using this
def KH{key:aw Nat}{n cap size:Nat}(h:aP c E L x (.eq (hE key 0 n cap size))):aP c E L x (.eq (aO key n cap)):=by rw[<-zy (size:=size)];exact h
def P5{p lo n cap size:Nat}(ak:cap≠lo)(h:aP c E L x (.eq (hE (some p) lo n cap size))):aP c E L x (.eq (.slice (some ⟨p,lo*size,none⟩) n (cap-lo))):=by rw[<-PE ak];exact h
def dr.GU{α:Type}[ah α](T:bx)(xs:aa α)(i m cap:Nat):dr where
 holds A W o:=∃cs,o=.cells cs T (0,0)∧cs.size=cap*ah.size α∧xs.length+m<=cap∧cap<=maxLen∧hf A W (cs.toList.take (i*ah.size α)) (xs.take i)∧
  hf A W ((cs.toList.drop ((i+m)*ah.size α)).take ((xs.length-i)*ah.size α)) (xs.drop i)
 nX:=False
 mono e h:=let⟨cs,h1,ad,ay,aR,aX,bh⟩:=h; ⟨cs,h1,ad,ay,aR,aX.mono e,bh.mono e⟩
def ahN{α:Type}[ah α]{T i m cap:Nat}{xs:aa α}(ax:i<=xs.length)(hm:xs.length+m<=cap){A W o cells}(h:(dr.row T xs cap).holds A W o)(ak:hf A W cells (xs.drop i)):
 ∃cs,o=.cells cs T (0,0)∧(i+m)*ah.size α+cells.length<=cs.size∧(dr.GU T xs i m cap).holds A W (.cells (cs.toList.take ((i+m)*ah.size α)++cells++cs.toList.drop ((i+m)*ah.size α+cells.length)).toArray T (0,0)):=by
 obtain⟨cs,rfl,g1,g2,g3,g4⟩:=h
 have tx:cs.toList.length=cap*ah.size α:=by simpa using g1
 have kF:cells.length=(xs.length-i)*ah.size α:=by rw[ak.1,ku]
 have au:(i+m)*ah.size α+(xs.length-i)*ah.size α=(xs.length+m)*ah.size α:=by rw[<-nh];congr 1;omega
 have aW:(xs.length+m)*ah.size α<=cap*ah.size α:=hi _ hm
 have cF:i*ah.size α<=(i+m)*ah.size α:=hi _ (by omega)
 have fv:i*ah.size α<=xs.length*ah.size α:=hi _ ax
 have jN:(cs.toList.take ((i+m)*ah.size α)).length=(i+m)*ah.size α:=by rw[fy];omega
 refine⟨cs,rfl,by omega,_,rfl,?_,hm,g3,?_,?_⟩
 ·simp only[Eh,fh,fy,ku];omega
 ·rw[List.toList_toArray,jn,Bj (by rw[jN];omega),rM,oR cF]
  have:=FC ax (⟨cs,rfl,g1,g2,g3,g4⟩:(dr.row T xs cap).holds A W (.cells cs T (0,0)))
  obtain⟨aqe,h1,_,_,_,aX⟩:=this
  cases h1
  rwa[fy,oR ax]at aX
 rw[List.toList_toArray,jn,List.drop_left' jN,<-kF,IX]
 exact ak
def agT{α:Type}[ah α]{T i cap:Nat}{xs vs:aa α}(ax:i<=xs.length){A W o cells}(h:(dr.GU T xs i vs.length cap).holds A W o)(ak:hf A W cells vs):
 ∃cs,o=.cells cs T (0,0)∧i*ah.size α+cells.length<=cs.size∧(dr.row T (xs.take i++vs++xs.drop i) cap).holds A W (.cells (cs.toList.take (i*ah.size α)++cells++cs.toList.drop (i*ah.size α+cells.length)).toArray T (0,0)):=by
 obtain⟨cs,rfl,g1,g2,g3,g4,g5⟩:=h
 have tx:cs.toList.length=cap*ah.size α:=by simpa using g1
 have kF:cells.length=vs.length*ah.size α:=ak.1
 have hC:i*ah.size α+vs.length*ah.size α=(i+vs.length)*ah.size α:=by rw[<-nh]
 have au:(i+vs.length)*ah.size α+(xs.length-i)*ah.size α=(xs.length+vs.length)*ah.size α:=by rw[<-nh];congr 1;omega
 have aW:(xs.length+vs.length)*ah.size α<=cap*ah.size α:=hi _ g2
 have hlen:(xs.take i++vs++xs.drop i).length=xs.length+vs.length:=by simp;omega
 refine⟨cs,rfl,by omega,_,rfl,?_,by rw[hlen];exact g2,g3,?_⟩
 ·simp only[Eh,fh,fy,ku];omega
 rw[List.toList_toArray,hlen]
 have ml:=xj (xj g4 ak) g5
 have jN:(cs.toList.take (i*ah.size α)++cells).length=(i+vs.length)*ah.size α:=by rw[fh,fy];omega
 have mx:(cs.toList.take (i*ah.size α)++cells++cs.toList.drop (i*ah.size α+cells.length)).take ((xs.length+vs.length)*ah.size α)=cs.toList.take (i*ah.size α)++cells++(cs.toList.drop ((i+vs.length)*ah.size α)).take ((xs.length-i)*ah.size α):=by
  rw[IH,jN,sF (by omega),kF,hC];congr 2;omega
 rw[mx]
 exact ml
def Pf{α:Type}[ah α]{T lo cap:Nat}{xs vs:aa α}(hk:lo+vs.length<=xs.length){A W o cells}(h:(dr.row T xs cap).holds A W o)(ak:hf A W cells vs):
 ∃cs,o=.cells cs T (0,0)∧lo*ah.size α+cells.length<=cs.size∧(dr.row T (xs.take lo++vs++xs.drop (lo+vs.length)) cap).holds A W (.cells (cs.toList.take (lo*ah.size α)++cells++cs.toList.drop (lo*ah.size α+cells.length)).toArray T (0,0)):=by
 obtain⟨cs,rfl,g1,g2,g3,g4⟩:=h
 have tx:cs.toList.length=cap*ah.size α:=by simpa using g1
 have kF:cells.length=vs.length*ah.size α:=ak.1
 have hC:lo*ah.size α+vs.length*ah.size α=(lo+vs.length)*ah.size α:=by rw[<-nh]
 have au:(lo+vs.length)*ah.size α<=xs.length*ah.size α:=hi _ hk
 have aW:xs.length*ah.size α<=cap*ah.size α:=hi _ g2
 have hlen:(xs.take lo++vs++xs.drop (lo+vs.length)).length=xs.length:=by simp;omega
 refine⟨cs,rfl,by omega,_,rfl,?_,by rw[hlen];exact g2,g3,?_⟩
 ·simp only[Eh,fh,fy,ku];omega
 rw[List.toList_toArray,hlen]
 have g5:=VR (lo:=lo) g4 ak hk
 have e:(cs.toList.take (lo*ah.size α)++cells++cs.toList.drop (lo*ah.size α+cells.length)).take (xs.length*ah.size α)=(cs.toList.take (xs.length*ah.size α)).take (lo*ah.size α)++cells++(cs.toList.take (xs.length*ah.size α)).drop (lo*ah.size α+cells.length):=by
  have cF:(cs.toList.take (lo*ah.size α)++cells).length=lo*ah.size α+cells.length:=by rw[fh,fy];omega
  rw[IH,cF,sF (by omega),rM,oR (by omega),vm]
 rw[e]
 exact g5
def aiX{p n cap e:Nat}(hu:c.P.underlying t=some (.slice e))(al:aP c E L x (.eq (aO (some p) n cap))):bc c E L ⟨d,.call ⟨.builtin .cap,#[x],#[t]⟩,ty,pos,af,g⟩ (.of (cap:Int)):=.pure λa W s=>by
 have h1:a.eval x=_:=al a W s;exact⟨.int .i64 cap,by simp[execOp,resolve,invoke,builtin,Builtin.cap_,h1,aO,dL hu,goInt],of_int.2 I⟩
def vD{p n cap:Nat}{α:Type}[ah α]{e:bx}{lo ax:aw bZ}{m h:Nat}{HU HV:Int}(hu:c.P.underlying t=some (.slice e))(ez:bK c.P e α)(al:aP c E L x (.eq (aO (some p) n cap)))
 (jv:yC c E L lo HU 0) (eY:yC c E L ax HV n) (hm:HU=m) (aI:HV=h) (b2:m<=h∧h<=cap):
 bc c E L ⟨d,.slice t x lo ax none,ty,pos,af,g⟩ (.eq (hE (some p) m (h-m) cap (ah.size α))):=.pure λa W s=>by
 subst hm;subst aI
 obtain⟨wj,mU⟩:=b2
 obtain⟨gD,dX,dK⟩:=ez.info
 have h1:a.eval x=_:=al a W s
 refine⟨_,?_,rfl⟩
 simp only[hE]
 have av:∀v,v=Value.int .i64 m->(Instr.sliceBound v h .sliceB).run c.P W=.ok m W:=λv ba=>rS wj ba
 have hH:∀v,v=Value.int .i64 h->(Instr.sliceBound v cap .sliceAcap).run c.P W=.ok h W:=λv ba=>rS (by omega) ba
 generalize fu:(h:Int)=abS at eY
 generalize Hc:(m:Int)=abT at jv
 generalize wA:(n:Int)=abU at eY
 generalize abc:(0:Int)=abV at jv
 cases jv with
 | none=>
   have hZ:m=0:=by omega
   cases eY with
   | none=>
     have mU:h=n:=by omega
     subst mU
     subst hZ
     simp[execOp,Instr.sliceAt,Instr.slice,Instr.sliceBounds,h1,aO,dL hu,Go.sizeOf,typeInfo,dX,dK,kI]
   | some b2=>
     subst fu
     subst hZ
     simp[execOp,Instr.sliceAt,Instr.slice,Instr.sliceBounds,h1,aO,dL hu,Go.sizeOf,typeInfo,dX,dK,kI,hH _ (of_int.1 (b2 a W s))]
 | some ao=>
   subst Hc
   cases eY with
   | none=>
     have mU:h=n:=by omega
     subst mU
     simp[execOp,Instr.sliceAt,Instr.slice,Instr.sliceBounds,h1,aO,dL hu,Go.sizeOf,typeInfo,dX,dK,kI,av _ (of_int.1 (ao a W s))]
     split <;> rfl
   | some b2=>
     subst fu
     simp[execOp,Instr.sliceAt,Instr.slice,Instr.sliceBounds,h1,aO,dL hu,Go.sizeOf,typeInfo,dX,dK,kI,av _ (of_int.1 (ao a W s)),hH _ (of_int.1 (b2 a W s))]
     split <;> rfl
def ak2{f:FuncId}{fn:Func}{p q T U cap cap' i j e tR de abX lb yD abY l4:Nat}{α:Type}[ah α]{xs vs:aa α}(GC:Nat.beq (ah.size α) 0=false)
 (aY:c.P.funcs[f]? =some fn) (alM:(fn.name== "runtime.NumGoroutine")=false) (hb:fn.body.isNone=true) (aI:Extern.findNext fn=none)
 (he:Extern.find fn=some (Extern.SlicesOverlaps.overlaps #[t,t] #[tR])) (hu:c.P.underlying t=some (.slice e)) (ez:bK c.P e α)
 (al:aP c E L x (.eq (.slice (some ⟨q,abY,none⟩) de abX))) (hy:aP c E L y (.eq (.slice (some ⟨p,l4,none⟩) lb yD)))
 (ax:L[i]? =some ⟨some p,.row T xs cap⟩) (aC:L[j]? =some ⟨some q,.row U vs cap'⟩) (LY:p≠q) (xX:0<cap):
 bc c E L ⟨d,.call ⟨.value (.func f),#[x,y],#[t,t]⟩,ty,pos,af,g⟩ (.of false):=.pure λa W s=>by
 obtain⟨o,aU,cs,rfl,g1,g2,g3,g4⟩:=s.own _ (eo ax)
 obtain⟨o',oB,dT,rfl,aJ,bE,cP,fm⟩:=s.own _ (eo aC)
 obtain⟨gD,dX,dK⟩:=ez.info
 have h1:a.eval x=_:=al a W s
 have ad:a.eval y=_:=hy a W s
 have jg:ah.size α≠0:=λh=>by rw[h]at GC;cases GC
 have cX:cs.size≠0:=by rw[g1];exact Nat.mul_ne_zero (by omega) jg
 have Mg:=Lib.run_overlaps_apart (P:=c.P) W t tR e hu (ah.size α) (λw=>by simp[Go.sizeOf,typeInfo,dX,dK]) ⟨q,abY,none⟩ ⟨p,l4,none⟩ de abX lb yD (λh=>LY h.symm) U T dT.size cs.size
  (by simp[World.shape?,oB]) (by simp[World.shape?,aU]) cX (by simp[World.frozen?,oB]) (by simp[World.frozen?,oB])
 refine⟨.bool false,?_,by exact of_bool.2 I⟩
 have bu:a.eval (.func f)=.func (.func f) #[] #[]:=rfl
 simp[execOp,resolve,Deferred.ofValue,bu,invoke,run_callFunc_extern aY alM hb aI he,h1,ad,Mg]
def ae.ant{α:Type}[ah α]{rest:aa Oper}{a1 i e bytes cap m k p T:Nat}{kT:IntKind}{xs:aa α}{z:α}(hu:c.P.underlying t=some (.slice e))(j6:c.P.underlying t2=some (.int kT))(ez:bK c.P e α)(gL:c4 c.P e z)(GC:Nat.beq (ah.size α) 0=false)
 (AR:(c.P.info? e).map (·.bytes)=some bytes) (al:aP c E L x (.eq (hE (some p) 0 m cap (ah.size α)))) (hy:aP c E L y (.of (k:Int))) (av:L[i]? =some ⟨some p,.row T xs cap⟩) (hm:m<=xs.length) (hk:0<k) (bF:cap<m+k)
 (tp:(m+k)*bytes<=140737488355328) (ry:m+k<=maxLen) (aI:Nat.blt a1 c.n=true)
 (na:∀q cap',ae c ops Q rest ((a1,.eq (aO (some q) (m+k) cap'))::E) (⟨some q,.row e (xs.take m++List.replicate k z) cap'⟩::L)):
 ae c ops Q (⟨some a1,.call ⟨.builtin .append,#[x,y],#[t,t2]⟩,ty,pos,af,none⟩::rest) E L:=λa W s=>by
 obtain⟨gD,dR,dX,cy,uY⟩:=gL.zero
 have pN:gD.size=ah.size α:=by
  obtain⟨i2,h1,ad⟩:=ez.info;rw[dX]at h1;cases h1;exact ad
 have Qe:gD.bytes=bytes:=by simpa[dX]using AR
 subst Qe
 have AS:dR.cells.size=ah.size α:=by have:=ah.len (uY [] W).2;simpa using this
 have jg:ah.size α≠0:=λh=>by rw[h]at GC;cases GC
 have jx:a1<c.n:=by simpa using aI
 have h1:a.eval x=.slice (some ⟨p,0,none⟩) m cap:=by
  have:=al a W s;rw[zy]at this;exact this
 obtain⟨o,aU,cs,rfl,g1,g2,g3,g4⟩:=s.own _ (eo av)
 have tq:maxLen=9223372036854775807:=rfl
 have ad:a.eval y=.int .i64 k:=of_int.1 (hy a W s)
 have aop:=FC hm (⟨cs,rfl,g1,g2,g3,g4⟩:(dr.row T xs cap).holds (ks L++c.bP) W (.cells cs T (0,0)))
 obtain⟨aqe,au,_,_,_,Hj⟩:=aop
 cases au
 have Rs:(xs.take m).length=m:=by rw[fy];omega
 rw[Rs]at Hj
 have Ac:∀(j:Nat) u,(cs.toList.take (m*ah.size α))[j]? =some u->W.drew.cell? ((⟨p,0,none⟩:Addr).add j)=some u:=by
  intro j u oD;rw[jR]at oD;split at oD
  ·rw[kI,h7,E8 W.drew p j cs T (0,0) aU];simpa using oD
  cases oD
 have hold:=Ix (P:=c.P) W.drew ⟨p,0,none⟩ _ Ac
 rw[Hj.1,Rs]at hold
 have aD:=Lib.run_append_grow_zeros (P:=c.P) W t t2 ty e gD dR .i64 kT hu j6 dX cy (some ⟨p,0,none⟩) m cap _ (by simp only[Builtin.firstCells];rw[pN];exact hold) k hk (by omega) bF (by omega)
  (by have:k*gD.bytes<=(m+k)*gD.bytes:=hi _ (by omega)
      omega) (growslice_fits bF tp)
 have wB:=grownCap_ge W (m+k) cap e
 have hle:=grownCap_le_maxLen W (m+k) cap e ry
 have Mc:=uY (ks L++c.bP) W
 have tz:=Fz Mc k jg
 have R4:Builtin.zeroCells dR.cells k=(Array.range (k*ah.size α)).map (dR.cells[· % dR.cells.size]!):=by rw[Builtin.zeroCells,AS]
 rw[<-R4]at tz
 have C2:=(xj Hj tz).mono (Ext.dk (Fr.drew W))
 have hlen:(xs.take m++List.replicate k z).length=m+k:=by rw[fh,Rs,DZ]
 have cD:=(s.world (Fr.drew W)).alloc (o:=.cells ((cs.toList.take (m*ah.size α)).toArray++Builtin.zeroCells dR.cells k++Builtin.zeroCells dR.cells (grownCap W (m+k) cap e-(m+k))) e)
  (cp:=.row e (xs.take m++List.replicate k z) (grownCap W (m+k) cap e))
  (PK (T:=e) C2 (ds:=(Builtin.zeroCells dR.cells (grownCap W (m+k) cap e-(m+k))).toList) (by rw[Array.length_toList,size_zeroCells,AS,hlen]) (by rw[hlen];exact wB) hle (by simp))
 refine iw I (R:=λv h5=>v=aO (some W.heap.size) (m+k) (grownCap W (m+k) cap e)∧h5=W.drew.alloc (.cells ((cs.toList.take (m*ah.size α)).toArray++Builtin.zeroCells dR.cells k++Builtin.zeroCells dR.cells (grownCap W (m+k) cap e-(m+k))) e)) (.mK ?_ ⟨rfl,rfl⟩) λv h5 ⟨ba,hw⟩=>?_
 ·simp only[execOp,resolve,invoke,builtin,dI,Sem.run_pure,Result.andThen_ok]
  have au:(#[x,y]:Array bZ).map a.eval= #[a.eval x,a.eval y]:=by simp
  rw[au,h1,ad,aD]
  rfl
 subst ba
 subst hw
 exact na _ _ _ _ (cD.put jx I)
def az.some{code:Code}{i T cap:Nat}{key:aw Nat}{α:Type}[ah α]{xs:aa α}(av:L[i]? =Option.some ⟨key,.row T xs cap⟩)(al:0<xs.length)(k:∀p,key=Option.some p->xs.length<=cap->cap<=maxLen->az c Q code E L):az c Q code E L:=λa W s=>by
 obtain⟨p,cs,rfl,e3,g1,g2,g3,g4⟩:=s.rowAt av al;exact k p I g2 g3 a W s
def az.apart{code:Code}{p q:Nat}{cp cp':dr}{L':aa aE}(av:L=⟨Option.some p,cp⟩::⟨Option.some q,cp'⟩::L')(k:p≠q->az c Q code E L):az c Q code E L:=λa W s=>by
 refine k (λe=>?_) a W s;have:=s.nodup;rw[av,e]at this;simp[ks]at this
def Wk{α γ:Type}[ah α][ah γ]{A W}{cs:aa bl}{x:α}{os:aa (Nat×bl)}{u:bl}(l:aN α (aa γ))(h:nw A W cs x os)(hq:(l.off,u)∈os):nw A W cs (l.set x []) os:=by
 refine⟨?_,h.2⟩;have h1:=l.nS (ds:=[lY]) (g:=([]:aa γ)) h.1 (show ah.rep A W [lY] ([]:aa γ)from by
  have:=(pB (A:=A) (W:=W) (v:=lY) (xs:=([]:aa γ))).2 (.inl ⟨rfl,rfl⟩);exact this.2)
 have hb:(blank os cs)[l.off]? =some lY:=by
  rw[uf,br (oQ.2 ⟨_,hq,by simp⟩),(h.2 _ hq).1];rfl
 have b9:l.off<(blank os cs).length:=(fL.1 hb).1;have he:(blank os cs).take l.off++[lY]++(blank os cs).drop (l.off+ah.size (aa γ))=blank os cs:=by
  show(blank os cs).take l.off++[lY]++(blank os cs).drop (l.off+1)=blank os cs;have ad:(blank os cs)[l.off]=lY:=(fL.1 hb).2;rw[<-ad,jn,List.singleton_append,MX,gb]
 rwa[he]at h1
def ae.LO{HW:aa Oper}{p:Nat}{β γ:Type}[ah β][ah γ]{b b':β}{os:aa (Nat×bl)}{u:bl}(l:aN β (aa γ))(i q:Nat)(av:L[i]? =some ⟨some p,.cq b os⟩)(hq:os[q]? =some (l.off,u))(hb:l.set b []=b')
 (k:ae c ops Q HW E (L.set i ⟨some p,.cq b' os⟩)):ae c ops Q HW E L:=λa W s=>
 k a W (s.again av (λA W o ⟨cs,T,h1,ad⟩=>⟨cs,T,h1,hb▸Wk l ad (eo hq)⟩) id)
def ar.LO{z:Exit}{p:Nat}{β γ:Type}[ah β][ah γ]{b b':β}{os:aa (Nat×bl)}{u:bl}(l:aN β (aa γ))(i q:Nat)(av:L[i]? =some ⟨some p,.cq b os⟩)(hq:os[q]? =some (l.off,u))(hb:l.set b []=b')
 (k:ar c Q z E (L.set i ⟨some p,.cq b' os⟩)):ar c Q z E L:=λa W s=>
 k a W (s.again av (λA W o ⟨cs,T,h1,ad⟩=>⟨cs,T,h1,hb▸Wk l ad (eo hq)⟩) id)
end
def Gx{α:Type}(bytes:Nat)(xs:aa α)(i:Int)(vs:aa α):aw (aa α):=
 if 0<=i∧i<=xs.length∧0<vs.length∧(xs.length+vs.length)*bytes<=140737488355328∧xs.length+vs.length<=maxLen then some (xs.take i.toNat++vs++xs.drop i.toNat)else none
def af5{α:Type}{bytes:Nat}{xs vs r:aa α}{i:Int}(h:Gx bytes xs i vs=some r):
 ∃k:Nat,i=k∧k<=xs.length∧0<vs.length∧(xs.length+vs.length)*bytes<=140737488355328∧xs.length+vs.length<=maxLen∧r=xs.take k++vs++xs.drop k:=by
 unfold Gx at h
 split at h
 ·rename_i ak
  obtain⟨h1,ad,ay,aR,aX⟩:=ak
  exact⟨i.toNat,by omega,by omega,ay,aR,aX,(by simp only[fi]at h;exact h.symm)⟩
 cases h
section
variable{c:cj}{E:aa (Nat×J)}{L:aa aE}{ops:Array Oper}{Q:Exit->Act->bf->Prop}{rest:aa Oper}{o:Oper}{a1:Nat}
variable{ty:bx}{pos:String}{af:Array Edge}{x y:bZ}{t t2:bx}
def b6{id:Nat}{l:aa Oper}{y:Code}(h:ae c l.toArray (Exit.then (c.wp y Q) Q) l E L):az c Q (.seq (.region id l.toArray false) y) E L:=.seq (.fk h)
def b7{y:Code}(h:az c Q y E L):ae c ops (Exit.then (c.wp y Q) Q) [] E L:=.nil (.next h)
def ht{y z:Code}(h:az c (Exit.then (c.wp z Q) Q) y E L):ae c ops (Exit.then (c.wp (Code.seq y z) Q) Q) [] E L:=.nil (.next (.seq h))
def fD{id:Nat}{l:aa Oper}{z:Code}(h:ae c l.toArray (Exit.then (c.wp z Q) Q) l E L):ae c ops (Exit.then (c.wp (Code.seq (.region id l.toArray false) z) Q) Q) [] E L:=.nil (.next (.seq (.fk h)))
def k8{y:Code}(h:az c Q y E L):az c (Exit.then (c.wp y Q) Q) .skip E L:=.skip (.next h)
def aA{α β:Type}{m:aw α}{f:α->aw β}{r:β}{P:Prop}(h:m.bind f=some r)(k:∀y,m=some y->f y=some r->P):P:=(bind_some h).elim λy h=>k y h.1 h.2
def mq{R:Type}{b:Bool}{A B:aw R}{r:R}{y z:Code}(h:cond b A B=some r)(bw:A=some r->az c Q y E L)(aY:B=some r->az c Q z E L)
 (ao:aP c E L x (.of b):=by first|exact ag I|exact hN _):az c Q (.cond x y z) E L:=
 .cond ao (λhb=>bw (e1 hb h)) (λhb=>aY (e2 hb h))
def bk{τ:J}(h:bc c E L o τ)(k:ae c ops Q rest ((a1,τ)::E) L)(bF:o.guard=none:=by rfl)(hd:o.dst=some a1:=by rfl)(aI:Nat.blt a1 c.n=true:=by rfl):ae c ops Q (o::rest) E L:=.v h bF hd aI k
def cJ{τ:J}(k:ae c ops Q rest ((a1,τ)::E) L)(al:aP c E L x τ:=by first|exact ag I|exact cH _|exact hN _|exact gM _)(aI:Nat.blt a1 c.n=true:=by rfl):
 ae c ops Q (⟨some a1,.move x,ty,pos,af,none⟩::rest) E L:=.v (c8 al) I I aI k
def cO{τ:J}(k:ae c ops Q rest ((a1,τ)::E) L)(al:aP c E L x τ:=by first|exact ag I|exact cH _|exact hN _|exact gM _)(aI:Nat.blt a1 c.n=true:=by rfl):
 ae c ops Q (⟨some a1,.assign x,ty,pos,af,none⟩::rest) E L:=.v (cV al) I I aI k
def db{σ τ:J}(h:aP c E L x σ->bc c E L o τ)(k:ae c ops Q rest ((a1,τ)::E) L)(al:aP c E L x σ:=by first|exact ag I|exact cH _|exact hN _|exact gM _)
 (bF:o.guard=none:=by rfl) (hd:o.dst=some a1:=by rfl) (aI:Nat.blt a1 c.n=true:=by rfl):ae c ops Q (o::rest) E L:=.v (h al) bF hd aI k
def ef{σ qP τ:J}(h:aP c E L x σ->aP c E L y qP->bc c E L o τ)(k:ae c ops Q rest ((a1,τ)::E) L)(al:aP c E L x σ:=by first|exact ag I|exact cH _|exact hN _|exact gM _)
 (hy:aP c E L y qP:=by first|exact ag I|exact cH _|exact hN _|exact gM _)
 (bF:o.guard=none:=by rfl) (hd:o.dst=some a1:=by rfl) (aI:Nat.blt a1 c.n=true:=by rfl):ae c ops Q (o::rest) E L:=.v (h al hy) bF hd aI k
def iH{α:Type}[ah α]{a b:α}(e:some a=some b)(h:bc c E L o (.of a))(k:ae c ops Q rest ((a1,.of b)::E) L)(bF:o.guard=none:=by rfl)(hd:o.dst=some a1:=by rfl)(aI:Nat.blt a1 c.n=true:=by rfl):
 ae c ops Q (o::rest) E L:=.v (h.tL (cZ e)) bF hd aI k
def pW{i:Nat}{τs:aa J}{τ:J}(k:ae c ops Q rest ((a1,τ)::E) L)(al:aP c E L x (.bY τs):=by exact ag I)(ax:τs[i]? =some τ:=by rfl)(aI:Nat.blt a1 c.n=true:=by rfl):
 ae c ops Q (⟨some a1,.extract x i,ty,pos,af,none⟩::rest) E L:=.v (CF al ax) I I aI k
def nz{p o:Nat}{β γ:Type}[ah β][ah γ]{b:β}(j:Nat)(l:aN β γ)(dQ:bK c.P t γ)(k:ae c ops Q rest ((a1,.of (l.get b))::E) L)(al:aP c E L x (.eq (.pointer (some ⟨p,o,none⟩))):=by exact ag I)
 (av:L[j]? =some ⟨some p,.var b⟩:=by rfl) (aU:o=l.off:=by rfl) (aI:Nat.blt a1 c.n=true:=by rfl):ae c ops Q (⟨some a1,.load t x,ty,pos,af,none⟩::rest) E L:=.v (gA l dQ al av aU I) I I aI k
def n2{p:Nat}{β:Type}[ah β]{b:β}(j:Nat)(dQ:bK c.P t β)(k:ae c ops Q rest ((a1,.of b)::E) L)(al:aP c E L x (.eq (.pointer (some ⟨p,0,none⟩))):=by exact ag I)
 (av:L[j]? =some ⟨some p,.var b⟩:=by rfl) (aI:Nat.blt a1 c.n=true:=by rfl):ae c ops Q (⟨some a1,.load t x,ty,pos,af,none⟩::rest) E L:=.v (gA (aN.id β) dQ al av I I) I I aI k
def apL{p o:Nat}{β γ:Type}[ah β][ah γ]{b:β}{os:aa (Nat×bl)}(j:Nat)(l:aN β γ)(dQ:bK c.P t γ)(k:ae c ops Q rest ((a1,.of (l.get b))::E) L)(al:aP c E L x (.eq (.pointer (some ⟨p,o,none⟩))):=by exact ag I)
 (av:L[j]? =some ⟨some p,.cq b os⟩:=by rfl) (aU:o=l.off:=by rfl) (a7:uy os l.off (ah.size γ)=true:=by rfl) (aI:Nat.blt a1 c.n=true:=by rfl):ae c ops Q (⟨some a1,.load t x,ty,pos,af,none⟩::rest) E L:=.v (Kj l dQ al av aU I a7) I I aI k
def ap0{s f o:Nat}{β γ:Type}[ah β][ah γ]{b:β}(l:aN β γ)(fd:wx c.P s f o)(k:ae c ops Q rest ((a1,.ptr (l.get b))::E) L)(al:aP c E L x (.ptr b):=by exact ag I)(aU:l.off=o:=by rfl)(aI:Nat.blt a1 c.n=true:=by rfl):
 ae c ops Q (⟨some a1,.fieldAddr s x f,ty,pos,af,none⟩::rest) E L:=.v (vR l fd al aU I) I I aI k
def GS{α:Type}[ah α][Inhabited α]{xs:aa α}{e:bx}{i:Int}{j:Nat}(hk:idx xs.length i=some j)(hu:c.P.underlying t=some (.slice e))(ez:bK c.P e α)(k:ae c ops Q rest ((a1,.ptr (aB xs j))::E) L)
 (al:aP c E L x (.of xs):=by exact ag I) (hy:aP c E L y (.of i):=by first|exact ag I|exact cH _) (aI:Nat.blt a1 c.n=true:=by rfl):
 ae c ops Q (⟨some a1,.indexAddr t x y,ty,pos,af,none⟩::rest) E L:=.v (mM hu ez al hy (cU hk)) I I aI k
def RJ{b e:Bool}{p:Prop}(k:ae c ops Q rest ((a1,.of (b||e))::E) L)(al:aP c E L x (.of b):=by exact ag I)(hy:aP c E L y (.cond p (.of e)):=by exact ag I)(hp:b=false->p:=by exact λh=>h)(aI:Nat.blt a1 c.n=true:=by rfl):
 ae c ops Q (⟨some a1,.pick x (.const (.bool true)) y,ty,pos,af,none⟩::rest) E L:=.v (CU al hy hp) I I aI k
def AI{b e:Bool}{p:Prop}(k:ae c ops Q rest ((a1,.of (b&&e))::E) L)(al:aP c E L x (.of b):=by exact ag I)(hy:aP c E L y (.cond p (.of e)):=by exact ag I)(hp:b=true->p:=by exact λh=>h)(aI:Nat.blt a1 c.n=true:=by rfl):
 ae c ops Q (⟨some a1,.pick x y (.const (.bool false)),ty,pos,af,none⟩::rest) E L:=.v (xN al hy hp) I I aI k
def jM{τ:J}{j g:Nat}{b want:Bool}(h:b=want->bc c E L o τ)(k:ae c ops Q rest ((a1,.cond (b=want) τ)::E) L)(bF:o.guard=some (j,want):=by rfl)(aC:(ops[j]?).bind (·.dst)=some g:=by rfl)(ao:look E g=some (.of b):=by rfl)
 (hd:o.dst=some a1:=by rfl) (aI:Nat.blt a1 c.n=true:=by rfl):ae c ops Q (o::rest) E L:=.g h bF aC ao hd aI k
def qG{σ τ:J}{j g:Nat}{b want:Bool}(h:aP c E L x σ->bc c E L o τ)(k:ae c ops Q rest ((a1,.cond (b=want) τ)::E) L)
 (al:b=want->aP c E L x σ:=by first|exact λhb=>b1 I hb|exact λ_=>ag I|exact λ_=>cH _|exact λ_=>hN _)
 (bF:o.guard=some (j,want):=by rfl) (aC:(ops[j]?).bind (·.dst)=some g:=by rfl) (ao:look E g=some (.of b):=by rfl)
 (hd:o.dst=some a1:=by rfl) (aI:Nat.blt a1 c.n=true:=by rfl):ae c ops Q (o::rest) E L:=.g (λhb=>h (al hb)) bF aC ao hd aI k
def yh{σ qP τ:J}{j g:Nat}{b want:Bool}(h:aP c E L x σ->aP c E L y qP->bc c E L o τ)(k:ae c ops Q rest ((a1,.cond (b=want) τ)::E) L)
 (al:b=want->aP c E L x σ:=by first|exact λhb=>b1 I hb|exact λ_=>ag I|exact λ_=>cH _|exact λ_=>hN _)
 (hy:b=want->aP c E L y qP:=by first|exact λhb=>b1 I hb|exact λ_=>ag I|exact λ_=>cH _|exact λ_=>hN _)
 (bF:o.guard=some (j,want):=by rfl) (aC:(ops[j]?).bind (·.dst)=some g:=by rfl) (ao:look E g=some (.of b):=by rfl)
 (hd:o.dst=some a1:=by rfl) (aI:Nat.blt a1 c.n=true:=by rfl):ae c ops Q (o::rest) E L:=.g (λhb=>h (al hb) (hy hb)) bF aC ao hd aI k
def pQ{α:Type}[ah α]{z:α}(gL:c4 c.P t z)(k:∀p,ae c ops Q rest ((a1,.eq (.pointer (some ⟨p,0,none⟩)))::E) (⟨some p,.var z⟩::L))(aI:Nat.blt a1 c.n=true:=by rfl):
 ae c ops Q (⟨some a1,.alloc t,ty,pos,af,none⟩::rest) E L:=.alloc gL aI k
def ny{α:Type}[ah α]{z:α}(k:∀p,ae c ops Q rest ((a1,.eq (.pointer (some ⟨p,0,none⟩)))::E) (⟨some p,.var z⟩::L))(al:aP c E L x (.of z):=by first|exact ag I|exact cH _|exact hN _)(aI:Nat.blt a1 c.n=true:=by rfl):
 ae c ops Q (⟨some a1,.box t x,ty,pos,af,none⟩::rest) E L:=.box al aI k
def RK{p o:Nat}{β γ:Type}[ah β][ah γ]{b:β}{v:γ}(i:Nat)(l:aN β γ)(dQ:bK c.P t γ)(k:ae c ops Q rest E (L.set i ⟨some p,.var (l.set b v)⟩))(al:aP c E L x (.eq (.pointer (some ⟨p,o,none⟩))):=by exact ag I)
 (hy:aP c E L y (.of v):=by first|exact ag I|exact cH _|exact hN _|exact look_nil|exact gM _) (av:L[i]? =some ⟨some p,.var b⟩:=by rfl) (aU:o=l.off:=by rfl):
 ae c ops Q (⟨none,.store t x y,ty,pos,af,none⟩::rest) E L:=.store l dQ al hy av aU I k
def AB{p:Nat}{β:Type}[ah β]{b v:β}(i:Nat)(dQ:bK c.P t β)(k:ae c ops Q rest E (L.set i ⟨some p,.var v⟩))(al:aP c E L x (.eq (.pointer (some ⟨p,0,none⟩))):=by exact ag I)
 (hy:aP c E L y (.of v):=by first|exact ag I|exact cH _|exact hN _|exact look_nil|exact gM _) (av:L[i]? =some ⟨some p,.var b⟩:=by rfl):
 ae c ops Q (⟨none,.store t x y,ty,pos,af,none⟩::rest) E L:=.store (aN.id β) dQ al hy av I I k
def LR{p o:Nat}{β γ:Type}[ah β][ah γ]{b b':β}{v:γ}(i:Nat)(l:aN β γ)(dQ:bK c.P t γ)(k:ae c ops Q rest E (L.set i ⟨some p,.var b'⟩))(al:aP c E L x (.eq (.pointer (some ⟨p,o,none⟩))):=by exact ag I)
 (hy:aP c E L y (.of v):=by first|exact ag I|exact cH _|exact hN _|exact look_nil|exact gM _) (av:L[i]? =some ⟨some p,.var b⟩:=by rfl) (aU:o=l.off:=by rfl) (hb:some (l.set b v)=some b'):
 ae c ops Q (⟨none,.store t x y,ty,pos,af,none⟩::rest) E L:=.store l dQ al hy av aU (cZ hb) k
def lD{f:FuncId}{xs:aa bZ}{ats:Array bx}{τs:aa J}{ρ:J}(cf:bD c.P f)(h:cm c.P f τs ρ)(k:ae c ops Q rest ((a1,ρ)::E) L)
 (al:ic c E L xs τs:=by repeat (first|exact trivial|refine⟨ag I,?_⟩|refine⟨cH _,?_⟩|refine⟨hN _,?_⟩|refine⟨look_nil,?_⟩|refine⟨gM _,?_⟩)) (aI:Nat.blt a1 c.n=true:=by rfl):
 ae c ops Q (⟨some a1,.call ⟨.value (.func f),xs.toArray,ats⟩,ty,pos,af,none⟩::rest) E L:=.v (ib cf h al) I I aI k
def hg{f:FuncId}{xs:aa bZ}{ats:Array bx}{τs:aa J}{δ:Type}{ρ:δ->J}{Lo:δ->aa aE}(n:Nat)(cf:bD c.P f)(h:bR c.P f τs (L.take n) ρ Lo)
 (k:∀q,ae c ops Q rest ((a1,ρ q)::E) (Lo q++L.drop n)) (al:ic c E L xs τs:=by repeat (first|exact trivial|refine⟨ag I,?_⟩|refine⟨cH _,?_⟩|refine⟨hN _,?_⟩|refine⟨look_nil,?_⟩|refine⟨k2,?_⟩|refine⟨gM _,?_⟩)) (aI:Nat.blt a1 c.n=true:=by rfl):
 ae c ops Q (⟨some a1,.call ⟨.value (.func f),xs.toArray,ats⟩,ty,pos,af,none⟩::rest) E L:=by
 have e:=gb n L
 have:=ae.rh (ty:=ty) (pos:=pos) (af:=af) (ats:=ats) (xs:=xs) (Lin:=L.take n) (Lr:=L.drop n) (E:=E) (Q:=Q) (ops:=ops) cf h (by rw[e];exact al) aI k
 rwa[e]at this
def fF{α:Type}[ah α]{e bytes cap:Nat}{key:aw Nat}{xs ys r:aa α}{z:α}(j:Nat)(hu:c.P.underlying t=some (.slice e))(ez:bK c.P e α)(gL:c4 c.P e z)(h:eh bytes xs ys=some r)
 (k:∀tg cap',ae c ops Q rest ((a1,.eq (aO tg r.length cap'))::E) (L.set j ⟨tg,.row e r cap'⟩)) (AR:(c.P.info? e).map (·.bytes)=some bytes:=by kernel_rfl)
 (hs:aP c E L x (.eq (aO key xs.length cap)):=by first|exact ag I|exact k2) (av:L[j]? =some ⟨key,.row e xs cap⟩:=by rfl) (hy:aP c E L y (.of ys):=by exact ag I) (aI:Nat.blt a1 c.n=true:=by rfl):
 ae c ops Q (⟨some a1,.call ⟨.builtin .append,#[x,y],#[t,t]⟩,ty,pos,af,none⟩::rest) E L:=.app hu ez gL AR hs av hy h aI k
def oA{place:Nat->aw (Nat×Nat)}{β:Type}[ah β]{b b':β}{γ:Type}[ah γ]{v:γ}{i:Nat}{r:aa (Nat×bZ)}(l:aN β γ)(k:s7 c E L place (l.set b v) r b')
 (hp:place i=some (l.off,ah.size γ):=by rfl) (al:aP c E L x (.of v):=by first|exact ag I|exact cH _|exact hN _|exact look_nil|exact gM _):s7 c E L place b ((i,x)::r) b':=.cons l hp al I k
def rm{β:Type}[ah β]{z b:β}{bt:aa (Nat×bZ)}{pl:Array (Nat×Nat)}(HR:fw c.P t pl)(gL:c4 c.P t z)(wQ:β)(aY:s7 c E L (pl[·]?) z bt b)(k:ae c ops Q rest ((a1,.of wQ)::E) L)(a7:ah.agg β=true:=by rfl)(hb:b=wQ:=by rfl)(aI:Nat.blt a1 c.n=true:=by rfl):
 ae c ops Q (⟨some a1,.build t bt.toArray,ty,pos,af,none⟩::rest) E L:=.v ((kc a7 HR gL aY).tL hb) I I aI k
def De{α:Type}[ah α]{e n:Nat}{z:α}{bt:aa (Nat×bZ)}(r:aa α)(hu:c.P.underlying t=some (.slice e))(ez:bK c.P e α)(gL:c4 c.P e z)(k:ae c ops Q rest ((a1,.of r)::E) L)
 (aY:o0 c E L (List.replicate n z) bt r:=by repeat (first|exact o0.nil|refine o0.cons (by simp) (ag I) ?_|refine o0.cons (by simp) (cH _) ?_|refine o0.cons (by simp) (hN _) ?_|refine o0.cons (by simp) (gM _) ?_))
 (hs:Nat.beq (ah.size α) 0=false:=by rfl) (qN:Nat.ble (n*ah.size α) 16777216=true:=by rfl) (aI:Nat.blt a1 c.n=true:=by rfl):
 ae c ops Q (⟨some a1,.buildSlice t n bt.toArray,ty,pos,af,none⟩::rest) E L:=.v (F4 hu ez gL hs qN aY) I I aI k
inductive jP(E:List (Nat×J)):List Nat->List (Nat×J)->Prop
 |nil:jP E [] []
 |cons {t:Nat} {cM:List Nat} {τ:J} {iR:List (Nat×J)}:look E t=some τ->jP E cM iR->jP E (t::cM) ((t,τ)::iR)
def jP.le:∀{cM:aa Nat} {fq:aa (Nat×J)},jP E cM fq->eN E fq
 |_,_,.nil=>.nil
 |_,_,.cons h k=>.same h k.le
def gU{code:Code}{fq:aa (Nat×J)}(cM:aa Nat)(k:az c Q code fq L)(aM:jP E cM fq:=by repeat (first|exact jP.nil|(apply jP.cons;rfl))):az c Q code E L:=.le aM.le k
def dM{z:Exit}{E':aa (Nat×J)}{L':aa aE}(n:Nat)(k:ar c Q z E' L')(av:L.drop n=L':=by rfl)(h:eN E E':=by repeat (first|exact eN.nil|refine eN.same I ?_)):ar c Q z E L:=.meet n av h k
def hY{σ ε γ δ:Type}{E':σ->γ->aa (Nat×J)}{L':σ->γ->aa aE}{xs:ε->Exit}{eu:ε->δ->aa (Nat×J)}{Lx:ε->δ->aa aE}{s:σ}(g:γ)(n:Nat)(av:L.drop n=L' s g:=by rfl)
 (h:eN E (E' s g):=by repeat (first|exact eN.nil|refine eN.same I ?_)):ar c (fl c E' L' xs eu Lx (.inl s)) .normal E L:=.Xv g n av h
def ho{σ ε γ δ:Type}{E':σ->γ->aa (Nat×J)}{L':σ->γ->aa aE}{xs:ε->Exit}{eu:ε->δ->aa (Nat×J)}{Lx:ε->δ->aa aE}{e:ε}{z:Exit}(g:δ)(n:Nat)(al:z=xs e:=by rfl)(aI:z≠ .normal:=by simp)(av:L.drop n=Lx e g:=by rfl)
 (h:eN E (eu e g):=by repeat (first|exact eN.nil|refine eN.same I ?_)):ar c (fl c E' L' xs eu Lx (.inr e)) z E L:=.Xw g n al aI av h
def LV{t:Nat}{p:Nat}{α:Type}[ah α]{v:α}(i:Nat)(dQ:bK c.P ty α)(h:look E t=some (.eq (.pointer (some ⟨p,0,none⟩))):=by rfl)(av:L[i]? =some ⟨some p,.var v⟩:=by rfl):qa c E L (.cell t ty) (.of v):=Z8 dQ h av
def pd{fn:Func}{t:Nat}{τ:J}(aD:fn.results= #[.tmp t]:=by rfl)(h:look E t=some τ:=by rfl)(dZ:c.ds=[]:=by rfl):ar c (bodyPost c.P fn (uL c τ)) .ret E L:=.Z9 aD (Lq h) dZ
def tk{fn:Func}{t:Nat}{τ:J}{δ:Type}{ρ:δ->J}{Lo:δ->aa aE}(a1:δ)(hs:(Lo a1).Sublist L:=by repeat (first|exact sG _|refine List.Sublist.cons_cons _ ?_))(aD:fn.results= #[.tmp t]:=by rfl)(h:look E t=some τ:=by rfl)(rz:ρ a1=τ:=by rfl)(dZ:c.ds=[]:=by rfl):
 ar c (bodyPost c.P fn (kA c.X c.bP c.jO ρ Lo)) .ret E L:=.eI a1 hs aD rz (dv h) dZ
def ig:aa aE->aa (Nat×aE)->aa aE
 |L,[]=>L
 |L,(i,e)::r=>ig (L.set i e) r
inductive tQ:List aE->List aE->Prop
 |nil:tQ [] []
 |cons {e:aE} {r s:List aE}:tQ r s->tQ (e::r) (e::s)
def tQ.eq:∀{l m:aa aE},tQ l m->l=m
 |_,_,.nil=>rfl
 |_,_,.cons h=>by rw[h.eq]
def fc{σ ε γ δ:Type}{body:Code}{N:Nat}{b:σ->aw (σ⊕ε)}{s0:σ}{e:ε}{fq:aa (Nat×J)}{fH:aa aE}(ao:di N b s0=some e)(cM:aa Nat)(u:σ->γ->aa (Nat×J))(ul:σ->γ->aa (Nat×aE))(xs:ε->Exit)
 (tS:ε->δ->aa (Nat×J)) (tB:ε->δ->aa (Nat×aE)) (g0:γ)
 (s8:∀s r,b s=some r->∀g,az c (fl c (λs g=>u s g++fq) (λs g=>ig fH (ul s g)) xs (λe d=>tS e d++fq) (λe d=>ig fH (tB e d)) r) body (u s g++fq) (ig fH (ul s g)))
 (pE:∀g,ar c Q (xs e) (tS e g++fq) (ig fH (tB e g)))
 (tw:tQ L fH:=by repeat (first|exact tQ.nil|apply tQ.cons))
 (Hk:jP E cM fq:=by repeat (first|exact jP.nil|(apply jP.cons;rfl))) (aM:eN E (u s0 g0++fq):=by repeat (first|exact eN.nil|refine eN.same I ?_)) (av:fH=ig fH (ul s0 g0):=by rfl):az c Q (.loop body) E L:=
 az.K2 ao (λs g=>u s g++fq) (λs g=>ig fH (ul s g)) xs (λe d=>tS e d++fq) (λe d=>ig fH (tB e d)) g0 (tw.eq.trans av) aM s8 pE
def gl{γ:Type}{b:Bool}{y z:Code}{fq:aa (Nat×J)}{fH:aa aE}(cM:aa Nat)(u:γ->aa (Nat×J))(ul:γ->aa (Nat×aE))(oJ:∀g,ar c Q .normal (u g++fq) (ig fH (ul g)))
 (bw:(∀g,ar c (ei Q) .normal (u g++fq) (ig fH (ul g)))->b=true->az c (ei Q) y E fH) (aY:(∀g,ar c (ei Q) .normal (u g++fq) (ig fH (ul g)))->b=false->az c (ei Q) z E fH)
 (tw:tQ L fH:=by repeat (first|exact tQ.nil|apply tQ.cons))
 (Hk:jP E cM fq:=by repeat (first|exact jP.nil|(apply jP.cons;rfl))) (ao:aP c E fH x (.of b):=by first|exact ag I|exact hN _):az c Q (.cond x y z) E L:=by
 cases tw.eq
 exact az.cb (λg=>u g++fq) (λg=>ig L (ul g)) ao oJ bw aY
section
variable{all:aa ff}{w:Nat->Bool}
def fP{τ:J}{hyp:aa aE->Prop}(al:∀L',aP c E L' x τ:=by first|exact λ_=>ag I|exact λ_=>cH _|exact λ_=>hN _|exact λ_=>gM _):∀L',hyp L'->ko c ops E L' ⟨some a1,.move x,ty,pos,af,none⟩ τ:=λL' _=>.v (c8 (al L')) I
def H1{σ τ:J}{hyp:aa aE->Prop}(h:∀{L'},aP c E L' x σ->bc c E L' o τ)(bF:o.guard=none:=by rfl)(al:∀L',aP c E L' x σ:=by first|exact λ_=>ag I|exact λ_=>cH _|exact λ_=>hN _|exact λ_=>gM _):
 ∀L',hyp L'->ko c ops E L' o τ:=λL' _=>.v (h (al L')) bF
def mZ{σ qP τ:J}{hyp:aa aE->Prop}(h:∀{L'},aP c E L' x σ->aP c E L' y qP->bc c E L' o τ)(bF:o.guard=none:=by rfl)(al:∀L',aP c E L' x σ:=by first|exact λ_=>ag I|exact λ_=>cH _|exact λ_=>hN _|exact λ_=>gM _)
 (hy:∀L',aP c E L' y qP:=by first|exact λ_=>ag I|exact λ_=>cH _|exact λ_=>hN _|exact λ_=>gM _):∀L',hyp L'->ko c ops E L' o τ:=λL' _=>.v (h (al L') (hy L')) bF
def ki{p o:Nat}{β γ:Type}[ah β][ah γ]{b:β}(i:Nat)(l:aN β γ)(dQ:bK c.P t γ)(al:∀L',aP c E L' x (.eq (.pointer (some ⟨p,o,none⟩))):=by exact λ_=>ag I)(av:L[i]? =some ⟨some p,.var b⟩:=by rfl)(aU:o=l.off:=by rfl)
 (hu:qx w i 0 all=true:=by first|rfl|kernel_rfl):∀L':aa aE,(∀(j:Nat) (e:aE),L[j]? =some e->qx w j 0 all=true->L'[j]? =some e)->ko c ops E L' ⟨some a1,.load t x,ty,pos,af,none⟩ (.of (l.get b)):=
 λL' uW=>.v (gA l dQ (al L') (uW _ _ av hu) aU I) I
def uQ{p:Nat}{β:Type}[ah β]{b:β}(i:Nat)(dQ:bK c.P t β)(al:∀L',aP c E L' x (.eq (.pointer (some ⟨p,0,none⟩))):=by exact λ_=>ag I)(av:L[i]? =some ⟨some p,.var b⟩:=by rfl)
 (hu:qx w i 0 all=true:=by first|rfl|kernel_rfl):∀L':aa aE,(∀(j:Nat) (e:aE),L[j]? =some e->qx w j 0 all=true->L'[j]? =some e)->ko c ops E L' ⟨some a1,.load t x,ty,pos,af,none⟩ (.of b):=
 λL' uW=>.v (gA (aN.id β) dQ (al L') (uW _ _ av hu) I I) I
def n4{f:FuncId}{xs:aa bZ}{ats:Array bx}{τs:aa J}{ρ:J}{hyp:aa aE->Prop}(cf:bD c.P f)(h:cm c.P f τs ρ)
 (al:∀L',ic c E L' xs τs:=by intro L';repeat (first|exact trivial|refine⟨ag I,?_⟩|refine⟨cH _,?_⟩|refine⟨hN _,?_⟩|refine⟨look_nil,?_⟩|refine⟨gM _,?_⟩)):
 ∀L',hyp L'->ko c ops E L' ⟨some a1,.call ⟨.value (.func f),xs.toArray,ats⟩,ty,pos,af,none⟩ ρ:=λL' _=>.v (ib cf h (al L')) I
def aaP{α:Type}[ah α][Inhabited α]{xs:aa α}{e:bx}{i:Int}{j:Nat}{hyp:aa aE->Prop}(hk:idx xs.length i=some j)(hu:c.P.underlying t=some (.slice e))(ez:bK c.P e α)
 (al:∀L',aP c E L' x (.of xs):=by exact λ_=>ag I) (hy:∀L',aP c E L' y (.of i):=by first|exact λ_=>ag I|exact λ_=>cH _):
 ∀L',hyp L'->ko c ops E L' ⟨some a1,.indexAddr t x y,ty,pos,af,none⟩ (.ptr (aB xs j)):=λL' _=>.v (mM hu ez (al L') (hy L') (cU hk)) I
def apR{s f o:Nat}{β γ:Type}[ah β][ah γ]{b:β}{hyp:aa aE->Prop}(l:aN β γ)(fd:wx c.P s f o)(al:∀L',aP c E L' x (.ptr b):=by exact λ_=>ag I)(aU:l.off=o:=by rfl):
 ∀L',hyp L'->ko c ops E L' ⟨some a1,.fieldAddr s x f,ty,pos,af,none⟩ (.ptr (l.get b)):=λL' _=>.v (vR l fd (al L') aU I) I
def abP{α:Type}[ah α]{a b:α}{hyp:aa aE->Prop}(e:some a=some b)(h:∀L',hyp L'->bc c E L' o (.of a))(bF:o.guard=none:=by rfl):∀L',hyp L'->ko c ops E L' o (.of b):=λL' av=>.v ((h L' av).tL (cZ e)) bF
def cW{τ:J}{j g:Nat}{b want:Bool}{hyp:aa aE->Prop}(h:∀L',hyp L'->b=want->bc c E L' o τ)(bF:o.guard=some (j,want):=by rfl)(aC:(ops[j]?).bind (·.dst)=some g:=by rfl)(ao:look E g=some (.of b):=by rfl):
 ∀L',hyp L'->ko c ops E L' o (.cond (b=want) τ):=λL' av=>.g (h L' av) bF aC ao
end
def aQ(s:Nat)(up rd:aa Nat)(τ:J):dt:=⟨some s,up,rd,[],λ_=>τ,λ_ _=>⟨none,.dead⟩⟩
section
variable{hs:aa dt}{i:Nat}{up rd:aa Nat}
def oc{τ:J}(al:∀(hd:Nat->Hid) (E':aa (Nat×J)) (L':aa aE),(∀t τ,look (kG hd hs E up) t=some τ->look E' t=some τ)->aP c E' L' x τ:=by first|exact λ_ _ _ aM=>ag (aM _ _ I)|exact λ_ _ _ _=>cH _|exact λ_ _ _ _=>hN _|exact λ_ _ _ _=>gM _)
 (aI:Nat.blt a1 c.n=true:=by rfl):fA c ops Q hs E L i ⟨some a1,.move x,ty,pos,af,none⟩ (aQ a1 up rd τ):=j1 I I aI λhd E' L' aM _=>c8 (al hd E' L' aM)
def qU{σ τ:J}(h:∀{E' L'},aP c E' L' x σ->bc c E' L' o τ)(bF:o.guard=none:=by rfl)(hd:o.dst=some a1:=by rfl)
 (al:∀(hd:Nat->Hid) (E':aa (Nat×J)) (L':aa aE),(∀t τ,look (kG hd hs E up) t=some τ->look E' t=some τ)->aP c E' L' x σ:=by first|exact λ_ _ _ aM=>ag (aM _ _ I)|exact λ_ _ _ _=>cH _|exact λ_ _ _ _=>hN _|exact λ_ _ _ _=>gM _)
 (aI:Nat.blt a1 c.n=true:=by rfl):fA c ops Q hs E L i o (aQ a1 up rd τ):=j1 bF hd aI λhd E' L' aM _=>h (al hd E' L' aM)
def GV{p o:Nat}{β γ:Type}[ah β][ah γ]{b:β}(k:Nat)(l:aN β γ)(dQ:bK c.P t γ)
 (al:∀(hd:Nat->Hid) (E':aa (Nat×J)) (L':aa aE),(∀t τ,look (kG hd hs E up) t=some τ->look E' t=some τ)->aP c E' L' x (.eq (.pointer (some ⟨p,o,none⟩))):=by exact λ_ _ _ aM=>ag (aM _ _ I))
 (av:∀hd:Nat->Hid,(gy (λ_=>true) hd 0 (hs.take i) L)[k]? =some ⟨some p,.var b⟩:=by exact λ_=>rfl) (aD:rd.contains k=true:=by rfl) (aU:o=l.off:=by rfl)
 (aI:Nat.blt a1 c.n=true:=by rfl):fA c ops Q hs E L i ⟨some a1,.load t x,ty,pos,af,none⟩ (aQ a1 up rd (.of (l.get b))):=j1 I I aI λhd E' L' aM uW=>gA l dQ (al hd E' L' aM) (uW _ _ (av hd) aD) aU I
def apW{p:Nat}{β:Type}[ah β]{b:β}(k:Nat)(dQ:bK c.P t β)
 (al:∀(hd:Nat->Hid) (E':aa (Nat×J)) (L':aa aE),(∀t τ,look (kG hd hs E up) t=some τ->look E' t=some τ)->aP c E' L' x (.eq (.pointer (some ⟨p,0,none⟩))):=by exact λ_ _ _ aM=>ag (aM _ _ I))
 (av:∀hd:Nat->Hid,(gy (λ_=>true) hd 0 (hs.take i) L)[k]? =some ⟨some p,.var b⟩:=by exact λ_=>rfl) (aD:rd.contains k=true:=by rfl)
 (aI:Nat.blt a1 c.n=true:=by rfl):fA c ops Q hs E L i ⟨some a1,.load t x,ty,pos,af,none⟩ (aQ a1 up rd (.of b)):=j1 I I aI λhd E' L' aM uW=>gA (aN.id β) dQ (al hd E' L' aM) (uW _ _ (av hd) aD) I I
def qT{τ:J}(h:∀(hd:Nat->Hid) (E':aa (Nat×J)) (L':aa aE),(∀t τ,look (kG hd hs E up) t=some τ->look E' t=some τ)->(∀j e,(gy (λ_=>true) hd 0 (hs.take i) L)[j]? =some e->rd.contains j=true->L'[j]? =some e)->bc c E' L' o τ)
 (bF:o.guard=none:=by rfl) (hd:o.dst=some a1:=by rfl) (aI:Nat.blt a1 c.n=true:=by rfl):fA c ops Q hs E L i o (aQ a1 up rd τ):=j1 bF hd aI h
end
end
def J7{F:Fence}{n wR:Nat}{P:Program}{code:Code}{Q:Exit->Act->bf->Prop}{a:Act}{W:bf}(hd:F.depth=none)(h:code.wpIn F n P Q a W):code.wpIn F wR P Q a W:=
 λb k cs mr hb _=>h b k cs mr hb (λd hd'=>by rw[hd]at hd';cases hd')
def dr.is(o:Obj):dr where
 holds _ _ x:=x=o
 nX:=False
 mono _ h:=h
abbrev dr.fO:dr:=.is (.deferred (some []))
def J.kE(f:FuncId)(τs:aa J):J where
 holds A W v:=∃lb:aa bl,v=.func (.func f) #[] lb.toArray∧gG A W τs lb
 mono e h:=let⟨lb,h1,ad⟩:=h; ⟨lb,h1,ad.mono e⟩
def bG.nx{c E L a W}(h:bG c E L a W){i p:Nat}{cp cp':dr}(ax:L[i]? =some ⟨some p,cp⟩){o':Obj}(ak:cp'.holds (ks L++c.bP) W o'):
 bG c E (L.set i ⟨some p,cp'⟩) a (W.putObj p o'):=by
 have gw:ks (L.set i ⟨some p,cp'⟩)=ks L:=zU (cp:=cp') ax
 have hp:p∈ks L:=nq.2 ⟨_,eo ax,rfl⟩
 have gR:Ext (ks L++c.bP) W (ks L++c.bP) (W.putObj p o'):=
  ⟨by simp,λk _ a7=>MU (λe=>a7 (e▸ca.2 (.inl hp))),λ_ h _=>h⟩
 exact
 {defers:=h.defers
  size:=h.size
  env:=λt τ ao=>by rw[gw];exact let⟨v,h1,ad⟩:=h.env t τ ao; ⟨v,h1,τ.mono gR ad⟩
  dk:=⟨h.dk.os,h.dk.tape,h.dk.output,h.dk.drawn,by simpa using h.dk.size,λk hk al=>by
   rw[MU (λe:k=p=>al (by subst e;exact h.fR _ hp hk))];exact h.dk.block k hk al⟩
  own:=λe he=>by
   rw[gw];obtain⟨j,aC⟩:=l8.1 he;rw[oP]at aC;split at aC
   ·rename_i hI;subst hI;split at aC
    ·simp only[fi]at aC;subst aC;exact⟨_,World.putObj_heap_same (h.lt p hp),cp'.mono gR ak⟩
    cases aC
   rename_i hI;have h1:=h.own e (eo aC);unfold aE.ok at *;split at h1
   ·rename_i q hq;obtain⟨o',oB,b2⟩:=h1;have cX:q≠p:=λe'=>hI (Qa h.nodup ax aC I (e'▸hq));exact⟨o',by rw[MU cX];exact oB,dr.mono _ gR b2⟩
   exact h1
  nodup:=by rw[gw];exact h.nodup
  lt:=by rw[gw];simpa using h.lt
  fR:=by rw[gw];exact h.fR
  er:=by rw[gw];simpa using h.er}
def F3{c:cj}{E:aa (Nat×J)}{L:aa aE}{d:aw Tmp}{ty:bx}{pos:String}{af:Array Edge}{g:aw (Nat×Bool)}{f:FuncId}{xs:aa bZ}{τs:aa J}(al:ic c E L xs τs):
 bc c E L ⟨d,.makeFunc (.func f) #[] xs.toArray,ty,pos,af,g⟩ (.kE f τs):=.pure λa W s=>
 ⟨.func (.func f) #[] (xs.map a.eval).toArray,by simp[execOp,Instr.makeFunc],_,rfl,al.holds a W s⟩
structure GD(A:List Nat)(W:World)(L:List aE):Prop where
 er:∀k∈A,k<W.heap.size∧k∉ks L
 nodup:(ks L).Nodup
 lt:∀k∈ks L,k<W.heap.size
 ok:∀e∈L,e.ok (ks L++A) W
def Mh(P:Program)(u:bl){α σ ε γ:Type}(τ:α->J)(Ls:σ->γ->aa aE)(Lx:ε->γ->aa aE)(step:α->σ->aw (σ⊕ε))(R:aa Nat->bf->Prop):Prop:=
 ∃ l,u=.func (.yield l) #[] #[]∧∀x s r,step x s=some r->∀g A W v,R (ks (Ls s g)++A) W->GD A W (Ls s g)->(τ x).holds (ks (Ls s g)++A) W v->
   YieldAt Fence.wide 8 P l #[v] W (match r with
    | .inl b0=>kA (ks (Ls s g)) A W (λ_:γ=>J.of true) (λg=>Ls b0 g)
    | .inr q=>kA (ks (Ls s g)) A W (λ_:γ=>J.of false) (λg=>Lx q g))
def Lr{σ ε γ:Type}(Ls:σ->γ->aa aE)(Lx:ε->γ->aa aE):σ⊕ε->γ->aa aE
 | .inl s,g=>Ls s g
 | .inr q,g=>Lx q g
section
variable{c:cj}{E:aa (Nat×J)}{L:aa aE}{ops:Array Oper}{Q:Exit->Act->bf->Prop}
variable{d:aw Tmp}{ty:bx}{pos:String}{af:Array Edge}{g:aw (Nat×Bool)}{x y:bZ}{t t2:bx}
def bG.YT{a:Act}{W:bf}(s:bG c E L a W):Ext (c.X++c.bP) c.jO (ks L++c.bP) W:=
 ⟨s.dk.size,λk hk a7=>s.dk.block k hk λal=>a7 (ca.2 (.inl al)),λk hm b9=>by
   rcases ca.1 hm with hm|hm
   ·exact ca.2 (.inl (s.fR k hm b9))
   exact ca.2 (.inr hm)⟩
def bG.LG{a:Act}{W:bf}{Lin Lr:aa aE}(s:bG c E (Lin++Lr) a W):GD (ks Lr++c.bP) W Lin:=by
 have lB:=s.nodup;rw[eg]at lB;obtain⟨nF,sr,p2⟩:=nd.1 lB;exact
 {er:=λk hm=>by
   rcases ca.1 hm with hm|hm
   ·exact⟨s.lt k (by rw[eg];exact ca.2 (.inr hm)),λh=>p2 k h k hm I⟩
   obtain⟨h1,ad⟩:=s.er k hm;exact⟨h1,λh=>ad (by rw[eg];exact ca.2 (.inl h))⟩
  nodup:=nF
  lt:=λk hm=>s.lt k (by rw[eg];exact ca.2 (.inl hm))
  ok:=λe he=>aE.um (s.own e (ca.2 (.inl he))) (.drop λk hm=>by
   rw[eg];simp only[ca]at hm⊢;rcases hm with hm|hm|hm
   ·exact .inl (.inl hm)
   ·exact .inl (.inr hm)
   exact .inr hm) λ_ _=>rfl}
def Cn{Lin Lr:aa aE}{A:aa Nat}{W:bf}:Ext (ks (Lin++Lr)++A) W (ks Lin++(ks Lr++A)) W:=.drop λk hm=>by
 rw[eg];simp only[ca]at hm⊢;rcases hm with hm|hm|hm
 ·exact .inl (.inl hm)
 ·exact .inl (.inr hm)
 exact .inr hm
def Ke{Lin Lr:aa aE}{A:aa Nat}{W:bf}:Ext (ks Lin++(ks Lr++A)) W (ks (Lin++Lr)++A) W:=.drop λk hm=>by
 rw[eg]at hm;simp only[ca]at hm⊢;rcases hm with(hm|hm)|hm
 ·exact .inl hm
 ·exact .inr (.inl hm)
 exact .inr (.inr hm)
def ae.yield{rest:aa Oper}{a1 wS:Nat}{ats:Array bx}{u:bl}{α σ ε γ:Type}{τ:α->J}{Ls:σ->γ->aa aE}{Lx:ε->γ->aa aE}{step:α->σ->aw (σ⊕ε)}{Lin:aa aE}{x:bZ}{v:α}{s:σ}{gg:γ}{r:σ⊕ε}
 (ak:c.rd=none) (hy:Mh c.P u τ Ls Lx step (λcE W'=>Ext (c.X++c.bP) c.jO cE W')) (aY:look E wS=some (.eq u)) (al:aP c E (Lin++Ls s gg) x (τ v)) (aD:step v s=some r) (aI:Nat.blt a1 c.n=true)
 (aJ:∀b0,r=.inl b0->∀dm,ae c ops Q rest ((a1,.of true)::E) (Lin++Ls b0 dm)) (bE:∀q,r=.inr q->∀dm,ae c ops Q rest ((a1,.of false)::E) (Lin++Lx q dm)):
 ae c ops Q (⟨some a1,.call ⟨.value (.tmp wS),#[x],ats⟩,ty,pos,af,none⟩::rest) E (Lin++Ls s gg):=λa W st=>by
 obtain⟨l,rfl,hy⟩:=hy
 obtain⟨S3,h1,ad⟩:=st.env wS _ aY
 have hu:S3=.func (.yield l) #[] #[]:=ad
 subst hu
 have tC:bG c E (Ls s gg++Lin) a W:=st.perm nc
 have ba:=al a W st
 have wC:(τ v).holds (ks (Ls s gg)++(ks Lin++c.bP)) W (a.eval x):=(τ v).mono (.drop λk hm=>by
  rw[eg];simp only[ca]at hm⊢;rcases hm with hm|hm|hm
  ·exact .inl (.inr hm)
  ·exact .inl (.inl hm)
  exact .inr hm) ba
 obtain⟨fn,tmps,assign,body,jt,kp⟩:=hy v s r aD gg (ks Lin++c.bP) W (a.eval x) (tC.YT.trans Cn) tC.LG wC
 have QX:(execOp a.eval ⟨some a1,.call ⟨.value (.tmp wS),#[x],ats⟩,ty,pos,af,none⟩).run c.P W=.ok (.round l fn tmps assign body) W:=by
  rw[<-jt];simp[execOp,resolve,Deferred.ofValue,Act.eval,h1,invoke,dI,Sem.run_pure,Result.andThen]
 refine wpListIn_plain I λK qX=>?_
 refine⟨λ_ _=>trivial,?_⟩
 rw[NC _ _ _ (λ_ h=>by cases h),QX,Oper.uponIn_round]
 refine⟨λh=>by simp at h,?_⟩
 have R6:RoundIn c.F (9-1) c.P l fn tmps assign body W _:=kp
 refine R6.mono λe W' he=>?_
 cases r with
 | inl b0=>
   obtain⟨w,dm,rfl,tD,ay,aR,aX,bh⟩:=he
   obtain rfl:=of_bool.1 bh
   refine qX _ _ (aJ b0 I dm _ _ ?_)
   exact(((tC.after tD ay aR aX).perm nc).put (by simpa using aI) (of_bool.2 I))
 | inr q=>
   obtain⟨w,dm,rfl,tD,ay,aR,aX,bh⟩:=he
   obtain rfl:=of_bool.1 bh
   refine qX _ _ (bE q I dm _ _ ?_)
   exact(((tC.after tD ay aR aX).perm nc).put (by simpa using aI) (of_bool.2 I))
def ae.eL{l:aa Oper}{L2:aa aE}(h:L=L2)(k:ae c ops Q l E L2):ae c ops Q l E L:=by subst h;exact k
def ae.cases{l:aa Oper}(b:Bool)(h1:b=true->ae c ops Q l E L)(ad:b=false->ae c ops Q l E L):ae c ops Q l E L:=by
 cases b
 ·exact ad I
 exact h1 I
def az.F0{x:bZ}{b:Bool}{y z:Code}(ao:aP c E L x (.of b))(hb:b=true)(k:az c Q y E L):az c Q (.cond x y z) E L:=.cond ao (λ_=>k) λh=>by rw[hb]at h;cases h
def az.vO{x:bZ}{b:Bool}{y z:Code}(ao:aP c E L x (.of b))(hb:b=false)(k:az c Q z E L):az c Q (.cond x y z) E L:=.cond ao (λh=>by rw[hb]at h;cases h) λ_=>k
def FW:Code->Exit
 | .ret=>.ret
 | .exit id=>.exit id
 | .goto t=>.goto t
 |_=>.normal
def zW:Code->Bool
 | .ret| .exit _| .goto _=>true
 |_=>false
def Mz{σ ε γ:Type}(c:cj)(bT:ε->Code)(l D:Nat)(rec:Loop)(Ls:σ->γ->aa aE)(Lx:ε->γ->aa aE):σ⊕ε->Exit->Act->bf->Prop
 | .inl b0,x,a,W=>x=.normal∧∃g,bG c [] (⟨some l,.is (.loop rec)⟩::⟨some D,.fO⟩::Ls b0 g) a W
 | .inr q,x,a,W=>zW (bT q)=true∧x=FW (bT q)∧∃g,bG c [] (⟨some l,.is (.loop rec)⟩::⟨some D,.fO⟩::Lx q g) a W
def MA(c:cj)(l:Nat)(body:Code)(Q:Exit->Act->bf->Prop)(a:Act)(W:bf):Prop:=
 ∃q0,(Instr.beginRound l).run c.P W=.ok () q0∧c.wp body Q a q0
def ar.begin{l:Nat}{body:Code}{tK:Exit->Act->bf->Prop}(i:Nat){r:Loop}(av:L[i]? =some ⟨some l,.is (.loop r)⟩)(aD:r.state=.ready)
 (k:az c Q body E (L.set i ⟨some l,.is (.loop {r with state:=.busy})⟩)):ar c (Exit.then (MA c l body Q) tK) .normal E L:=λa W s=>by
 obtain⟨o,h1,ad⟩:=s.own _ (eo av)
 have mu:o=.loop r:=ad
 subst mu
 exact⟨_,run_beginRound h1 aD,k _ _ (s.nx av I)⟩
def ar.aaV{σ ε γ:Type}{bT:ε->Code}{l D:Nat}{rec:Loop}{Ls:σ->γ->aa aE}{Lx:ε->γ->aa aE}{b0:σ}(g:γ)(n:Nat)(av:L.drop n=⟨some l,.is (.loop rec)⟩::⟨some D,.fO⟩::Ls b0 g):
 ar c (Mz c bT l D rec Ls Lx (.inl b0)) .normal E L:=λa W s=>⟨rfl,g,by rw[<-av];exact(s.r2 n).less (λt τ h=>by simp[look]at h)⟩
def ar.aiY{σ ε γ:Type}{bT:ε->Code}{l D:Nat}{rec:Loop}{Ls:σ->γ->aa aE}{Lx:ε->γ->aa aE}{q:ε}{x:Exit}(g:γ)(n:Nat)(aC:zW (bT q)=true)(al:x=FW (bT q))(av:L.drop n=⟨some l,.is (.loop rec)⟩::⟨some D,.fO⟩::Lx q g):
 ar c (Mz c bT l D rec Ls Lx (.inr q)) x E L:=λa W s=>⟨aC,al,g,by rw[<-av];exact(s.r2 n).less (λt τ h=>by simp[look]at h)⟩
def az.jump{j:Code}(aC:zW j=true)(k:ar c Q (FW j) E L):az c Q j E L:=by
 cases j <;> simp only[zW]at aC <;> first|cases aC|skip
 all_goals first|exact .exit k|exact .ret k|exact λa W s=>wpIn_goto (k a W s)
def U4{P:Program}{l:Nat}{R:Ending->bf->Prop}{j:Code}{a:Act}{W W':bf}{v:bl}(aC:zW j=true)(bh:(Instr.endRound l (some j)).run P W=.ok v W')(kp:R (.returned v) W'):
 roundPost P l R (FW j) a W:=by
 cases j <;> simp only[zW]at aC <;> first|exact⟨_,_,bh,kp⟩|cases aC
def bG.mark{a:Act}{W:bf}(s:bG c E L a W)(D:Nat):bG {c with ds:=tf D::c.ds} E L {a with defers:=tf D::a.defers} W:=
 {defers:=by simp[s.defers],size:=s.size,env:=s.env,dk:=s.dk,own:=s.own,nodup:=s.nodup,lt:=s.lt,fR:=s.fR,er:=s.er}
def R7(P:Program)(f:FuncId)(τs:aa J)(Lin:aa aE){α σ ε γ:Type}(τ:α->J)(run:(α->σ->aw (σ⊕ε))->σ->aw (σ⊕ε))(Ls:σ->γ->aa aE)(Lx:ε->γ->aa aE):Prop:=
 ∀ (step:α->σ->aw (σ⊕ε)) (s0:σ) (g0:γ) (r:σ⊕ε),run step s0=some r->
   ∀ (A:aa Nat) (W:bf) (u:bl) (vs:aa bl),GD A W (Lin++Ls s0 g0)->gG (ks (Lin++Ls s0 g0)++A) W τs vs->
     Mh P u τ Ls Lx step (λcE W'=>Ext (ks (Lin++Ls s0 g0)++A) W cE W')->
     Calls P f (u::vs).toArray W (kA (ks (Lin++Ls s0 g0)) A W (λ_:γ=>.bY []) (λg=>Lin++Lr Ls Lx r g))
def agq{gt p:Nat}{assign body:Code}{f:FuncId}{rl:aa J}{Lin:aa aE}{α σ ε γ:Type}{τ:α->J}{run:(α->σ->aw (σ⊕ε))->σ->aw (σ⊕ε)}
 {Ls:σ->γ->aa aE} {Lx:ε->γ->aa aE} {step:α->σ->aw (σ⊕ε)} {s0:σ} {g0:γ} {r:σ⊕ε} (bT:ε->Code)
 (ak:c.rd=none) (cf:bD c.P f) (bF:look E gt=some (.kE f rl)) (pn:∀au aW qQ,R7 c.P f rl Lin τ run (λs g=>au::aW::Ls s g) qQ) (aD:run step s0=some r) (av:L=Lin++Ls s0 g0) (hp:Nat.blt p c.n=true)
 (ux:∀x s r,step x s=some r->∀g (qI:bf) (qW qJ:aa Nat) (l D:Nat) (rec:Loop),rec.state=.ready->
  az ⟨c.P,c.n,qI,qW,qJ,some l,[]⟩ (Exit.then (MA ⟨c.P,c.n,qI,qW,qJ,some l,[]⟩ l body (Mz ⟨c.P,c.n,qI,qW,qJ,some l,[]⟩ bT l D {rec with state:=.busy} Ls Lx r)) (λ_ _ _=>False)) assign ((p,τ x)::E) (⟨some l,.is (.loop rec)⟩::⟨some D,.fO⟩::Ls s g))
 (s9:∀b0,r=.inl b0->∀g D,ar {c with ds:=tf D::c.ds} Q .normal E (⟨some D,.fO⟩::(Lin++Ls b0 g)))
 (Ga:∀q,r=.inr q->∀g D,az {c with ds:=tf D::c.ds} Q (bT q) E (⟨some D,.fO⟩::(Lin++Lx q g))):
 az c Q (.rangeFunc (.tmp gt) #[p] assign body) E L:=λa W st=>by
 subst av
 refine wpIn_rangeFunc λfn Mi=>?_
 show ∃l mark Au d alN DI args aoq,(Instr.enterLoop fn a.tmps #[p] assign body c.rd).run c.P W=_∧_
 rw[ak]
 obtain⟨rec,mm⟩:∃rec:Loop,rec= {state:=.ready,pending:=none,fn,tmps:=a.tmps,params:= #[p],assign,body,defers:=W.heap.size}:=⟨_,rfl⟩
 obtain⟨v,Hl,lb,AT,aqf⟩:=st.env gt _ bF
 obtain⟨h5,Hm⟩:∃h5,(W.alloc (.deferred (some []))).alloc (.loop rec)=h5:=⟨_,rfl⟩
 have s1:=(st.alloc (o:=.deferred (some [])) (cp:=.fO) I).alloc (o:=.loop rec) (cp:=.is (.loop rec)) I
 rw[Hm,II]at s1
 obtain⟨D,l5⟩:∃D,D=W.heap.size:=⟨_,rfl⟩
 obtain⟨l,ao⟩:∃l,l=W.heap.size+1:=⟨_,rfl⟩
 have Hn:=run_enterLoop_outer (P:=c.P) (w:=W) fn a.tmps #[p] assign body
 rw[<-mm,Hm,<-ao,<-l5]at Hn
 rw[<-ao,<-l5]at s1
 obtain⟨nG,tE⟩:∃nG:σ->γ->aa aE,nG=λs g=>⟨some l,.is (.loop rec)⟩::⟨some D,.fO⟩::Ls s g:=⟨_,rfl⟩
 obtain⟨qQ,Ho⟩:∃qQ:ε->γ->aa aE,qQ=λq g=>⟨some l,.is (.loop {rec with state:=.done,pending:=some (bT q)})⟩::⟨some D,.fO⟩::Lx q g:=⟨_,rfl⟩
 have s2:bG c E (Lin++nG s0 g0) a h5:=s1.perm (by
  rw[tE];exact(q5.trans (q5.cons _)).symm)
 have R8:gG (ks (Lin++nG s0 g0)++c.bP) h5 rl lb:=by
  have h1:(J.kE f rl).holds (ks (Lin++nG s0 g0)++c.bP) h5 v:=by
   obtain⟨DH,h1,ad⟩:=s2.env gt _ bF;rw[Hl]at h1;cases h1;exact ad
  obtain⟨R9,au,aW⟩:=h1;rw[AT]at au;have:R9=lb:=by injection au with _ _ au;injection au with au;exact au.symm
  rw[<-this];exact aW
 have Hp:bG c E ((Lin++nG s0 g0)++[]) a h5:=by rw[ma];exact s2
 have Gb:=Hp.LG
 simp only[ks,List.nil_append]at Gb
 have Rt:Mh c.P (.func (.yield l) #[] #[]) τ nG qQ step (λcE W'=>Ext (ks (Lin++nG s0 g0)++c.bP) h5 cE W'):=by
  refine⟨l,rfl,λx s nM hs g A q0 v2 gR hle ba=>?_⟩;have GF:=hle;rw[tE]at GF;obtain⟨o,dd,eS⟩:=GF.ok ⟨some l,.is (.loop rec)⟩ (by simp);have th:o=.loop rec:=eS;subst th;have hy:=run_yield (P:=c.P) (args:= #[v2]) dd (by rw[mm];rfl);refine⟨_,_,_,_,hy,roundIn_of_wpIn r1 ?_⟩;have au:rec.assign=assign:=by rw[mm]
  have aW:rec.body=body:=by rw[mm]
  have cF:rec.params= #[p]:=by rw[mm]
  have fv:rec.tmps=a.tmps:=by rw[mm]
  rw[au,aW,cF,fv];refine J7 (n:=9) I ?_;have QY:((#[p]:Array Tmp).zip #[v2]).foldl (λtmps (t,a)=>tmps.setIfInBounds t a) a.tmps=a.tmps.setIfInBounds p v2:=by simp
  rw[QY];subst tE Ho;refine wpIn_mono ((ux x s nM hs g q0 (ks (⟨some l,.is (.loop rec)⟩::⟨some D,.fO⟩::Ls s g)) A l D rec (by rw[mm])) {tmps:=a.tmps.setIfInBounds p v2,defers:=[]} q0 ?_) ?_
  ·have nH:p<c.n:=by simpa using hp
   exact
   {defers:=rfl
    size:=by simp[s2.size]
    env:=λt tu en=>by
     simp only[look]at en;by_cases e:Nat.beq p t=true
     ·rw[e]at en;simp only[cond_true,fi]at en;subst en;have:=eP.1 e;subst this;exact⟨v2,by simp[s2.size,nH],ba⟩
     simp only[kX]at e;rw[e]at en;simp only[cond_false]at en;obtain⟨u,h1,ad⟩:=s2.env t tu en;have cX:p≠t:=λh=>by rw[eP.2 h]at e;cases e
     exact⟨u,by rw[yY cX];exact h1,tu.mono gR ad⟩
    dk:=.refl _ _
    own:=hle.ok
    nodup:=hle.nodup
    lt:=hle.lt
    fR:=λk hk _=>hk
    er:=hle.er}
  intro e a3 arz hq;cases e with
  | normal=>
    obtain⟨S4,Sa,hb⟩:=hq
    refine⟨S4,Sa,J7 (n:=9) I (wpIn_mono hb ?_)⟩
    intro e a5 HX Mj
    have fin:∀(jump:aw Code) {Lr:aa aE},bG ⟨c.P,c.n,q0,ks (⟨some l,.is (.loop rec)⟩::⟨some D,.fO⟩::Ls s g),A,some l,[]⟩ [] (⟨some l,.is (.loop {rec with state:=.busy})⟩::⟨some D,.fO⟩::Lr) a5 HX->
     ∃rE,(Instr.endRound l jump).run c.P HX=.ok (.bool jump.isNone) rE∧bG ⟨c.P,c.n,q0,ks (⟨some l,.is (.loop rec)⟩::⟨some D,.fO⟩::Ls s g),A,some l,[]⟩ [] (⟨some l,.is (.loop {rec with state:=if jump.isNone then .ready else .done,pending:=jump})⟩::⟨some D,.fO⟩::Lr) a5 rE:=λjump Lr jj=>by
     obtain⟨o,h1,ad⟩:=jj.own ⟨some l,.is (.loop {rec with state:=.busy})⟩ (by simp)
     have mu:o=.loop {rec with state:=.busy}:=ad
     subst mu
     exact⟨_,run_endRound jump h1,jj.nx (i:=0) I I⟩
    cases nM with
    | inl b0=>
      obtain⟨rfl,dm,jj⟩:=Mj
      obtain⟨rE,bh,km⟩:=fin none jj
      refine⟨_,rE,bh,?_⟩
      have AU:({rec with state:=if (none:aw Code).isNone then .ready else .done,pending:=none}:Loop)=rec:=by rw[mm];rfl
      rw[AU]at km
      exact km.ends (ρ:=λ_:γ=>J.of true) (Lo:=λg=>⟨some l,.is (.loop rec)⟩::⟨some D,.fO⟩::Ls b0 g) dm (y9 _) (of_bool.2 I)
    | inr q=>
      obtain⟨aC,rfl,dm,jj⟩:=Mj
      obtain⟨rE,bh,km⟩:=fin (some (bT q)) jj
      have key:kA (ks (⟨some l,.is (.loop rec)⟩::⟨some D,.fO⟩::Ls s g)) A q0 (λ_:γ=>J.of false) (λg=>⟨some l,.is (.loop {rec with state:=.done,pending:=some (bT q)})⟩::⟨some D,.fO⟩::Lx q g) (.returned (.bool false)) rE:=
       km.ends (ρ:=λ_:γ=>J.of false) (Lo:=λg=>⟨some l,.is (.loop {rec with state:=.done,pending:=some (bT q)})⟩::⟨some D,.fO⟩::Lx q g) dm (y9 _) (of_bool.2 I)
      exact U4 aC bh key
  |exit id=>exact hq.elim
  |goto t=>exact hq.elim
  |ret=>exact hq.elim
  |panic ch=>exact hq.elim
  |outgrown=>exact hq.elim
 have aqg:R7 c.P f rl Lin τ run nG qQ:=by rw[tE];exact pn _ _ qQ
 have Af:=aqg step s0 g0 r aD c.bP h5 (.func (.yield l) #[] #[]) lb Gb R8 Rt
 have kF:a.eval (.tmp gt)=.func (.func f) #[] lb.toArray:=by simp[Act.eval,Hl,AT]
 refine⟨l,[tf D],h5,{target:=.fn (.func f) lb.toArray,args:= #[.func (.yield l) #[] #[]]},h5,f,#[.func (.yield l) #[] #[]]++lb.toArray,h5,Hn,?_,λ_ _=>trivial,?_,λh=>by simp at h,?_⟩
 ·simp only[resolve,kF]
  simp[go_sem]
 ·simp[invoke,go_sem,cf.run]
 refine CallsIn.PH ?_
 have QZ:(#[.func (.yield l) #[] #[]]++lb.toArray:Array bl)=(.func (.yield l) #[] #[]::lb).toArray:=by simp
 rw[QZ]
 refine Af.mono λe S5 ⟨arA,dm,he,aY,ay,aR,aX,bh⟩=>?_
 subst he
 have rF:=Hp.after aY ay (by simpa[ks]using aR) (by simpa[ks]using aX)
 rw[ma]at rF
 cases r with
 | inl b0=>
   simp only[Lr]at rF
   subst tE
   have HY:bG c E (⟨some l,.is (.loop rec)⟩::⟨some D,.fO⟩::(Lin++Ls b0 dm)) a S5:=rF.perm (by
    exact q5.trans (q5.cons _))
   obtain⟨o,dd,eS⟩:=HY.own ⟨some l,.is (.loop rec)⟩ (by simp)
   have th:o=.loop rec:=eS
   subst th
   have qF:=Jt (P:=c.P) dd (by rw[mm];simp)
   have nH:rec.pending=none:=by rw[mm]
   rw[nH]at qF
   refine⟨none,_,qF,?_⟩
   have wT:=(HY.nx (i:=0) (cp':=.is (.loop {rec with state:=.exhausted})) (o':=.loop {rec with state:=.exhausted}) I I).r2 1
   rw[nH]at wT
   exact s9 b0 I dm D _ _ (wT.mark D)
 | inr q=>
   simp only[Lr]at rF
   subst Ho
   have HY:bG c E (⟨some l,.is (.loop {rec with state:=.done,pending:=some (bT q)})⟩::⟨some D,.fO⟩::(Lin++Lx q dm)) a S5:=rF.perm (by
    exact q5.trans (q5.cons _))
   obtain⟨o,dd,eS⟩:=HY.own ⟨some l,.is (.loop {rec with state:=.done,pending:=some (bT q)})⟩ (by simp)
   have th:o=.loop {rec with state:=.done,pending:=some (bT q)}:=eS
   subst th
   have qF:=Jt (P:=c.P) dd (by simp)
   refine⟨some (bT q),_,qF,?_⟩
   have wT:=(HY.nx (i:=0) (cp':=.is (.loop {rec with state:=.exhausted,pending:=some (bT q)})) (o':=.loop {rec with state:=.exhausted,pending:=some (bT q)}) I I).r2 1
   exact Ga q I dm D _ _ (wT.mark D)
def afg{P:Program}{fn:Func}{R:Ending->bf->Prop}{a:Act}{W:bf}(h:bodyPost P fn R .ret a W):bodyPostM Fence.wide 9 P fn R .ret a W:=by
 obtain⟨h1,v,ad,ay⟩:=h;show LeavesInM Fence.wide 9 P fn a.tmps R a.defers .returning W;rw[h1];exact⟨v,ad,ay⟩
def ar.lv{P:Program}{fn:Func}{R:Ending->bf->Prop}(k:ar c (bodyPost P fn R) .ret E L):ar c (bodyPost P fn R) .normal E L:=λa W s=>k a W s
def ar.CV{fn:Func}{R:Ending->bf->Prop}(k:ar c (bodyPost c.P fn R) .ret E L):ar c (bodyPostM Fence.wide 9 c.P fn R) .ret E L:=λa W s=>afg (k a W s)
def ar.Lu{fn:Func}{R:Ending->bf->Prop}{D:Nat}(i:Nat)(av:L[i]? =some ⟨some D,.fO⟩)(dZ:c.ds=[tf D])(k:ar {c with ds:=[]} (bodyPost c.P fn R) .ret E (L.set i ⟨some D,.is (.deferred none)⟩)):
 ar c (bodyPostM Fence.wide 9 c.P fn R) .ret E L:=λa W s=>by
 obtain⟨o,h1,ad⟩:=s.own _ (eo av)
 have mu:o=.deferred (some []):=ad
 subst mu
 have s2:=s.nx av (cp':=.is (.deferred none)) (o':=.deferred none) I
 have dD:bG {c with ds:=[]} E (L.set i ⟨some D,.is (.deferred none)⟩) {a with defers:=[]} (W.putObj D (.deferred none)):=
  {defers:=rfl,size:=s2.size,env:=s2.env,dk:=s2.dk,own:=s2.own,nodup:=s2.nodup,lt:=s2.lt,fR:=s2.fR,er:=s2.er}
 obtain⟨_,v,ay,aR⟩:=k _ _ dD
 show LeavesInM Fence.wide 9 c.P fn a.tmps R a.defers .returning W
 rw[s.defers,dZ]
 exact⟨by simp,.inl ⟨D,_,rfl,run_takeDeferred h1,v,ay,aR⟩⟩
end
def cm.ar0{P:Program}{f:FuncId}{fn:Func}{code:Code}{n:Nat}{τs:aa J}{ρ:J}(aY:P.funcs[f]? =some fn)(hb:fn.body=some code)(aI:fn.ntmps=n)(hlen:Nat.ble τs.length n=true)
 (h:∀W A,az ⟨P,n,W,[],A,none,[]⟩ (bodyPostM Fence.wide 9 P fn λe W'=> ∃v,e=.returned v∧Fr [] W W'∧ρ.holds A W' v) code (params 0 τs) []):cm P f τs ρ:=by
 intro A W vs ev ba
 refine(callsIn_wide (n:=9)).1 (callsIn_of_wp_marks aY hb r1 (h W A _ _ ?_))
 have ao:=ba.length
 have hle:τs.length<=n:=oO hlen
 exact
 {defers:=rfl
  size:=by simp[aI,ao];omega
  env:=λt τ kN=>by
   obtain⟨_,v,ad,ay⟩:=zu ba 0 t τ kN;refine⟨v,?_,ay⟩;have b9:t<vs.length:=(fL.1 ad).1;rw[ve (by simpa using b9)];simpa using ad
  dk:=.refl _ _
  own:=by simp
  nodup:=by simp[ks]
  lt:=by simp[ks]
  fR:=by simp[ks]
  er:=λk hk=>⟨ev k hk,by simp[ks]⟩}
def bR.ofM{P:Program}{f:FuncId}{fn:Func}{code:Code}{n:Nat}{τs:aa J}{Lin:aa aE}{δ:Type}{ρ:δ->J}{Lo:δ->aa aE}(aY:P.funcs[f]? =some fn)(hb:fn.body=some code)(aI:fn.ntmps=n)(hlen:Nat.ble τs.length n=true)
 (h:∀W A,az ⟨P,n,W,ks Lin,A,none,[]⟩ (bodyPostM Fence.wide 9 P fn (kA (ks Lin) A W ρ Lo)) code (params 0 τs) Lin):bR P f τs Lin ρ Lo:=by
 intro A W vs ev ij b9 hJ ba
 refine(callsIn_wide (n:=9)).1 (callsIn_of_wp_marks aY hb r1 (h W A _ _ ?_))
 have ao:=ba.length
 have hle:τs.length<=n:=oO hlen
 exact
 {defers:=rfl
  size:=by simp[aI,ao];omega
  env:=λt τ kN=>by
   obtain⟨_,v,ad,ay⟩:=zu ba 0 t τ kN;refine⟨v,?_,ay⟩;have b9:t<vs.length:=(fL.1 ad).1;rw[ve (by simpa using b9)];simpa using ad
  dk:=.refl _ _
  own:=hJ
  nodup:=ij
  lt:=b9
  fR:=λk hk _=>hk
  er:=ev}
def O1{τ σ:J}(h:τ.Flat)(k:σ.Flat):(J.bY [τ,σ]).Flat:=λA W cE W' v ⟨vs,h1,ad⟩=>by
 refine⟨vs,h1,?_⟩;generalize vs.toList=l at ad;cases ad with
 | cons a r=>cases r with
   |cons b r=>cases r;exact .cons (h _ _ _ _ _ a) (.cons (k _ _ _ _ _ b) .nil)
section
variable{c:cj}{E:aa (Nat×J)}{L:aa aE}{ops:Array Oper}{Q:Exit->Act->bf->Prop}
variable{d:aw Tmp}{ty:bx}{pos:String}{af:Array Edge}{g:aw (Nat×Bool)}{x y:bZ}{t t2:bx}
def bc.via{o:Oper}{τ:J}{E':aa (Nat×J)}{L':aa aE}(aY:τ.Flat)(hs:∀a W,bG c E L a W->bG c E' L' a W)(h:bc c E' L' o τ):bc c E L o τ:=λa W st=>by
 have:=h a W (hs a W st);unfold gJ at this⊢;exact vq (λhL W' ⟨v,h1,ad,ay⟩=>⟨v,h1,ad,aY _ _ _ _ _ ay⟩) this
def bG.tell{a:Act}{W:bf}(s:bG c E L a W){gn:Nat}{σ τ:J}(ao:look E gn=some σ)(h:∀v,σ.holds (ks L++c.bP) W v->τ.holds (ks L++c.bP) W v):bG c ((gn,τ)::E) L a W:=by
 refine {s with env:=λt tu en=>?_};simp only[look]at en;by_cases e:Nat.beq gn t=true
 ·rw[e]at en;simp only[cond_true,fi]at en;subst en;have:=eP.1 e;subst this;obtain⟨v,h1,ad⟩:=s.env gn _ ao;exact⟨v,h1,h v ad⟩
 simp only[kX]at e;rw[e]at en;exact s.env t tu en
def bG.YU{a:Act}{W:bf}(s:bG c E L a W){i p:Nat}{α:Type}[ah α]{z:α}(av:L[i]? =some ⟨some p,.var z⟩):
 (J.ptr z).holds (ks (L.set i ⟨none,.dead⟩)++c.bP) W (.pointer (some ⟨p,0,none⟩)):=by
 obtain⟨o,e3,cs,T,rfl,aD⟩:=s.own _ (eo av)
 have hlen:cs.toList.length=ah.size α:=ah.len aD
 refine⟨p,0,cs,T,(0,0),rfl,s.FD av,e3,by simp at hlen;omega,?_⟩
 rw[vn,<-hlen,nf]
 have mQ:=BX (L:=L) (i:=i) (cp:=.dead)
 exact ah.mono (.drop λk hm=>by
  rcases ca.1 hm with hm|hm
  ·exact ca.2 (.inl (mQ.subset hm))
  exact ca.2 (.inr hm)) aD
abbrev Hq(f p:Nat):bl:=.func (.func f) #[.pointer (some ⟨p,0,none⟩)] #[]
def alc{f p:Nat}(al:aP c E L x (.eq (.pointer (some ⟨p,0,none⟩)))):bc c E L ⟨d,.makeFunc (.func f) #[x] #[],ty,pos,af,g⟩ (.eq (Hq f p)):=.pure λa W s=>by
 have h:=al a W s;refine⟨_,?_,rfl⟩;have cT:a.eval x=.pointer (some ⟨p,0,none⟩):=h;simp[execOp,Instr.makeFunc,cT,Hq]
def aid{f p:Nat}{α β γ δ:Type}[ah α][ah β][ah γ][ah δ]{z:δ}{F:α->β->aw γ}{P:Program}(cf:bD P f)(h:∀x y r,F x y=some r->cm P f [.ptr z,.of x,.of y] (.of r)){A:aa Nat}{W:bf}
 (hp:(J.ptr z).holds A W (.pointer (some ⟨p,0,none⟩))):(J.AE P F).holds A W (Hq f p):=
 ⟨f,_,#[],rfl,cf,λcE W' e ev x y r oe tM lO ba AT=>by simpa using h x y r lO cE W' [_,oe,tM] ev (.cons (J.mono _ e hp) (.cons ba (.cons AT .nil)))⟩
def bc.alb{o:Oper}{τ σ:J}{p:Nat}{α:Type}[ah α]{z:α}(i gn:Nat)(ao:look E gn=some σ)(ba:∀A W v,σ.holds A W v->v=.pointer (some ⟨p,0,none⟩))(av:L[i]? =some ⟨some p,.var z⟩)(aY:τ.Flat)
 (h:bc c ((gn,.ptr z)::E) (L.set i ⟨none,.dead⟩) o τ):bc c E L o τ:=
 .via aY (λa W s=>(s.kill i).tell (σ:=σ) ao (λv b2=>by rw[ba _ _ _ b2];exact s.YU av)) h
def bc.ai0{o:Oper}{τ:J}{p f:Nat}{α β γ δ:Type}[ah α][ah β][ah γ][ah δ]{z:δ}{F:α->β->aw γ}(i gn:Nat)(ao:look E gn=some (.eq (Hq f p)))(av:L[i]? =some ⟨some p,.var z⟩)(cf:bD c.P f)
 (lO:∀x y r,F x y=some r->cm c.P f [.ptr z,.of x,.of y] (.of r)) (aY:τ.Flat) (h:bc c ((gn,.AE c.P F)::E) (L.set i ⟨none,.dead⟩) o τ):bc c E L o τ:=
 .via aY (λa W s=>(s.kill i).tell ao (λv b2=>by have aqh:v=Hq f p:=b2;rw[aqh];exact aid cf lO (s.YU av))) h
def bc.ala{o:Oper}{τ:J}{p cap T:Nat}{key:aw Nat}{β γ:Type}[ah β][ah γ]{b b':β}{xs:aa γ}{os os':aa (Nat×bl)}(l:aN β (aa γ))(i j q:Nat)(hI:Nat.beq i j=false)(av:L[i]? =some ⟨some p,.cq b os⟩)(sA:L[j]? =some ⟨key,.row T xs cap⟩)
 (hq:os[q]? =some (l.off,aO key xs.length cap)) (hb:l.set b xs=b') (rA:uo os l.off=os') (aY:τ.Flat) (h:bc c E ((L.set j ⟨none,.dead⟩).set i ⟨some p,.cq b' os'⟩) o τ):bc c E L o τ:=
 .via aY (λa W s=>s.mN l (λe=>by rw[e,ng]at hI;cases hI) av sA q hq hb rA) h
def bc.aiZ{o:Oper}{τ:J}{p cap T:Nat}{key:aw Nat}{β γ:Type}[ah β][ah γ]{b b':β}{xs:aa γ}{os os':aa (Nat×bl)}(l:aN β (aa γ))(i j q gn:Nat)(hI:Nat.beq i j=false)(av:L[i]? =some ⟨some p,.cq b os⟩)(sA:L[j]? =some ⟨key,.row T xs cap⟩)
 (hq:os[q]? =some (l.off,aO key xs.length cap)) (hb:l.set b xs=b') (rA:uo os l.off=os') (pf:look E gn=some (.eq (aO key xs.length cap))) (aY:τ.Flat) (h:bc c ((gn,.of xs)::E) ((L.set j ⟨none,.dead⟩).set i ⟨some p,.cq b' os'⟩) o τ):bc c E L o τ:=
 .via aY (λa W s=>s.K9 l (λe=>by rw[e,ng]at hI;cases hI) av sA q hq hb rA pf) h
def bc.YD{o:Oper}{τ:J}{p:Nat}{β:Type}[ah β]{b:β}(i:Nat)(av:L[i]? =some ⟨some p,.cq b []⟩)(aY:τ.Flat)(h:bc c E (L.set i ⟨some p,.var b⟩) o τ):bc c E L o τ:=
 .via aY (λa W s=>s.Cu (cp':=.var b) av (λo ⟨cs,T,h1,ad⟩=>⟨cs,T,h1,ad.1⟩) id) h
def OT{P:Program}{T:bx}{e:bx}(h:P.underlying T=some (.pointer e))(p:Addr)(W:bf)(n:Nat):(Op.equalIn (n+1) T (.pointer (some p)) (.pointer none)).run P W=.ok false W:=by
 simp[Op.equalIn,dL h]
def KC{p:Addr}{e:bx}(hu:c.P.underlying t=some (.pointer e))(al:aP c E L x (.eq (.pointer (some p)))):bc c E L ⟨d,.binOp .eql t x (.const (.pointer none)) t2,ty,pos,af,g⟩ (.of false):=.pure λa W s=>by
 have aI:a.eval (.const (.pointer none))=.pointer none:=rfl;have h1:a.eval x=.pointer (some p):=al a W s;refine⟨.bool false,?_,of_bool.2 I⟩;simp only[execOp,eqGuard,binOp,h1,aI,Op.equal,Op.maxDepth];simp[OT hu p W 9999]
def ahH{γ:Type}[ah γ]{r:γ}{e:bx}(hu:c.P.underlying t=some (.pointer e))(al:aP c E L x (.ptr r)):bc c E L ⟨d,.binOp .eql t x (.const (.pointer none)) t2,ty,pos,af,g⟩ (.of false):=.pure λa W s=>by
 have aI:a.eval (.const (.pointer none))=.pointer none:=rfl;obtain⟨b,off,cur,T,iT,h1,_⟩:=al a W s;refine⟨.bool false,?_,of_bool.2 I⟩;simp only[execOp,eqGuard,binOp,h1,aI,Op.equal,Op.maxDepth];simp[OT hu _ W 9999]
def fa(c:cj)(E:aa (Nat×J))(L:aa aE)(o:Oper)(τ:J):Prop:=
 ∀a W,bG c E L a W->gJ c.P o a W λv W'=>bG c E L a W'∧τ.holds (ks L++c.bP) W' v
def ae.hA{o:Oper}{rest:aa Oper}{d:Nat}{τ:J}(h:fa c E L o τ)(bF:o.guard=none)(hd:o.dst=some d)(aI:Nat.blt d c.n=true)
 (k:ae c ops Q rest ((d,τ)::E) L):ae c ops Q (o::rest) E L:=λa W s=>
 iw bF (h a W s) λv W' ⟨f,ba⟩=>by
  rw[hd];exact k _ _ (f.put (by simpa using aI) ba)
def ae.SV{o:Oper}{rest:aa Oper}{d j g:Nat}{b want:Bool}{τ:J}(h:b=want->fa c E L o τ)(bF:o.guard=some (j,want))(aC:(ops[j]?).bind (·.dst)=some g)
 (ao:look E g=some (.of b)) (hd:o.dst=some d) (aI:Nat.blt d c.n=true)
 (k:ae c ops Q rest ((d,.cond (b=want) τ)::E) L):ae c ops Q (o::rest) E L:=λa W s=>by
 have hy:=JW aC ao s
 unfold cj.tt wpListIn
 by_cases hb:b=want
 ·rw[br (by simp[Region.wanted,bF,hy,hb])]
  refine((h hb a W s).wpIn λv W' ⟨f,ba⟩=>?_)
  rw[hd]
  exact k _ _ (f.put (by simpa using aI) ⟨λ_=>ba,λh=>absurd hb h⟩)
 rw[bn (by simp[Region.wanted,bF,hy,hb])]
 rw[hd]
 exact⟨λ_ _=>trivial,k _ _ (s.put (by simpa using aI) ⟨λh=>absurd h hb,λ_=>rfl⟩)⟩
def sk(L:aa aE):aa Nat->aa aE->Prop
 |[],[]=>True
 |i::is,e::es=>L[i]? =some e∧sk L is es
 |_,_=>False
def Vd{L:aa aE}{i j:Nat}(h:i≠j):(L.eraseIdx i)[if j<i then j else j-1]? =L[j]? :=by
 rw[TE];by_cases h1:j<i
 ·simp[h1]
 have: ¬(j-1<i):=by omega
 simp only[h1,ot,this];congr 1;omega
def sk.shift{L:aa aE}{i:Nat}:∀{is:aa Nat} {es:aa aE},sk L is es->i∉is->sk (L.eraseIdx i) (is.map λj=>if j<i then j else j-1) es
 |[],[],_,_=>trivial
 | j::is,e::es,⟨h1,ad⟩,aI=>by
   simp only[dO,zr]at aI;exact⟨by rw[Vd aI.1];exact h1,sk.shift ad aI.2⟩
def Vi{i:Nat}:∀{is:aa Nat},is.Nodup->i∉is->(is.map λj=>if j<i then j else j-1).Nodup
 |[],_,_=>by simp
 | j::is,h,aI=>by
   simp only[dO,zr]at aI;obtain⟨h1,ad⟩:=lQ.1 h;refine lQ.2 ⟨λhm=>?_,Vi ad aI.2⟩;obtain⟨k,hk,he⟩:=gY.1 hm;have yp:k≠i:=λe=>aI.2 (e▸hk);have asx:k≠j:=λe=>h1 (e▸hk);have lg:j≠i:=λe=>aI.1 e.symm;have L9:(if k<i then k else k-1)=(if j<i then j else j-1):=he;split at L9 <;> split at L9 <;> omega
def sk.perm:∀{is:aa Nat} {es L:aa aE},sk L is es->is.Nodup->∃R,L.Perm (es++R)
 |[],[],L,_,_=>⟨L,IW _⟩
 | i::is,e::es,L,⟨h1,ad⟩,aI=>by
   obtain⟨nF,sr⟩:=lQ.1 aI;obtain⟨R,kp⟩:=(ad.shift nF).perm (Vi sr nF);exact⟨R,(xn h1).trans (kp.cons e)⟩
 termination_by is=>is.length
 decreasing_by simp
def fa.call{f:FuncId}{xs:aa bZ}{ats:Array bx}{τs:aa J}{Lin:aa aE}{ρ:Unit->J}{Lo:Unit->aa aE}(is:aa Nat)(cf:bD c.P f)(h:bR c.P f τs Lin ρ Lo)
 (al:ic c E L xs τs) (aI:decide is.Nodup=true) (hp:sk L is Lin) (ao:Lo ()=Lin):fa c E L ⟨d,.call ⟨.value (.func f),xs.toArray,ats⟩,ty,pos,af,g⟩ (ρ ()):=λa W s=>by
 obtain⟨R,kp⟩:=hp.perm (w8 aI)
 have b0:=s.perm kp
 have qR:=zI kp
 have Mk:∀k,k∈ks L++c.bP↔k∈ks (Lin++R)++c.bP:=λk=>by
  simp only[ca];rw[qR.mem_iff]
 have b2:gG (ks (Lin++R)++c.bP) W τs (xs.map a.eval):=(al.XF s).mono (.drop λk hm=>(Mk k).2 hm)
 have aU:=Fx (d:=d) (ty:=ty) (pos:=pos) (af:=af) (g:=g) (ats:=ats) cf h b0 b2
 unfold gJ at aU⊢
 refine vq (λhL W' ⟨v,h1,a1,ad,ay⟩=>⟨v,h1,?_,?_⟩) aU
 ·cases a1;rw[ao]at ad;exact ad.perm kp.symm
 cases a1
 rw[ao]at ay
 exact J.mono _ (.drop λk hm=>(Mk k).1 hm) ay
def sk.set{L:aa aE}{i j:Nat}{x y au aW:aE}(hI:i≠j)(ax:L[i]? =some au)(aC:L[j]? =some aW):∃R,L.Perm (au::aW::R)∧((L.set i x).set j y).Perm (x::y::R):=by
 have RW:sk L [i,j] [au,aW]:=⟨ax,aC,trivial⟩;have hle:∀M:aa aE,∀u v:aE,M[i]? =some u->M[j]? =some v->M.Perm (u::v::(M.eraseIdx i).eraseIdx (if j<i then j else j-1)):=λM u v h1 ad=>
  (xn h1).trans ((xn (by rw[Vd hI];exact ad)).cons u)
 refine⟨_,hle L au aW ax aC,?_⟩;have hv:=(fL.1 ax).1;have wD:=(fL.1 aC).1;have h1:=hle ((L.set i x).set j y) x y (by rw[w3 (zp hI),Bn hv]) (by rw[Bn (by simpa using wD)]);have ad:((L.set i x).set j y).eraseIdx i=(L.eraseIdx i).set (if j<i then j else j-1) y:=by
  apply l9;intro k;simp only[TE,oP,vk,List.length_eraseIdx,hv,mc];by_cases hk:k<i <;> by_cases lg:j<i <;> simp only[hk,lg,mc,ot] <;> (repeat' split) <;> first|rfl|omega|skip
 rw[ad,M6]at h1;exact h1
def ae.ai1{rest:aa Oper}{a1:Nat}{f:FuncId}{xs:aa bZ}{ats:Array bx}{τs:aa J}{au aW:aE}{δ:Type}{ρ:δ->J}{Lo:δ->aa aE}(lo:δ->aE)(i j:Nat)(cf:bD c.P f)(h:bR c.P f τs [au,aW] ρ Lo)
 (al:ic c E L xs τs) (hI:Nat.beq i j=false) (ax:L[i]? =some au) (aC:L[j]? =some aW) (jv:∀q,Lo q=[lo q]) (aI:Nat.blt a1 c.n=true) (k:∀q,ae c ops Q rest ((a1,ρ q)::E) ((L.set i (lo q)).set j ⟨none,.dead⟩)):
 ae c ops Q (⟨some a1,.call ⟨.value (.func f),xs.toArray,ats⟩,ty,pos,af,none⟩::rest) E L:=λa W s=>by
 have cX:i≠j:=λe=>by rw[e,ng]at hI;cases hI
 obtain⟨R,kp,_⟩:=sk.set (x:=au) (y:=aW) cX ax aC
 have b0:=s.perm kp
 have qR:=zI kp
 have Mk:∀k,k∈ks L++c.bP↔k∈ks ([au,aW]++R)++c.bP:=λk=>by
  simp only[ca];rw[qR.mem_iff];simp[eg]
 have b2:gG (ks ([au,aW]++R)++c.bP) W τs (xs.map a.eval):=(al.XF s).mono (.drop λk hm=>(Mk k).2 hm)
 refine iw I (Fx (Lin:=[au,aW]) cf h b0 b2) λv W' ⟨q,ad,ay⟩=>?_
 refine k q _ _ ?_
 obtain⟨MB,RO,L0⟩:=sk.set (x:=lo q) (y:=⟨none,.dead⟩) cX ax aC
 have aqi:(au::aW::R).Perm (au::aW::MB):=kp.symm.trans RO
 have aad:R.Perm MB:=(aqi.cons_inv).cons_inv
 rw[jv]at ad ay
 have aR:bG c E (lo q::⟨none,.dead⟩::R) a W':= {ad with
  own:=λe he=>by
   simp only[dO]at he;rcases he with rfl|rfl|he
   ·exact ad.own _ (by simp)
   ·trivial
   exact ad.own _ (by simp[he])}
 have aX:bG c E ((L.set i (lo q)).set j ⟨none,.dead⟩) a W':=aR.perm (((aad.cons _).cons _).trans L0.symm)
 have bh:(ks ((L.set i (lo q)).set j ⟨none,.dead⟩)).Perm (ks (lo q::R)):=by
  have:=zI (L0.trans ((aad.symm.cons _).cons _));simpa[ks]using this
 refine aX.put (by simpa using aI) (J.mono _ (.drop λk hm=>?_) ay)
 rcases ca.1 hm with hm|hm
 ·exact ca.2 (.inl (bh.mem_iff.1 hm))
 exact ca.2 (.inr hm)
def RN{L:aa aE}{i:Nat}{x e:aE}(h:L[i]? =some x):(L.set i e)[i]? =some e:=by
 rw[Bn (fL.1 h).1]
def aaZ{L:aa aE}{i j:Nat}{r:aw aE}{e:aE}(aI:Nat.beq j i=false)(h:L[i]? =r):(L.set j e)[i]? =r:=by
 rw[w3 (λe=>by rw[e,ng]at aI;cases aI)];exact h
def ag5{p lo cap:Nat}{α:Type}[ah α](hy:aP c E L y (.eq (hE (some p) lo 0 cap (ah.size α)))):Src c E L y 0 ([]:aa α):=λa W s=>by
 have h1:a.eval y=_:=hy a W s;have ak:=Ix (P:=c.P) W (if cap=lo then(⟨p,0,none⟩:Addr)else⟨p,lo*ah.size α,none⟩) [] (λj v ba=>by simp at ba);refine⟨by rw[h1];rfl,[],?_,⟨by simp,λi ax=>by simp at ax⟩,by simp⟩;rw[h1];simp only[hE,Builtin.firstCells,List.length_nil,zg];exact ak
def ae.YV{rest:aa Oper}{i e p a1 m N cap T:Nat}{α:Type}[ah α]{xs vs r:aa α}(hu:c.P.underlying t=some (.slice e))(ez:bK c.P e α)
 (al:aP c E L x (.eq (aO (some p) m cap))) (hy:Src c E L y N vs) (jx:vs.length=N) (av:L[i]? =some ⟨some p,.row T xs cap⟩) (hm:m+N<=xs.length) (aD:xs.take m++vs++xs.drop (m+N)=r) (aI:Nat.blt a1 c.n=true)
 (k:ae c ops Q rest ((a1,.eq (aO (some p) (m+N) cap))::E) (L.set i ⟨some p,.row T r cap⟩)):
 ae c ops Q (⟨some a1,.call ⟨.builtin .append,#[x,y],#[t,t]⟩,ty,pos,af,none⟩::rest) E L:=λa W s=>by
 subst jx
 subst aD
 have h1:a.eval x=_:=al a W s
 obtain⟨ao,cells,ak,kO,Dm⟩:=hy a W s
 obtain⟨o,aU,b2⟩:=s.own _ (eo av)
 have aqj:=b2
 obtain⟨u1,rfl,g1,g2,g3,g4⟩:=b2
 obtain⟨cs,eS,LD,si⟩:=Pf (lo:=m) hm aqj kO
 have tx:cs=u1:=by injection eS with h _;exact h.symm
 subst tx
 obtain⟨gD,dX,dK⟩:=ez.info
 have cD:=Ej (P:=c.P) p (m*ah.size α) T cells 0 cs W aU LD Dm
 simp only[Nat.add_zero]at cD
 have alO:m+vs.length<=cap:=by omega
 have jt:(execOp a.eval ⟨some a1,.call ⟨.builtin .append,#[x,y],#[t,t]⟩,ty,pos,af,none⟩).run c.P W=.ok (.value (aO (some p) (m+vs.length) cap)) (W.setRow p (cs.toList.take (m*ah.size α)++cells++cs.toList.drop (m*ah.size α+cells.length)).toArray):=by
  simp[execOp,resolve,invoke,builtin,Builtin.append_,h1,aO,dL hu,ao,Go.sizeOf,typeInfo,dX,dK,alO,ak,kI,cD]
 refine iw I (R:=λv h5=>v=aO (some p) (m+vs.length) cap∧h5=W.setRow p (cs.toList.take (m*ah.size α)++cells++cs.toList.drop (m*ah.size α+cells.length)).toArray) (.mK jt ⟨rfl,rfl⟩) λv h5 ⟨ba,hw⟩=>?_
 subst ba
 subst hw
 exact k _ _ ((s.store av aU si).put (by simpa using aI) I)
def agR{i T cap:Nat}{key:aw Nat}{α:Type}[ah α]{xs:aa α}{e:bx}{lo ax S6:bZ}{m n k:Nat}(hu:c.P.underlying t=some (.slice e))(ez:bK c.P e α)(al:aP c E L x (.eq (aO key xs.length cap)))
 (av:L[i]? =some ⟨key,.row T xs cap⟩) (jv:aP c E L lo (.of (m:Int))) (eY:aP c E L ax (.of (n:Int))) (aqk:aP c E L S6 (.of (k:Int))) (h:m<=n∧n<=k∧k<=xs.length):
 bc c E L ⟨d,.slice t x (some lo) (some ax) (some S6),ty,pos,af,g⟩ .any:=.pure λa W s=>by
 obtain⟨ad,ay,aR⟩:=h
 obtain⟨gD,dX,dK⟩:=ez.info
 have h1:a.eval x=_:=al a W s
 have au:=of_int.1 (jv a W s)
 have aW:=of_int.1 (eY a W s)
 have cF:=of_int.1 (aqk a W s)
 have xX:∃arB wR,aO key xs.length cap=.slice arB wR cap∨(aO key xs.length cap=.slice none 0 0∧k=0):=by
  cases key with
  |some p=>exact⟨_,_,.inl I⟩
  | none=>
    have aU:=s.own _ (eo av)
    have iE:xs=[]:=aU.1
    subst iE
    exact⟨none,0,.inr ⟨rfl,by simpa using aR⟩⟩
 have aql:xs.length<=cap∨key=none:=by
  cases key with
  |none=>exact .inr I
  | some p=>
    obtain⟨o,aU,cs,rfl,g1,g2,_⟩:=s.own _ (eo av)
    exact .inl g2
 cases key with
 | none=>
   have aU:=s.own _ (eo av)
   have iE:xs=[]:=aU.1
   subst iE
   have aqm:k=0:=by simpa using aR
   subst aqm
   have uX:n=0:=by omega
   subst uX
   have hZ:m=0:=by omega
   subst hZ
   have hb:∀(code:BoundsCode),(Instr.sliceBound (.int .i64 0) 0 code).run c.P W=.ok 0 W:=λcode=>rS (n:=0) (m:=0) (iu _) I
   have aqn:a.eval lo=.int .i64 0:=au
   have aqo:a.eval ax=.int .i64 0:=aW
   have aqp:a.eval S6=.int .i64 0:=cF
   refine⟨.slice none 0 0,?_,trivial⟩
   simp[execOp,Instr.sliceAt,Instr.slice,Instr.sliceBounds,h1,aO,dL hu,Go.sizeOf,typeInfo,dX,aqn,aqo,aqp,hb]
 | some p=>
   have aor:k<=cap:=by
    rcases aql with h|h
    ·omega
    cases h
   refine⟨.slice (some (if k=m then⟨p,0,none⟩else⟨p,m*ah.size α,none⟩)) (n-m) (k-m),?_,trivial⟩
   have hb:∀(a b:Nat) (code:BoundsCode),a<=b->(Instr.sliceBound (.int .i64 (a:Int)) b code).run c.P W=.ok a W:=λa b code h=>rS h I
   simp[execOp,Instr.sliceAt,Instr.slice,Instr.sliceBounds,h1,aO,dL hu,Go.sizeOf,typeInfo,dX,dK,au,aW,cF,hb k cap _ aor,hb n k _ ay,hb m n _ ad,kI]
   split <;> rfl
def aiW{p n cap e:Nat}(hu:c.P.underlying t=some (.slice e))(al:aP c E L x (.eq (aO (some p) n cap))):bc c E L ⟨d,.call ⟨.builtin .len,#[x],#[t]⟩,ty,pos,af,g⟩ (.of (n:Int)):=.pure λa W s=>by
 have h1:a.eval x=_:=al a W s;refine⟨.int .i64 n,?_,of_int.2 I⟩;simp[execOp,resolve,invoke,builtin,Builtin.len_,h1,aO,dL hu,goInt]
def ae.aiV{rest:aa Oper}{i e p a1 m n cap T:Nat}{α:Type}[ah α]{xs:aa α}(hu:c.P.underlying t=some (.slice e))(ez:bK c.P e α)
 (al:aP c E L x (.eq (hE (some p) 0 (m-0) cap (ah.size α)))) (hy:aP c E L y (.eq (hE (some p) n (xs.length-n) cap (ah.size α)))) (av:L[i]? =some ⟨some p,.row T xs cap⟩) (wj:m<n) (aI:n<=xs.length) (hd:Nat.blt a1 c.n=true)
 (k:ae c ops Q rest ((a1,.eq (aO (some p) (m+(xs.length-n)) cap))::E) (L.set i ⟨some p,.row T (xs.take m++xs.drop n++xs.drop (m+(xs.length-n))) cap⟩)):
 ae c ops Q (⟨some a1,.call ⟨.builtin .append,#[x,y],#[t,t]⟩,ty,pos,af,none⟩::rest) E L:=by
 have mW:aP c E L x (.eq (aO (some p) m cap)):=by
  rw[zy,Nat.sub_zero]at al;exact al
 rcases sN n xs.length with uZ|uZ
 ·have hs:=Kl (k:=xs.length-n) hy av (by omega) (by omega)
  rw[show(xs.drop n).take (xs.length-n)=xs.drop n by rw[sF (by simp)]]at hs
  exact ae.YV hu ez mW hs (by simp) av (by omega) I hd k
 have bu:xs.length-n=0:=by omega
 rw[bu]at hy k
 have hs:=ag5 (α:=α) hy
 rw[show([]:aa α)=xs.drop n by rw[DX uZ]]at hs
 exact ae.YV hu ez mW hs (by simp;omega) av (by omega) I hd k
def ar.again{z:Exit}{key:aw Nat}{cp:dr}(cp':dr)(i:Nat)(av:L[i]? =some ⟨key,cp⟩)(h:∀A W o,cp.holds A W o->cp'.holds A W o)(aI:cp.nX->cp'.nX)(k:ar c Q z E (L.set i ⟨key,cp'⟩)):ar c Q z E L:=λa W s=>
 k a W (s.again av h aI)
end
def Gy{α:Type}(xs:aa α)(i j:Int):aw (aa α):=if 0<=i∧i<=j∧j<=xs.length then some (xs.take i.toNat++xs.drop j.toNat)else none
def af4{α:Type}{xs r:aa α}{i j:Int}(h:Gy xs i j=some r):∃m n:Nat,i=m∧j=n∧m<=n∧n<=xs.length∧r=xs.take m++xs.drop n:=by
 unfold Gy at h;split at h
 ·rename_i ak;refine⟨i.toNat,j.toNat,by omega,by omega,by omega,by omega,?_⟩;cases h;rfl
 cases h
abbrev ai(α:Type):=(α->Prop)->Prop
def ai.of{α:Type}(o:aw α):ai α:=λQ=> ∃r,o=some r∧Q r
def ai.bind{α β:Type}(m:ai α)(k:α->ai β):ai β:=λQ=>m λr=>k r Q
def ai.ret{α:Type}(x:α):ai α:=λQ=>Q x
def nV{σ ε:Type}:Nat->(σ->ai (σ⊕ε))->σ->ai ε
 |0,_,_=>λ_=>False
 | n+1,b,s=>λQ=>b s λr=>match r with
   | .inl b0=>nV n b b0 Q
   | .inr e=>Q e
abbrev aH(bC:Type):=aa (Nat×bC)
abbrev Ref:=aw Nat
instance:ah Ref:=.scalar (λx=>Value.pointer (x.map λp=>⟨p,0,none⟩)) λ_=>rfl
def xH{A W v}{x:Ref}:(J.of x).holds A W v↔v=.pointer (x.map λp=>⟨p,0,none⟩):=
 ⟨λh=>ov h.1 h.2,λh=>by subst h;exact⟨rfl,rfl⟩⟩
instance:aT Ref:=⟨[.pointer none],λ_ _=>rfl⟩
def ai.mk{bC:Type}(hp:aH bC)(k:bC):ai (Nat×aH bC):=λQ=> ∀a:Nat×aH bC,a.1∉hp.map (·.1)∧a.2=(a.1,k)::hp->Q a
def ai.pz{bC α:Type}{hp:aH bC}{c:bC}{k:Nat×aH bC->ai α}{R:α->Prop}(h:ai.bind (ai.mk hp c) k R)(a:Nat×aH bC)(a7:a.1∉hp.map (·.1)∧a.2=(a.1,c)::hp):k a R:=h a a7
class dN (bC:Type)where
 gk:Nat->bC->aa aE
 root:∀p k,∃e∈gk p k,e.key=some p
def a6{bC:Type}[dN bC]:aH bC->aa aE
 |[]=>[]
 |(p,k)::r=>dN.gk p k++a6 r
def pat{bC:Type}:aH bC->Nat->aw bC
 |[],_=>none
 |(q,k)::r,p=>if q=p then some k else pat r p
def cr{bC:Type}:aH bC->Nat->bC->aH bC
 |[],_,_=>[]
 |(q,k)::r,p,k'=>if q=p then(q,k')::r else(q,k)::cr r p k'
def dB{bC:Type}(hp:aH bC):aa Nat:=hp.map (·.1)
def vw{bC:Type}[dN bC]:∀{hp:aH bC} {p:Nat} {k:bC},pat hp p=some k->∃R,(a6 hp).Perm (dN.gk p k++R)∧∀k',(a6 (cr hp p k')).Perm (dN.gk p k'++R)
 |[],_,_,h=>by simp[pat]at h
 | (q,wU)::r,p,k,h=>by
   simp only[pat]at h;split at h
   ·rename_i e;subst e;simp only[fi]at h;subst h;exact⟨a6 r,.refl _,λk'=>by simp only[cr,br];exact .refl _⟩
   rename_i e;obtain⟨R,h1,ad⟩:=vw h;refine⟨dN.gk q wU++R,?_,λk'=>?_⟩
   ·exact(h1.append_left (dN.gk q wU)).trans (by rw[<-jn,<-jn];exact nc.append_right R)
   simp only[cr,bn e];exact((ad k').append_left (dN.gk q wU)).trans (by rw[<-jn,<-jn];exact nc.append_right R)
def XG{bC:Type}[dN bC]{hp:aH bC}{p:Nat}(h:p∈dB hp):p∈ks (a6 hp):=by
 induction hp with
 |nil=>simp[dB]at h
 | cons x r bJ=>
   obtain⟨q,k⟩:=x
   simp only[dB,mb,dO]at h
   simp only[a6,eg,ca]
   rcases h with h|h
   ·subst h
    obtain⟨e,he,hk⟩:=dN.root p k
    exact .inl (nq.2 ⟨e,he,hk⟩)
   exact .inr (bJ h)
def jG{bC:Type}{hp:aH bC}{p:Nat}{k:bC}(h:pat hp p=some k):p∈dB hp:=by
 induction hp with
 |nil=>simp[pat]at h
 | cons x r bJ=>
   simp only[pat]at h
   split at h
   ·rename_i e;simp[dB,e]
   simp only[dB,mb,dO];exact .inr (bJ h)
def rb{bC:Type}{hp:aH bC}{p:Nat}{k:bC}:dB (cr hp p k)=dB hp:=by
 induction hp with
 |nil=>rfl
 |cons x r bJ=>simp only[cr];split <;> simp_all [dB]
def FM{bC:Type}{hp:aH bC}{p q:Nat}{k:bC}:pat (cr hp p k) q=if p=q then(pat hp p).map (λ_=>k)else pat hp q:=by
 induction hp with
 |nil=>simp[cr,pat]
 | cons x r bJ=>
   simp only[cr]
   by_cases e:x.1=p
   ·rw[br e]
    by_cases h:p=q
    ·simp[pat,e,h]
    have: ¬x.1=q:=λcT=>h (e▸cT)
    simp[pat,e,h]
   rw[bn e]
   by_cases h:p=q
   ·subst h
    rw[br I]at bJ⊢
    simp[pat,e,bJ]
   rw[bn h]at bJ⊢
   simp[pat,bJ]
section
variable{c:cj}{E:aa (Nat×J)}{L:aa aE}{ops:Array Oper}{Q:Exit->Act->bf->Prop}
variable{d:aw Tmp}{ty:bx}{pos:String}{af:Array Edge}{g:aw (Nat×Bool)}{x y:bZ}{t t2:bx}
def ag6{L L':aa aE}(p:L.Perm L'){A:aa Nat}(k:Nat):k∈ks L++A↔k∈ks L'++A:=by
 simp only[ca];rw[(zI p).mem_iff]
def oW{L L':aa aE}(p:L.Perm L'){A:aa Nat}{W:bf}:Ext (ks L++A) W (ks L'++A) W:=.drop λk hm=>(ag6 p k).2 hm
def aP.perm{L':aa aE}{x:bZ}{τ:J}(p:L.Perm L')(h:aP c E L x τ):aP c E L' x τ:=λa W s=>
 τ.mono (oW p) (h a W (s.perm p.symm))
def ae.perm{l:aa Oper}{L':aa aE}(p:L.Perm L')(h:ae c ops Q l E L):ae c ops Q l E L':=λa W s=>h a W (s.perm p.symm)
def jq{x:bZ}{r:Ref}{p:Nat}(al:aP c E L x (.of r))(h:r=some p):aP c E L x (.eq (.pointer (some ⟨p,0,none⟩))):=λa W s=>by
 subst h;exact xH.1 (al a W s)
def ou:aP c E L (.const (.pointer none)) (.of (none:Ref)):=λa W s=>xH.2 I
variable{bC:Type}[dN bC]{hp:aH bC}{loc:aa aE}
def jc{p n:Nat}{k:bC}{e:aE}(av:L.drop n=a6 hp)(h:pat hp p=some k)(hk:dN.gk p k=[e]):e∈L:=by
 obtain⟨R,h1,_⟩:=vw h;rw[hk]at h1;have:e∈L.drop n:=by rw[av];exact h1.mem_iff.2 (by simp)
 exact Bs this
def o8{L':aa aE}{e:aE}(av:∀(i:Nat) (e:aE),L[i]? =some e->L'[i]? =some e)(h:e∈L):e∈L':=by
 obtain⟨i,ax⟩:=l8.1 h;exact eo (av i e ax)
def oX{x:bZ}{t:bx}{p o:Nat}{β γ:Type}[ah β][ah γ]{b:β}(l:aN β γ){r:γ}(dQ:bK c.P t γ)(al:aP c E L x (.eq (.pointer (some ⟨p,o,none⟩))))
 (hm:(⟨some p,.var b⟩:aE)∈L) (aU:o=l.off) (aD:l.get b=r):bc c E L ⟨d,.load t x,ty,pos,af,g⟩ (.of r):=by
 obtain⟨i,ax⟩:=l8.1 hm
 exact gA (i:=i) l dQ al ax aU aD
def ae.aie{x y:bZ}{t:bx}{rest:aa Oper}{p o:Nat}{k k':bC}{β γ:Type}[ah β][ah γ]{b b':β}{v:γ}(l:aN β γ)(dQ:bK c.P t γ)(al:aP c E (loc++a6 hp) x (.eq (.pointer (some ⟨p,o,none⟩))))
 (hy:aP c E (loc++a6 hp) y (.of v)) (hp':pat hp p=some k) (hk:dN.gk p k=[⟨some p,.var b⟩]) (k9:dN.gk p k'=[⟨some p,.var b'⟩]) (aU:o=l.off) (hb:l.set b v=b')
 (na:ae c ops Q rest E (loc++a6 (cr hp p k'))):ae c ops Q (⟨none,.store t x y,ty,pos,af,none⟩::rest) E (loc++a6 hp):=by
 obtain⟨R,h1,ad⟩:=vw hp'
 have ad:=ad k'
 rw[hk]at h1
 rw[k9]at ad
 have cC:∀{z:β} {M:aa aE},M.Perm ([⟨some p,.var z⟩]++R)->(loc++M).Perm (⟨some p,.var z⟩::(loc++R)):=λh=>(h.append_left loc).trans (by simp only[List.singleton_append];exact q5)
 exact ae.perm (cC h1).symm (ae.store (i:=0) l dQ (al.perm (cC h1)) (hy.perm (cC h1)) I aU hb (ae.perm (cC ad) na))
def ae.pD{x y:bZ}{t:bx}{rest:aa Oper}{p o:Nat}{k k':bC}{cN:aH bC}{β γ:Type}[ah β][ah γ]{b b':β}{v:γ}(n:Nat)(av:L.drop n=a6 hp)(l:aN β γ)(dQ:bK c.P t γ)(al:aP c E L x (.eq (.pointer (some ⟨p,o,none⟩))))(hy:aP c E L y (.of v))(hp':pat hp p=some k)(hk:dN.gk p k=[⟨some p,.var b⟩])(k9:dN.gk p k'=[⟨some p,.var b'⟩])(aU:o=l.off)(hb:l.set b v=b')(cy:cr hp p k'=cN)(na:ae c ops Q rest E (L.take n++a6 cN)):ae c ops Q (⟨none,.store t x y,ty,pos,af,none⟩::rest) E L:=by
 subst cy;have e:L=L.take n++a6 hp:=by rw[<-av,gb]
 clear av;generalize L.take n=loc at *;subst e;exact ae.aie l dQ al hy hp' hk k9 aU hb na
def bG.fresh{a:Act}{W:bf}(s:bG c E (loc++a6 hp) a W):W.heap.size∉dB hp:=λh=>by
 have:=s.lt _ (by rw[eg];exact ca.2 (.inr (XG h)));omega
def ae.alP{t:bx}{x:bZ}{rest:aa Oper}{a1:Nat}{α:Type}[ah α]{z:α}(mk:bC)(hk:∀p,dN.gk p mk=[⟨some p,.var z⟩])(al:aP c E (loc++a6 hp) x (.of z))(aI:Nat.blt a1 c.n=true)
 (k:∀p,p∉dB hp->ae c ops Q rest ((a1,.of (some p:Ref))::E) (loc++a6 ((p,mk)::hp))):ae c ops Q (⟨some a1,.box t x,ty,pos,af,none⟩::rest) E (loc++a6 hp):=λa W s=>by
 refine iw I (R:=λv W'=>v=.pointer (some ⟨W.heap.size,0,none⟩)∧W'=W.alloc (.cells (a.eval x).cells t)) (.mK ?_ ⟨rfl,rfl⟩) λv W' ⟨ba,hw⟩=>?_
 ·simp[execOp,Instr.box,newVar,newRow]
 subst ba
 subst hw
 refine k _ s.fresh _ _ (bG.put ?_ (by simpa using aI) (xH.2 I))
 refine(s.alloc (cp:=.var z) ⟨_,t,rfl,(al a W s).2⟩).perm ?_
 simp only[a6,hk,List.singleton_append]
 exact q5.symm
def ae.xT{t:bx}{x:bZ}{rest:aa Oper}{a1:Nat}{α:Type}[ah α]{z:α}(n:Nat)(av:L.drop n=a6 hp)(mk:bC)(hk:∀p,dN.gk p mk=[⟨some p,.var z⟩])(al:aP c E L x (.of z))(aI:Nat.blt a1 c.n=true)(k:∀a:Nat×aH bC,a.1∉hp.map (·.1)∧a.2=(a.1,mk)::hp->ae c ops Q rest ((a1,.of (some a.1:Ref))::E) (L.take n++a6 a.2)):ae c ops Q (⟨some a1,.box t x,ty,pos,af,none⟩::rest) E L:=by
 have e:L=L.take n++a6 hp:=by rw[<-av,gb]
 clear av;generalize L.take n=loc at *;subst e;exact ae.alP mk hk al aI λp h=>k (p,(p,mk)::hp) ⟨h,rfl⟩
def mG{A B C:aa aE}:((A++B)++C).Perm ((A++C)++B):=by
 rw[jn,jn];exact nc.append_left A
def ae.iA{rest:aa Oper}{a1:Nat}{f:FuncId}{xs:aa bZ}{ats:Array bx}{τs:aa J}{Lin Lr:aa aE}{δ:Type}{ρ:δ->J}{Lo:δ->aa aE}{hq:δ->aH bC}(cf:bD c.P f)(h:bR c.P f τs (Lin++a6 hp) ρ (λd=>Lo d++a6 (hq d)))
 (al:ic c E ((Lin++Lr)++a6 hp) xs τs) (aI:Nat.blt a1 c.n=true) (k:∀q,ae c ops Q rest ((a1,ρ q)::E) ((Lo q++Lr)++a6 (hq q))):
 ae c ops Q (⟨some a1,.call ⟨.value (.func f),xs.toArray,ats⟩,ty,pos,af,none⟩::rest) E ((Lin++Lr)++a6 hp):=λa W s=>
 iw I (Fx (Lr:=Lr) cf h (s.perm mG) ((al.holds a W s).mono (oW mG))) λv W' ⟨q,b0,ba⟩=>
  k q _ _ ((b0.perm mG).put (by simpa using aI) ((ρ q).mono (oW mG) ba))
def ae.dV{rest:aa Oper}{a1:Nat}{f:FuncId}{xs:aa bZ}{ats:Array bx}{τs:aa J}{Lin Lr:aa aE}{δ:Type}{ρ:δ->J}{Lo:δ->aa aE}{hq:δ->aH bC}(n m:Nat)(av:L.drop n=a6 hp)(cf:bD c.P f)(h:bR c.P f τs (Lin++a6 hp) ρ (λd=>Lo d++a6 (hq d)))
 (h1:(L.take n).take m=Lin) (ad:(L.take n).drop m=Lr) (al:ic c E L xs τs) (aI:Nat.blt a1 c.n=true) (k:∀q,ae c ops Q rest ((a1,ρ q)::E) ((Lo q++Lr)++a6 (hq q))):
 ae c ops Q (⟨some a1,.call ⟨.value (.func f),xs.toArray,ats⟩,ty,pos,af,none⟩::rest) E L:=by
 have e:L=(Lin++Lr)++a6 hp:=by rw[<-h1,<-ad,gb,<-av,gb]
 clear av h1 ad
 subst e
 exact ae.iA cf h al aI k
def fa.ajj{f:FuncId}{xs:aa bZ}{ats:Array bx}{τs:aa J}{ρ:J}(cf:bD c.P f)(h:bR c.P f τs (a6 hp) (λ_:Unit=>ρ) (λ_=>a6 hp))
 (al:ic c E (loc++a6 hp) xs τs):fa c E (loc++a6 hp) ⟨d,.call ⟨.value (.func f),xs.toArray,ats⟩,ty,pos,af,g⟩ ρ:=λa W s=>by
 have cC:(loc++a6 hp).Perm (a6 hp++loc):=nc
 have aU:=Fx (d:=d) (ty:=ty) (pos:=pos) (af:=af) (g:=g) (ats:=ats) (Lr:=loc) cf h (s.perm cC) ((al.holds a W s).mono (oW cC))
 unfold gJ at aU⊢
 exact vq (λhL W' ⟨v,h1,_,ad,ay⟩=>⟨v,h1,ad.perm cC.symm,ρ.mono (oW cC.symm) ay⟩) aU
def fa.iA{f:FuncId}{xs:aa bZ}{ats:Array bx}{τs:aa J}{ρ:J}(n:Nat)(av:L.drop n=a6 hp)(cf:bD c.P f)(h:bR c.P f τs (a6 hp) (λ_:Unit=>ρ) (λ_=>a6 hp))(al:ic c E L xs τs):fa c E L ⟨d,.call ⟨.value (.func f),xs.toArray,ats⟩,ty,pos,af,g⟩ ρ:=by
 have e:L=L.take n++a6 hp:=by rw[<-av,gb]
 clear av;generalize L.take n=loc at *;subst e;exact fa.ajj cf h al
def Ov{P:Program}{e:bx}(W:bf)(n:Nat){t:bx}(a:aw Addr)(h:P.underlying t=some (.pointer e)):(Op.equalIn (n+1) t (.pointer a) (.pointer none)).run P W=.ok a.isNone W:=by
 cases a <;> simp[Op.equalIn,dL h]
def Cg{r:Ref}{e:bx}(hu:c.P.underlying t=some (.pointer e))(al:aP c E L x (.of r)):bc c E L ⟨d,.binOp .eql t x (.const (.pointer none)) t2,ty,pos,af,g⟩ (.of r.isNone):=.pure λa W s=>by
 have h1:=xH.1 (al a W s);refine⟨.bool r.isNone,?_,of_bool.2 I⟩;have aI:a.eval (.const (.pointer none))=.pointer none:=rfl;simp only[execOp,eqGuard,binOp,h1,aI,Op.equal,Op.maxDepth];have:=Ov (P:=c.P) W 9999 (r.map λp=>⟨p,0,none⟩) hu;simp only[Option.isNone_map]at this;simp[this]
def agr{r:Ref}{e:bx}(hu:c.P.underlying t=some (.pointer e))(al:aP c E L x (.of r)):bc c E L ⟨d,.binOp .neq t x (.const (.pointer none)) t2,ty,pos,af,g⟩ (.of r.isSome):=.pure λa W s=>by
 have h1:=xH.1 (al a W s);refine⟨.bool r.isSome,?_,of_bool.2 I⟩;have aI:a.eval (.const (.pointer none))=.pointer none:=rfl;simp only[execOp,eqGuard,binOp,h1,aI,Op.equal,Op.maxDepth];have:=Ov (P:=c.P) W 9999 (r.map λp=>⟨p,0,none⟩) hu;simp only[Option.isNone_map]at this;simp[this]
end
def afL{P:Program}{t e el:bx}{n:Nat}(h:P.underlying t=some (.array n e))(ez:bK P e Ref)(hu:P.underlying e=some (.pointer el)){A:aa Nat}{W:bf}{u v:bl}{x y:Vector Ref n}(al:(J.of x).holds A W u)(hy:(J.of y).holds A W v)
 (aI:∀i,i<n->cu y i=none) (d:Nat) (hd:2<=d):(Op.equalIn d t u v).run P W=.ok (decide (x=y)) W:=by
 obtain⟨d,rfl⟩:∃e,d=e+1:=⟨d-1,by omega⟩
 obtain⟨h1,ad⟩:=al
 obtain⟨ay,aR⟩:=hy
 obtain⟨xs,rfl⟩:∃cs,u=.agg cs:=by simpa[shaped,ah.agg]using h1
 obtain⟨ys,rfl⟩:∃cs,v=.agg cs:=by simpa[shaped,ah.agg]using ay
 simp only[Value.cells]at ad aR
 have wy:xs.toList.length=n*ah.size Ref:=ah.len ad
 have G9:ys.toList.length=n*ah.size Ref:=ah.len aR
 have Ad:∀i∈List.range' 0 n,((do
  let a <-part e xs (i*ah.size Ref)
  let b <-part e ys (i*ah.size Ref)
  Op.equalIn d e a b):Sem Bool).run P W=.ok (decide (cu x i=cu y i)) W:=by
  intro i ax
  have hv:i<n:=by simpa using ax
  have fu:i*ah.size Ref+ah.size Ref<=n*ah.size Ref:=(aN.idx (α:=Ref) n i hv).gV
  obtain⟨a,a7,wz⟩:=uh (A:=A) (P:=P) (W:=W) (cs:=xs) (off:=i*ah.size Ref) ez (by simp at wy;omega) ((aN.idx (α:=Ref) n i hv).jF ad)
  obtain⟨b,hb,Ha⟩:=uh (A:=A) (P:=P) (W:=W) (cs:=ys) (off:=i*ah.size Ref) ez (by simp at G9;omega) ((aN.idx (α:=Ref) n i hv).jF aR)
  simp only[dI,a7,hb,Result.andThen_ok]
  obtain⟨d,rfl⟩:∃e,d=e+1:=⟨d-1,by omega⟩
  have au:=xH.1 wz
  have aW:=xH.1 Ha
  subst au;subst aW
  have Dq:(aN.idx (α:=Ref) n i hv).get y=none:=aI i hv
  rw[Dq,Option.map_none,Ov W d _ hu]
  have cF:cu y i=none:=aI i hv
  rw[cF]
  show Result.ok ((cu x i).map _).isNone W=_
  congr 1
  cases cu x i <;> rfl
 have aY:=Ou (P:=P) (W:=W) _ _ _ Ad
 have ml:(List.range' 0 n).all (λi=>decide (cu x i=cu y i))=decide (x=y):=by
  rw[oo,kH,fM];constructor
  ·intro h;apply Vector.ext;intro i ax;have:=h i (by simpa using ax);simpa[cu,ax]using this
  rintro rfl i _;simp
 rw[ml]at aY
 simp only[Op.equalIn,dI,dL h,Result.andThen_ok,ez.sizeOf,ML]
 simp only[Std.Legacy.Range.size,Nat.sub_zero,Nat.add_one_sub_one,NZ]at aY⊢
 simp only[bind_assoc]at aY
 rw[aY]
 by_cases Hb:x=y
 ·simp[Hb]
 simp[Hb]
def agQ{c:cj}{E:aa (Nat×J)}{L:aa aE}{d:aw Tmp}{ty:bx}{pos:String}{af:Array Edge}{g:aw (Nat×Bool)}{x y:bZ}{t t2 e el:bx}{n:Nat}{a b:Vector Ref n}(h:c.P.underlying t=some (.array n e))(ez:bK c.P e Ref)(hu:c.P.underlying e=some (.pointer el))(bF:c.P.eqGuardType c.P.depth t=false)
 (al:aP c E L x (.of a)) (hy:aP c E L y (.of b)) (aI:∀i,i<n->cu b i=none):bc c E L ⟨d,.binOp .eql t x y t2,ty,pos,af,g⟩ (.of (decide (a=b))):=.pure λA W s=>by
 have h1:=al A W s
 have ad:=hy A W s
 obtain⟨xs,iE⟩:∃cs,A.eval x=.agg cs:=by simpa[shaped,ah.agg]using h1.1
 obtain⟨ys,yn⟩:∃cs,A.eval y=.agg cs:=by simpa[shaped,ah.agg]using ad.1
 have ay:=afL h ez hu h1 ad aI 10000 (by decide)
 rw[iE,yn]at ay
 refine⟨.bool (decide (a=b)),?_,of_bool.2 I⟩
 simp only[execOp,iE,yn,dI,Ns W .eql t x y xs ys bF,Result.andThen_ok,run_eql_struct,ay,Sem.run_pure]
section
variable{c:cj}{E:aa (Nat×J)}{L:aa aE}{ops:Array Oper}{Q:Exit->Act->bf->Prop}
def ai.aif{α β:Type}{o:aw α}{k:α->ai β}{R:β->Prop}(h:ai.bind (ai.of o) k R):∃r,o=some r∧k r R:=h
def afM{F:Fence}{n:Nat}{P:Program}{body:Code}{σ ε:Type}(b:σ->ai (σ⊕ε))(fG:σ->Act->bf->Prop)(X:ε->Exit->Act->bf->Prop)
 (ux:∀s R,b s R->∀a W,fG s a W->body.wpIn F n P (λx a W=>(∃b0,R (.inl b0)∧x=.normal∧fG b0 a W)∨∃e,R (.inr e)∧x≠ .normal∧X e x a W) a W)
 (Q:Exit->Act->bf->Prop) (R:ε->Prop) (pE:∀e x a W,R e->X e x a W->Q x a W) {s0:σ} {N:Nat} (ao:nV N b s0 R) {a0:Act} {jO:bf} (bu:fG s0 a0 jO):
 (Code.loop body).wpIn F n P Q a0 jO:=by
 intro dk k cs mr hb aD
 have key:∀N s,nV N b s R->∀a W,fG s a W->
  ∃x hL W',Q x hL W'∧ArrivesIn (Machine.fenced P F) P (lone (dk.atR a (.code body::.inLoop body::k)) cs W) dk k cs x hL W':=by
  intro N
  induction N with
  |zero=>intro s h;exact h.elim
  | succ N bJ=>
    intro s h a W pn
    obtain⟨x,sj,CY,hq,oy⟩:=ux s _ h a W pn dk (.inLoop body::k) cs mr hb aD
    rcases hq with⟨b0,h1,al,RQ⟩|⟨e,h1,al,oI⟩
    ·subst al
     obtain⟨Ro,Rp,Rq,QT,PI⟩:=bJ b0 h1 sj CY RQ
     exact⟨Ro,Rp,Rq,QT,.of_steps (ND oy (.one (BQ hb aD I) stepR_inLoop)) PI⟩
    exact⟨x,sj,CY,pE _ _ _ _ h1 oI,.pass (x:=.inLoop body) I (λ_ _=>.inl al) oy⟩
 obtain⟨x,hL,W',hq,oy⟩:=key N s0 ao a0 jO bu
 exact⟨x,hL,W',hq,.of_steps (.one (BQ hb aD I) stepR_loop) oy⟩
def fC{σ ε γ δ:Type}(c:cj)(E:σ->γ->aa (Nat×J))(L:σ->γ->aa aE)(xs:ε->Exit)(eu:ε->δ->aa (Nat×J))(Lx:ε->δ->aa aE)(R:σ⊕ε->Prop):Exit->Act->bf->Prop:=λx a W=>
 (∃s,R (.inl s)∧x=.normal∧∃g,bG c (E s g) (L s g) a W)∨∃e,R (.inr e)∧x≠ .normal∧x=xs e∧∃g,bG c (eu e g) (Lx e g) a W
def ar.xy{σ ε γ δ:Type}{E':σ->γ->aa (Nat×J)}{L':σ->γ->aa aE}{xs:ε->Exit}{eu:ε->δ->aa (Nat×J)}{Lx:ε->δ->aa aE}{R:σ⊕ε->Prop}{s:σ}(kp:R (.inl s))(g:γ)(n:Nat)
 (av:L.drop n=L' s g) (h:eN E (E' s g)):ar c (fC c E' L' xs eu Lx R) .normal E L:=λa W st=>.inl ⟨s,kp,rfl,g,by rw[<-av];exact(st.r2 n).less h.look⟩
def ar.s4{σ ε γ δ:Type}{E':σ->γ->aa (Nat×J)}{L':σ->γ->aa aE}{xs:ε->Exit}{eu:ε->δ->aa (Nat×J)}{Lx:ε->δ->aa aE}{R:σ⊕ε->Prop}{e:ε}{x:Exit}(kp:R (.inr e))(g:δ)(n:Nat)
 (al:x=xs e) (aI:x≠ .normal) (av:L.drop n=Lx e g) (h:eN E (eu e g)):ar c (fC c E' L' xs eu Lx R) x E L:=λa W st=>.inr ⟨e,kp,aI,al,g,by rw[<-av];exact(st.r2 n).less h.look⟩
def az.nV{σ ε γ δ:Type}{body:Code}{N:Nat}{b:σ->ai (σ⊕ε)}{s0:σ}{R:ε->Prop}(ao:Gv.nV N b s0 R)
 (E':σ->γ->aa (Nat×J)) (L':σ->γ->aa aE) (xs:ε->Exit) (eu:ε->δ->aa (Nat×J)) (Lx:ε->δ->aa aE) (g0:γ) (av:L=L' s0 g0) (aM:eN E (E' s0 g0))
 (s8:∀s R,b s R->∀g,az c (fC c E' L' xs eu Lx R) body (E' s g) (L' s g))
 (pE:∀e,R e->∀g,ar c Q (xs e) (eu e g) (Lx e g)):az c Q (.loop body) E L:=λa W st=>by
 subst av
 exact afM b (λs a W=> ∃g,bG c (E' s g) (L' s g) a W) (λe x a W=>x=xs e∧∃g,bG c (eu e g) (Lx e g) a W)
  (λs R hs a W ⟨g,pn⟩=>wpIn_mono (s8 s R hs g a W pn) (λx a W h=>by
   rcases h with⟨b0,h1,ad,ay⟩|⟨e',h1,ad,ay,aR⟩
   ·exact .inl ⟨b0,h1,ad,ay⟩
   exact .inr ⟨e',h1,ad,ay,aR⟩)) Q R (λe x a W kp ⟨al,g,hs⟩=>by subst al;exact pE e kp g a W hs) ao ⟨g0,st.less aM.look⟩
def W9{α:Type}{b:Bool}{m n:ai α}{R:α->Prop}(hb:b=true)(h:cond b m n R):m R:=by subst hb;exact h
def Xa{α:Type}{b:Bool}{m n:ai α}{R:α->Prop}(hb:b=false)(h:cond b m n R):n R:=by subst hb;exact h
def az.ajk{β γ ρ:Type}{kW:ρ->Prop}{x:bZ}{b:Bool}{y z:Code}{bj bB:ai β}{k:β->ai ρ}(h:ai.bind (bif b then bj else bB) k kW)(E':β->γ->aa (Nat×J))(L':β->γ->aa aE)(ao:aP c E L x (.of b))
 (oJ:∀m g,k m kW->ar c Q .normal (E' m g) (L' m g))
 (bw:(∀m g,k m kW->ar c (ei Q) .normal (E' m g) (L' m g))->b=true->bj (λm=>k m kW)->az c (ei Q) y E L) (aY:(∀m g,k m kW->ar c (ei Q) .normal (E' m g) (L' m g))->b=false->bB (λm=>k m kW)->az c (ei Q) z E L):az c Q (.cond x y z) E L:=
 az.cond ao (λhb=>bw oJ hb (W9 hb h)) (λhb=>aY oJ hb (Xa hb h))
def az.Xx{σ ε γ δ ρ:Type}{body:Code}{N:Nat}{b:σ->ai (σ⊕ε)}{s0:σ}{k:ε->ai ρ}{kW:ρ->Prop}(ao:ai.bind (Gv.nV N b s0) k kW)
 (E':σ->γ->aa (Nat×J)) (L':σ->γ->aa aE) (xs:ε->Exit) (eu:ε->δ->aa (Nat×J)) (Lx:ε->δ->aa aE) (g0:γ) (av:L=L' s0 g0) (aM:eN E (E' s0 g0))
 (s8:∀s R,b s R->∀g,az c (fC c E' L' xs eu Lx R) body (E' s g) (L' s g))
 (pE:∀e,k e kW->∀g,ar c Q (xs e) (eu e g) (Lx e g)):az c Q (.loop body) E L:=
 az.nV (R:=λe=>k e kW) ao E' L' xs eu Lx g0 av aM s8 pE
def akG{n:Nat}:∀i,i<n->cu (default:Vector Ref n) i=none:=λi ax=>by
 have:(default:Vector Ref n)=Vector.replicate n none:=rfl;rw[this];simp[cu,ax]
def Rn(s:ByteArray)(i:Int):aw (BitVec 8):=(if 0<=i then s[i.toNat]? else none).map λb=>BitVec.ofNat 8 b.toNat
def ahy{d:aw Tmp}{ty:bx}{pos:String}{af:Array Edge}{g:aw (Nat×Bool)}{x y:bZ}{t:bx}{s:ByteArray}{i:BitVec 8}{r:BitVec 8}(hu:c.P.underlying t=some .string)(al:aP c E L x (.of s))(hy:aP c E L y (.of i))(aD:Rn s (i.toNat:Int)=some r):
 bc c E L ⟨d,.index t x y,ty,pos,af,g⟩ (.of r):=.pure λa W st=>by
 have h1:=KJ.1 (al a W st)
 have ad:=vT.1 (hy a W st)
 unfold Rn at aD
 cases hb:(if 0<=(i.toNat:Int)then s[(i.toNat:Int).toNat]? else none)with
 |none=>rw[hb]at aD;cases aD
 | some b=>
   rw[hb]at aD
   simp only[Option.map_some,fi]at aD
   subst aD
   have b9:b.toNat<256:=b.toNat_lt
   refine⟨.int .u8 b.toNat,?_,vT.2 (by simp[BitVec.toNat_ofNat,Np b9])⟩
   have AP:=hb
   simp only[T8,mc,Int.toNat_natCast]at AP
   simp[execOp,Instr.index,h1,ad,asIntOf,dL hu,AP]
end
structure eJ where
 p:Option Nat
 deriving DecidableEq,Inhabited
instance:ah eJ:=.scalar (λx=>Value.map x.p) λ_=>rfl
instance:aT eJ:=⟨[.map none],λ_ _=>rfl⟩
def xu{A W v}{x:eJ}:(J.of x).holds A W v↔v=.map x.p:=
 ⟨λh=>ov h.1 h.2,λh=>by subst h;exact⟨rfl,rfl⟩⟩
def k1{c:cj}{E:aa (Nat×J)}{L:aa aE}{x:bZ}{r:eJ}{p:Nat}(al:aP c E L x (.of r))(h:r.p=some p):aP c E L x (.of (⟨some p⟩:eJ)):=λa W s=>by
 have:=xu.1 (al a W s);rw[h]at this;exact xu.2 this
inductive l1{α β:Type}[ah α][ah β](A:List Nat)(W:World):List MapEntry->List (α×β)->Prop
 |nil:l1 A W [] []
 |cons {e k v es r}:(J.of k).holds A W e.key->(J.of v).holds A W e.val->l1 A W es r->l1 A W (e::es) ((k,v)::r)
def l1.mono{α β:Type}[ah α][ah β]{A W cE W'}(h:Ext A W cE W'):∀{es:aa MapEntry} {kv:aa (α×β)},l1 A W es kv->l1 cE W' es kv
 |_,_,.nil=>.nil
 |_,_,.cons h1 ad r=>.cons (J.mono _ h h1) (J.mono _ h ad) (r.mono h)
def dr.map{α β:Type}[ah α][ah β](kv:aa (α×β)):dr where
 holds A W o:=∃es clock,o=.map es clock∧l1 A W es.toList kv∧(∀x∈es.toList,x.born<clock)∧(es.toList.map MapEntry.born).Nodup
 nX:=False
 mono e h:=let⟨es,clock,h1,ad,ay⟩:=h; ⟨es,clock,h1,ad.mono e,ay⟩
def dz{α β:Type}[DecidableEq α]:aa (α×β)->α->aw β
 |[],_=>none
 |(k,v)::r,x=>if x=k then some v else dz r x
def gj{α β:Type}[DecidableEq α]:aa (α×β)->α->β->aa (α×β)
 |[],x,y=>[(x,y)]
 |(k,v)::r,x,y=>if x=k then(x,y)::r else(k,v)::gj r x y
def iC{α β:Type}[DecidableEq α]:aa (α×β)->α->aa (α×β)
 |[],_=>[]
 |(k,v)::r,x=>if x=k then r else(k,v)::iC r x
class kq (α:Type) [ah α]:Prop where
 uniq:∀{A W cs cE W' dT} {x:α},ah.rep A W cs x->ah.rep cE W' dT x->cs=dT
 plain:∀{A W cs} {x:α},ah.rep A W cs x->∀v∈cs,∀n,Instr.sameBits n v v=true
instance:kq Int:=⟨λh cT=>h.trans cT.symm,λh v ba n=>by subst h;rw[gX.1 ba];simp[Instr.sameBits]⟩
instance:kq (BitVec 64):=⟨λh cT=>h.trans cT.symm,λh v ba n=>by subst h;rw[gX.1 ba];simp[Instr.sameBits]⟩
instance:kq Bool:=⟨λh cT=>h.trans cT.symm,λh v ba n=>by subst h;rw[gX.1 ba];simp[Instr.sameBits]⟩
instance{α:Type}[ah α][Inhabited α][kq α]{n:Nat}:kq (Vector α n):=⟨λ{A W cs cE W' dT x} h cT=>by
 have HZ:cs.length=n*ah.size α:=ah.len h;have arC:dT.length=n*ah.size α:=ah.len cT;have key:∀m,m<=n->cs.take (m*ah.size α)=dT.take (m*ah.size α):=by
  intro m;induction m with
  |zero=>intro _;simp
  | succ m bJ=>
    intro hm
    have Dl:m<n:=hm
    have au:=(aN.idx (α:=α) n m Dl).jF h
    have aW:=(aN.idx (α:=α) n m Dl).jF cT
    have cF:=kq.uniq au aW
    rw[rO,I4,I4,bJ (by omega)]
    congr 1
 have:=key n (iu _);rwa[<-HZ,nf,HZ,<-arC,nf]at this,
 λ{A W cs x} h v ba k=>by
  have HZ:cs.length=n*ah.size α:=ah.len h;obtain⟨i,ax,rfl⟩:=TZ ba;by_cases hs:ah.size α=0
  ·rw[hs,Nat.mul_zero]at HZ;omega
  have hq:i/ah.size α<n:=TT (by rw[HZ,rN]at ax;exact ax);have au:=(aN.idx (α:=α) n (i/ah.size α) hq).jF h;refine kq.plain au _ ?_ k;have aD:i % ah.size α<ah.size α:=BS _ (by omega);have hd:=EB i (ah.size α);refine l8.2 ⟨i % ah.size α,?_⟩;simp only[aN.idx];rw[jR,br aD,lp,rN,hd];exact qf ax⟩
def FG{cs dT:aa bl}(o s:Nat)(h:(cs.drop o).take s=(dT.drop o).take s)(k:cs.drop (o+s)=dT.drop (o+s)):cs.drop o=dT.drop o:=by
 rw[<-gb s (cs.drop o),<-gb s (dT.drop o),h,EN,EN,k]
def Xb{cs dT:aa bl}{n:Nat}(h:cs.length=n)(cT:dT.length=n)(k:cs.drop 0=dT.drop 0):cs=dT:=by simpa using k
def Xc{cs dT:aa bl}{n m:Nat}(h:cs.length=n)(cT:dT.length=n)(k:n<=m):cs.drop m=dT.drop m:=by
 rw[Bm (by omega),Bm (by omega)]
def afN{α:Type}[ah α][kq α]{A W cE W' u v}{x:α}(h:(J.of x).holds A W u)(cT:(J.of x).holds cE W' v):u=v:=by
 obtain⟨h1,ad⟩:=h;obtain⟨ay,aR⟩:=cT;have aX:=kq.uniq ad aR;by_cases a7:ah.agg α=true
 ·simp only[shaped,a7,mc]at h1 ay;obtain⟨a,rfl⟩:=h1;obtain⟨b,rfl⟩:=ay;simp only[Value.cells]at aX;congr 1;exact Array.toList_inj.1 aX
 simp only[kX]at a7;simp only[shaped,a7,rK,ot]at h1 ay;rw[cells_one h1,cells_one ay]at aX;simpa using aX
def Wl{P:bl->bl->Bool}:∀{cs:aa bl},(∀v∈cs,P v v=true)->((cs.zip cs).all λ(x,y)=>P x y)=true
 |[],_=>rfl
 | a::r,h=>by
   simp only[List.zip_cons_cons,List.all_cons,gq];exact⟨h a (by simp),Wl λv ba=>h v (by simp[ba])⟩
def afO{α:Type}[ah α][kq α]{A W u}{x:α}(h:(J.of x).holds A W u)(n:Nat):Instr.sameBits (n+1) u u=true:=by
 obtain⟨h1,ad⟩:=h;by_cases a7:ah.agg α=true
 ·simp only[shaped,a7,mc]at h1;obtain⟨a,rfl⟩:=h1;simp only[Value.cells]at ad;simp only[Instr.sameBits,Et,zd];exact Wl λv ba=>kq.plain ad v ba n
 simp only[kX]at a7;simp only[shaped,a7,rK,ot]at h1;rw[cells_one h1]at ad;exact kq.plain ad u (by simp) _
def ags{α:Type}[ah α][kq α]{P:Program}{A W cE W' u v}{x:α}(h:(J.of x).holds A W u)(cT:(J.of x).holds cE W' v)(jO:bf):(Instr.keyThatStays u v).run P jO=.ok v jO:=by
 have:=afN h cT;subst this;simp[Instr.keyThatStays,afO h 9999]
def sB(P:Program)(t:bx)(α:Type)[ah α](n:Nat):Prop:=∀b d A W u (x:α),n<=d->(J.of x).holds A W u->(Instr.checkKey b d t u).run P W=.ok () W
def Pa{P:Program}{t:bx}{α:Type}[ah α]{D:TypeDesc}(h:P.underlying t=some D)(hd:(match (motive:=TypeDesc->Bool) D with | .interface _| .array _ _| .struct _=>false|_=>true)=true):sB P t α 1:=by
 intro b d A W u x aI al;obtain⟨d,rfl⟩:∃e,d=e+1:=⟨d-1,by omega⟩;simp only[Instr.checkKey,dI,dL h,Result.andThen_ok];cases D <;> simp at hd <;> rfl
def U5{P:Program}{W:bf}{H0:Type}(f:H0->Sem Unit):∀(l:aa H0),(∀i∈l,(f i).run P W=.ok () W)->
 (forIn (m:=Sem) l () (λi _=>do f i;pure (ForInStep.yield ()))).run P W=.ok () W
 |[],_=>by simp
 | i::r,h=>by
   have h1:=h i (by simp);have ad:=U5 (P:=P) (W:=W) f r (λj aC=>h j (by simp[aC]));rw[IP];simp only[dI,h1,Result.andThen_ok,Sem.run_pure];rw[ad]
def UZ{P:Program}{W:bf}{H0:Type}(f:H0->PUnit->Sem (ForInStep PUnit)):∀(l:aa H0),(∀i∈l,(f i ()).run P W=.ok (.yield ()) W)->(forIn (m:=Sem) l PUnit.unit f).run P W=.ok () W
 |[],_=>by simp
 | i::r,h=>by
   have h1:=h i (by simp);have ad:=UZ (P:=P) (W:=W) f r (λj aC=>h j (by simp[aC]));rw[IP];simp only[dI,h1,Result.andThen_ok];exact ad
def XH{P:Program}{t e n k:Nat}{α:Type}[ah α][Inhabited α](h:P.underlying t=some (.array n e))(ez:bK P e α)(he:sB P e α k):sB P t (Vector α n) (k+1):=by
 intro b d A W u x hd al;obtain⟨d,rfl⟩:∃e,d=e+1:=⟨d-1,by omega⟩;obtain⟨h1,ad⟩:=al;obtain⟨xs,rfl⟩:∃cs,u=.agg cs:=by simpa[shaped,ah.agg]using h1
 simp only[Value.cells]at ad;have wy:xs.toList.length=n*ah.size α:=ah.len ad;have Ad:∀i∈List.range' 0 n,((do
  let z <-Go.sizeOf e
  let a <-part e xs (i*z)
  Instr.checkKey b d e a):Sem Unit).run P W=.ok () W:=by
  intro i ax
  have hv:i<n:=by simpa using ax
  have fu:i*ah.size α+ah.size α<=n*ah.size α:=(aN.idx (α:=α) n i hv).gV
  obtain⟨a,a7,wz⟩:=uh (A:=A) (P:=P) (W:=W) (cs:=xs) (off:=i*ah.size α) ez (by simp at wy;omega) ((aN.idx (α:=α) n i hv).jF ad)
  simp only[dI,ez.sizeOf,a7,Result.andThen_ok]
  exact he b d A W a _ (by omega) wz
 have aY:=U5 (P:=P) (W:=W) _ _ Ad;simp only[Instr.checkKey,dI,dL h,Result.andThen_ok,ML];simp only[Std.Legacy.Range.size,Nat.sub_zero,Nat.add_one_sub_one,NZ]at aY⊢;simp only[bind_assoc]at aY;rw[aY];rfl
inductive Hr(P:Program)(β:Type)[ah β](k:Nat):List Field->Prop
 |nil:Hr P β k []
 |cons {γ:Type} [ah γ] {f r} (l:aN β γ):l.off=f.offset->bK P f.type γ->sB P f.type γ k->Hr P β k r->Hr P β k (f::r)
def VV{P:Program}{t k:Nat}{β:Type}[ah β]{fs:Array Field}(a7:ah.agg β=true)(h:P.underlying t=some (.struct fs))(ak:Hr P β k fs.toList):sB P t β (k+1):=by
 intro b d A W u x hd al;obtain⟨d,rfl⟩:∃e,d=e+1:=⟨d-1,by omega⟩;obtain⟨h1,ad⟩:=al;obtain⟨xs,rfl⟩:∃cs,u=.agg cs:=by simpa[shaped,a7]using h1
 simp only[Value.cells]at ad;have wy:xs.toList.length=ah.size β:=ah.len ad;have Ad:∀f∈fs.toList,((do
  if f.name≠ "_" then do
   let a <-part f.type xs f.offset
   Instr.checkKey b d f.type a):Sem Unit).run P W=.ok () W:=by
  have key:∀l,Hr P β k l->∀f∈l,((do
   if f.name≠ "_" then do
    let a <-part f.type xs f.offset
    Instr.checkKey b d f.type a):Sem Unit).run P W=.ok () W:=by
   intro l ao
   induction ao with
   |nil=>simp
   | cons l aU ez hk r bJ=>
     rename_i f nM
     intro DI tD
     rcases dO.1 tD with rfl|tD
     ·split
      ·obtain⟨a,a7,wz⟩:=uh (A:=A) (P:=P) (W:=W) (cs:=xs) (off:=l.off) ez (by have:=l.gV;simp at wy;omega) (l.jF ad)
       rw[<-aU]
       simp only[dI,a7,Result.andThen_ok]
       exact hk b d A W a _ (by omega) wz
      rfl
     exact bJ DI tD
  exact key _ ak
 simp only[Instr.checkKey,dI,dL h,Result.andThen_ok];rw[<-Array.forIn_toList,UZ]
 ·rfl
 intro f aY;have:=Ad f aY;split
 ·rename_i aI;rw[br aI]at this;simp only[dI]at this⊢;revert this;generalize (part f.type xs f.offset).run P W=r;cases r <;> simp only[Result.andThen] <;> intro h <;> first|rw[h];rfl|cases h
 rfl
structure qb(P:Program)(t:TypeId)(α:Type)[ah α][DecidableEq α]:Prop where
 check:∀b A W u (x:α),(J.of x).holds A W u->(Instr.checkKey b 10000 t u).run P W=.ok () W
 same:∀A W u v (x y:α),(J.of x).holds A W u->(J.of y).holds A W v->(Op.equal t u v).run P W=.ok (decide (x=y)) W
 now:∃D,P.underlying t=some D∧∀A W u v (x y:α),(J.of x).holds A W u->(J.of y).holds A W v->Instr.sameNow D u v=none∨Instr.sameNow D u v=some (decide (x=y))
def nu{α β:Type}[DecidableEq α]:aa (α×β)->α->Nat->aw (Nat×β)
 |[],_,_=>none
 |(k,v)::r,x,i=>if x=k then some (i,v)else nu r x (i+1)
def Found{α β:Type}[ah α][ah β](A:aa Nat)(W:bf)(kv:aa (α×β)):aw (Nat×bl)->aw (Nat×β)->Prop
 |none,none=>True
 |some (i,u),some (j,v)=>i=j∧(J.of v).holds A W u
 |_,_=>False
def U8{α β:Type}[ah α][ah β][DecidableEq α]{D:TypeDesc}{A:aa Nat}{W:bf}{u:bl}{x:α}(hu:(J.of x).holds A W u)
 (hs:∀v (y:α),(J.of y).holds A W v->Instr.sameNow D u v=none∨Instr.sameNow D u v=some (decide (x=y))) (Hs:aa (α×β)):∀{es:aa MapEntry} {kv:aa (α×β)} (i:Nat),l1 A W es kv->
 Instr.findNow D u es i=none∨∃r,Instr.findNow D u es i=some r∧Found A W Hs r (nu kv x i)
 |[],_,i,h=>by cases h;exact .inr ⟨none,rfl,trivial⟩
 | e::es,_,i,h=>by
   cases h with
   | cons h1 ad ay=>
     rename_i k v r
     rcases hs e.key k h1 with aR|aR
     ·exact .inl (by simp[Instr.findNow,aR])
     by_cases hk:x=k
     ·exact .inr ⟨some (i,e.val),by simp[Instr.findNow,aR,hk],by simp only[nu,br hk];exact⟨rfl,ad⟩⟩
     rcases U8 hu hs Hs (i+1) ay with aX|⟨nM,aX,bh⟩
     ·exact .inl (by simp[Instr.findNow,aR,hk,aX])
     exact .inr ⟨nM,by simp[Instr.findNow,aR,hk,aX],by simp only[nu,bn hk];exact bh⟩
def UW{α β:Type}[ah α][ah β][DecidableEq α]{P:Program}{t:bx}(l6:qb P t α){A:aa Nat}{W:bf}{u:bl}{x:α}(hu:(J.of x).holds A W u)(Hs:aa (α×β)):∀{es:aa MapEntry} {kv:aa (α×β)} (i:Nat),l1 A W es kv->
 ∃r,(Instr.findAsking t u es i).run P W=.ok r W∧Found A W Hs r (nu kv x i)
 |[],_,i,h=>by cases h;exact⟨none,rfl,trivial⟩
 | e::es,_,i,h=>by
   cases h with
   | cons h1 ad ay=>
     rename_i k v r
     have aR:=l6.same A W u e.key x k hu h1
     by_cases hk:x=k
     ·exact⟨some (i,e.val),by simp[Instr.findAsking,dI,aR,hk],by simp only[nu,br hk];exact⟨rfl,ad⟩⟩
     obtain⟨nM,aX,bh⟩:=UW l6 hu Hs (i+1) ay
     exact⟨nM,by simp[Instr.findAsking,dI,aR,hk,aX],by simp only[nu,bn hk];exact bh⟩
def Ow{α β:Type}[ah α][ah β][DecidableEq α]{P:Program}{t:bx}(l6:qb P t α){A:aa Nat}{W:bf}{u:bl}{x:α}(hu:(J.of x).holds A W u){es:aa MapEntry}{kv:aa (α×β)}(h:l1 A W es kv):
 ∃r,(Instr.findKey t u es).run P W=.ok r W∧Found A W kv r (nu kv x 0):=by
 obtain⟨D,l5,hs⟩:=l6.now
 rcases U8 hu (λv y hy=>hs A W u v x y hu hy) kv 0 h with h1|⟨r,h1,ad⟩
 ·obtain⟨r,ay,aR⟩:=UW l6 hu kv 0 h
  exact⟨r,by simp[Instr.findKey,dI,dL l5,h1,ay],aR⟩
 exact⟨r,by simp[Instr.findKey,dI,dL l5,h1],ad⟩
def Pm{α β:Type}[ah α][ah β][DecidableEq α]{A:aa Nat}{W:bf}{x:α}:∀{es:aa MapEntry} {kv:aa (α×β)} {j i:Nat} {v:β},l1 A W es kv->nu kv x j=some (i,v)->
 ∃m e,i=j+m∧es[m]? =some e∧(J.of x).holds A W e.key∧(∀(e':MapEntry) (y:β),(J.of x).holds A W e'.key->(J.of y).holds A W e'.val->l1 A W (es.set m e') (gj kv x y))∧l1 A W (es.eraseIdx m) (iC kv x)
 |[],_,j,i,v,h,aY=>by cases h;cases aY
 | e::es,_,j,i,v,h,aY=>by
   cases h with
   | cons h1 ad ay=>
     rename_i k DH r
     by_cases hk:x=k
     ·subst hk
      simp only[nu,br]at aY
      simp only[fi,vp]at aY
      exact⟨0,e,by omega,rfl,h1,λe' y g1 g2=>by simp only[gj,br];exact .cons g1 g2 ay,by simp only[iC,br];exact ay⟩
     simp only[nu,bn hk]at aY
     obtain⟨m,e',g1,g2,g3,g4,g5⟩:=Pm ay aY
     exact⟨m+1,e',by omega,by simpa using g2,g3,λSb y aq cA=>by simp only[gj,bn hk];exact .cons h1 ad (g4 Sb y aq cA),by simp only[iC,bn hk];exact .cons h1 ad g5⟩
def OU{α β:Type}[ah α][ah β][DecidableEq α]{A:aa Nat}{W:bf}{x:α}:∀{es:aa MapEntry} {kv:aa (α×β)} {j:Nat},l1 A W es kv->nu kv x j=none->
 (∀(e':MapEntry) (y:β),(J.of x).holds A W e'.key->(J.of y).holds A W e'.val->l1 A W (es++[e']) (gj kv x y))∧iC kv x=kv
 |[],_,j,h,_=>by cases h;exact⟨λe' y h1 ad=>.cons h1 ad .nil,rfl⟩
 | e::es,_,j,h,aY=>by
   cases h with
   | cons h1 ad ay=>
     rename_i k DH r
     by_cases hk:x=k
     ·simp[nu,hk]at aY
     simp only[nu,bn hk]at aY
     obtain⟨g1,g2⟩:=OU ay aY
     exact⟨λe' y aq cA=>by simp only[gj,bn hk];exact .cons h1 ad (g1 e' y aq cA),by simp only[iC,bn hk,g2]⟩
def l1.length{α β:Type}[ah α][ah β]{A W}:∀{es:aa MapEntry} {kv:aa (α×β)},l1 A W es kv->es.length=kv.length
 |_,_,.nil=>rfl
 |_,_,.cons _ _ r=>by simp[r.length]
def Vx{α β:Type}[DecidableEq α]:∀(kv:aa (α×β)) (x:α) (i:Nat),(nu kv x i).map (·.2)=dz kv x
 |[],_,_=>rfl
 |(k,v)::r,x,i=>by simp only[nu,dz];split <;> simp[Vx]
section
variable{c:cj}{E:aa (Nat×J)}{L:aa aE}{ops:Array Oper}{Q:Exit->Act->bf->Prop}
variable{d:aw Tmp}{ty:bx}{pos:String}{af:Array Edge}{g:aw (Nat×Bool)}{x y z:bZ}{t t2:bx}
variable{bC:Type}[dN bC]{hp:aH bC}{loc:aa aE}
def ae.aih{α β:Type}[ah α][ah β]{rest:aa Oper}{a1:Nat}(mk:bC)(hk:∀p,dN.gk p mk=[⟨some p,.map ([]:aa (α×β))⟩])(aI:Nat.blt a1 c.n=true)
 (k:∀p,p∉dB hp->ae c ops Q rest ((a1,.of (⟨some p⟩:eJ))::E) (loc++a6 ((p,mk)::hp))):ae c ops Q (⟨some a1,.makeMap t none,ty,pos,af,none⟩::rest) E (loc++a6 hp):=λa W s=>by
 refine iw I (R:=λv W'=>v=.map (some W.heap.size)∧W'=W.alloc (.map #[] 0)) (.mK ?_ ⟨rfl,rfl⟩) λv W' ⟨ba,hw⟩=>?_
 ·simp only[execOp,Instr.makeMap,newObj,dI,Sem.run_pure];rfl
 subst ba
 subst hw
 refine k _ s.fresh _ _ (bG.put ?_ (by simpa using aI) (xu.2 I))
 refine(s.alloc (cp:=.map ([]:aa (α×β))) ⟨#[],0,rfl,.nil,by simp,by simp⟩).perm ?_
 simp only[a6,hk,List.singleton_append]
 exact q5.symm
def ae.FR{α β:Type}[ah α][ah β]{rest:aa Oper}{a1:Nat}(n:Nat)(av:L.drop n=a6 hp)(mk:bC)(hk:∀p,dN.gk p mk=[⟨some p,.map ([]:aa (α×β))⟩])(aI:Nat.blt a1 c.n=true)(k:∀a:Nat×aH bC,a.1∉hp.map (·.1)∧a.2=(a.1,mk)::hp->ae c ops Q rest ((a1,.of (⟨some a.1⟩:eJ))::E) (L.take n++a6 a.2)):ae c ops Q (⟨some a1,.makeMap t none,ty,pos,af,none⟩::rest) E L:=by
 have e:L=L.take n++a6 hp:=by rw[<-av,gb]
 clear av;generalize L.take n=loc at *;subst e;exact ae.aih (α:=α) (β:=β) mk hk aI λp h=>k (p,(p,mk)::hp) ⟨h,rfl⟩
def bG.Gc{a:Act}{W:bf}(s:bG c E L a W){p:Nat}{α β:Type}[ah α][ah β]{kv:aa (α×β)}(hm:(⟨some p,.map kv⟩:aE)∈L):
 ∃es clock,W.heap[p]? =some (.map es clock)∧l1 (ks L++c.bP) W es.toList kv∧(∀x∈es.toList,x.born<clock)∧(es.toList.map MapEntry.born).Nodup:=by
 obtain⟨o,aU,es,clock,rfl,ad,ay,aR⟩:=s.own _ hm
 exact⟨es,clock,aU,ad,ay,aR⟩
def Vy{a:Act}{W:bf}(s:bG c E L a W){p key elem:Nat}{α β:Type}[ah α][ah β][DecidableEq α][Inhabited β]{kv:aa (α×β)}{i:α}(hu:c.P.underlying t=some (.map key elem))(l6:qb c.P key α)(gL:c4 c.P elem (default:β))
 (al:aP c E L x (.of (⟨some p⟩:eJ))) (hy:aP c E L y (.of i)) (hm:(⟨some p,.map kv⟩:aE)∈L):
 ∃u,(J.of ((dz kv i).getD default)).holds (ks L++c.bP) W u∧∀ok,(Instr.lookup t (a.eval x) (a.eval y) ok).run c.P W=.ok (if ok then .tuple #[u,.bool (dz kv i).isSome]else u) W:=by
 obtain⟨es,clock,aU,ad,ay,aR⟩:=s.Gc hm
 have mW:=xu.1 (al a W s)
 have tF:=hy a W s
 obtain⟨r,aD,aY⟩:=Ow l6 tF ad
 obtain⟨gD,dR,dX,cy,R3⟩:=gL.zero
 have bF:(getObj p).run c.P W=.ok (.map es clock) W:=by simp[getObj,Sem.run,aU]
 have ak:=λb=>l6.check b _ W _ i tF
 have Dr:=Vx kv i 0
 cases su:nu kv i 0 with
 | none=>
   rw[su]at aY Dr
   cases r with
   |some q=>exact aY.elim
   | none=>
     refine⟨dR,by rw[<-Dr];exact R3 _ W,λok=>?_⟩
     rw[<-Dr]
     simp[Instr.lookup,dI,dL hu,mW,bF,ak,aD,zeroValue,typeInfo,dX,cy]
 | some q=>
   rw[su]at aY Dr
   cases r with
   |none=>exact aY.elim
   | some og=>
     refine⟨og.2,by rw[<-Dr];exact aY.2,λok=>?_⟩
     rw[<-Dr]
     simp[Instr.lookup,dI,dL hu,mW,bF,ak,aD]
def vF{p key elem:Nat}{α β:Type}[ah α][ah β][DecidableEq α][Inhabited β]{kv:aa (α×β)}{i:α}{r:β}(hu:c.P.underlying t=some (.map key elem))(l6:qb c.P key α)(gL:c4 c.P elem (default:β))
 (al:aP c E L x (.of (⟨some p⟩:eJ))) (hy:aP c E L y (.of i)) (hm:(⟨some p,.map kv⟩:aE)∈L) (aD:(dz kv i).getD default=r):
 bc c E L ⟨d,.lookup t x y false,ty,pos,af,g⟩ (.of r):=.pure λa W s=>by
 subst aD
 obtain⟨u,h1,ad⟩:=Vy s hu l6 gL al hy hm
 have ay:=ad false
 exact⟨u,by simp only[execOp,dI,ay,Result.andThen_ok];rfl,h1⟩
def Pe{p key elem:Nat}{α β:Type}[ah α][ah β][DecidableEq α][Inhabited β]{kv:aa (α×β)}{i:α}{r:aw β}(hu:c.P.underlying t=some (.map key elem))(l6:qb c.P key α)(gL:c4 c.P elem (default:β))
 (al:aP c E L x (.of (⟨some p⟩:eJ))) (hy:aP c E L y (.of i)) (hm:(⟨some p,.map kv⟩:aE)∈L) (aD:dz kv i=r):
 bc c E L ⟨d,.lookup t x y true,ty,pos,af,g⟩ (.bY [.of (r.getD default),.of r.isSome]):=.pure λa W s=>by
 subst aD
 obtain⟨u,h1,ad⟩:=Vy s hu l6 gL al hy hm
 have ay:=ad true
 exact⟨_,by simp only[execOp,dI,ay,Result.andThen_ok];rfl,_,rfl,.cons h1 (.cons (of_bool.2 I) .nil)⟩
def ag7{es:aa MapEntry}{m:Nat}{e e':MapEntry}(h:es[m]? =some e)(hb:e'.born=e.born):(es.set m e').map MapEntry.born=es.map MapEntry.born:=by
 apply l9;intro j;simp only[Ef,oP];split
 ·rename_i aC;subst aC;have:=(fL.1 h).1;rw[br this,h];simp[hb]
 rfl
def ae.ajl{rest:aa Oper}{op:Op}(pU:op=.mapUpdate t x y z∨op=.insert t x y z){p key elem:Nat}{k k':bC}{α β:Type}[ah α][ah β][kq α][DecidableEq α]{kv sv:aa (α×β)}{i:α}{v:β}(hu:c.P.underlying t=some (.map key elem))(l6:qb c.P key α)
 (al:aP c E (loc++a6 hp) x (.of (⟨some p⟩:eJ))) (hy:aP c E (loc++a6 hp) y (.of i)) (cy:aP c E (loc++a6 hp) z (.of v)) (hp':pat hp p=some k) (hk:dN.gk p k=[⟨some p,.map kv⟩]) (u2:gj kv i v=sv) (k9:dN.gk p k'=[⟨some p,.map sv⟩])
 (na:ae c ops Q rest E (loc++a6 (cr hp p k'))):ae c ops Q (⟨none,op,ty,pos,af,none⟩::rest) E (loc++a6 hp):=λa W s=>by
 subst u2
 obtain⟨es,clock,aU,ad,ay,aR⟩:=s.Gc (jc (n:=loc.length) (by simp) hp' hk)
 have mW:=xu.1 (al a W s)
 have tF:=hy a W s
 have abj:=cy a W s
 obtain⟨r,aD,aY⟩:=Ow l6 tF ad
 have bF:(getObj p).run c.P W=.ok (.map es clock) W:=by simp[getObj,Sem.run,aU]
 have ak:=l6.check false _ W _ i tF
 have b9:p<W.heap.size:=(q4.1 aU).1
 have hF:∀o,(setObj p o).run c.P W=.ok () (W.putObj p o):=λo=>by simp only[setObj,Sem.run,aU];rfl
 have key:∃oa zX,(Instr.mapUpdate t (a.eval x) (a.eval y) (a.eval z)).run c.P W=.ok () (W.putObj p (.map oa zX))∧l1 (ks (loc++a6 hp)++c.bP) W oa.toList (gj kv i v)∧(∀x∈oa.toList,x.born<zX)∧(oa.toList.map MapEntry.born).Nodup:=by
  cases su:nu kv i 0 with
  | none=>
    rw[su]at aY
    cases r with
    |some q=>exact aY.elim
    | none=>
      obtain⟨g1,_⟩:=OU ad su
      refine⟨es.push {key:=a.eval y,val:=a.eval z,born:=clock},clock+1,by simp[Instr.mapUpdate,dI,dL hu,mW,bF,ak,aD,hF],by simpa using g1 {key:=a.eval y,val:=a.eval z,born:=clock} v tF abj,?_,?_⟩
      ·intro q hq
       simp only[Array.toList_push,ca,gX]at hq
       rcases hq with hq|rfl
       ·exact Nat.lt_succ_of_lt (ay q hq)
       exact Nat.lt_succ_self _
      simp only[Array.toList_push,vl,mb,Jk]
      refine nd.2 ⟨aR,by simp,λb hb b' AP=>?_⟩
      simp only[gX]at AP
      subst AP
      obtain⟨q,hq,rfl⟩:=gY.1 hb
      exact NS (ay q hq)
  | some q=>
    rw[su]at aY
    cases r with
    |none=>exact aY.elim
    | some og=>
      obtain⟨m,e,g1,g2,g3,g4,_⟩:=Pm ad su
      have j8:og.1=m:=by have:=aY.1;omega
      have hq:es[m]? =some e:=by simpa using g2
      have cD:=ags (P:=c.P) g3 tF W
      let e':MapEntry:= {e with key:=a.eval y,val:=a.eval z}
      have As:(es.modify m λe=>{e with key:=a.eval y,val:=a.eval z}).toList=es.toList.set m e':=by
       apply l9;intro j;rw[w2,MZ,oP,w2];by_cases aC:m=j
       ·subst aC;rw[br I,br I,hq,br (by simpa using (q4.1 hq).1)];rfl
       rw[bn aC,bn aC]
      refine⟨es.modify m λe=>{e with key:=a.eval y,val:=a.eval z},clock,by simp[Instr.mapUpdate,dI,dL hu,mW,bF,ak,aD,hF,j8,hq,cD],by rw[As];exact g4 e' v tF abj,?_,?_⟩
      ·rw[As]
       intro w hw
       rcases Tt hw with hw|rfl
       ·exact ay w hw
       exact ay e (eo g2)
      rw[As,ag7 (e':=e') g2 I];exact aR
 obtain⟨oa,zX,jt,au,aW,cF⟩:=key
 obtain⟨R,bj,bB⟩:=vw hp'
 have bB:=bB k'
 rw[hk]at bj
 rw[k9]at bB
 have cC:∀{z:aa (α×β)} {M:aa aE},M.Perm ([⟨some p,.map z⟩]++R)->(loc++M).Perm (⟨some p,.map z⟩::(loc++R)):=λh=>(h.append_left loc).trans (by simp only[List.singleton_append];exact q5)
 have b0:=(s.perm (cC bj)).nx (i:=0) (cp':=.map (gj kv i v)) I (o':=.map oa zX) ⟨oa,zX,rfl,au.mono (oW (cC bj)),aW,cF⟩
 refine iw I (R:=λv W'=>W'=W.putObj p (.map oa zX)) (.Cm ?_ I) λv W' hw=>?_
 ·rcases pU with rfl|rfl <;> simp[execOp,jt]
 subst hw
 exact na _ _ (b0.perm (cC bB).symm)
def ae.F5{rest:aa Oper}{op:Op}(n:Nat)(av:L.drop n=a6 hp)(pU:op=.mapUpdate t x y z∨op=.insert t x y z){p key elem:Nat}{k k':bC}{cN:aH bC}{α β:Type}[ah α][ah β][kq α][DecidableEq α]{kv sv:aa (α×β)}{i:α}{v:β}(hu:c.P.underlying t=some (.map key elem))(l6:qb c.P key α)(al:aP c E L x (.of (⟨some p⟩:eJ)))(hy:aP c E L y (.of i))(cy:aP c E L z (.of v))(hp':pat hp p=some k)(hk:dN.gk p k=[⟨some p,.map kv⟩])(u2:gj kv i v=sv)(k9:dN.gk p k'=[⟨some p,.map sv⟩])(cy:cr hp p k'=cN)(na:ae c ops Q rest E (L.take n++a6 cN)):ae c ops Q (⟨none,op,ty,pos,af,none⟩::rest) E L:=by
 subst cy;have e:L=L.take n++a6 hp:=by rw[<-av,gb]
 clear av;generalize L.take n=loc at *;subst e;exact ae.ajl pU hu l6 al hy cy hp' hk u2 k9 na
def ae.ajm{rest:aa Oper}{p key elem:Nat}{k k':bC}{α β:Type}[ah α][ah β][DecidableEq α]{kv sv:aa (α×β)}{i:α}(hu:c.P.underlying t=some (.map key elem))(l6:qb c.P key α)
 (al:aP c E (loc++a6 hp) x (.of (⟨some p⟩:eJ))) (hy:aP c E (loc++a6 hp) y (.of i)) (hp':pat hp p=some k) (hk:dN.gk p k=[⟨some p,.map kv⟩]) (u2:iC kv i=sv) (k9:dN.gk p k'=[⟨some p,.map sv⟩])
 (na:ae c ops Q rest E (loc++a6 (cr hp p k'))):ae c ops Q (⟨none,.call ⟨.builtin .delete,#[x,y],#[t,t2]⟩,ty,pos,af,none⟩::rest) E (loc++a6 hp):=λa W s=>by
 subst u2
 obtain⟨es,clock,aU,ad,ay,aR⟩:=s.Gc (jc (n:=loc.length) (by simp) hp' hk)
 have mW:=xu.1 (al a W s)
 have tF:=hy a W s
 obtain⟨r,aD,aY⟩:=Ow l6 tF ad
 have bF:(getObj p).run c.P W=.ok (.map es clock) W:=by simp[getObj,Sem.run,aU]
 have ak:=λb=>l6.check b _ W _ i tF
 have hF:∀o,(setObj p o).run c.P W=.ok () (W.putObj p o):=λo=>by simp only[setObj,Sem.run,aU];rfl
 have key:∃oa,(Builtin.delete_ #[t,t2] ty #[a.eval x,a.eval y]).run c.P W=.ok (.tuple #[]) (W.putObj p (.map oa clock))∧l1 (ks (loc++a6 hp)++c.bP) W oa.toList (iC kv i)∧(∀x∈oa.toList,x.born<clock)∧(oa.toList.map MapEntry.born).Nodup:=by
  cases su:nu kv i 0 with
  | none=>
    rw[su]at aY
    cases r with
    |some q=>exact aY.elim
    | none=>
      obtain⟨_,g1⟩:=OU ad su
      exact⟨es,by simp[Builtin.delete_,dI,dL hu,mW,bF,ak,aD,hF],by rw[g1];exact ad,ay,aR⟩
  | some q=>
    rw[su]at aY
    cases r with
    |none=>exact aY.elim
    | some og=>
      obtain⟨m,e,g1,g2,_,_,g5⟩:=Pm ad su
      have j8:og.1=m:=by have:=aY.1;omega
      have hm:m<es.size:=by simpa using (fL.1 g2).1
      have he:(es.eraseIdxIfInBounds m).toList=es.toList.eraseIdx m:=by simp[Array.eraseIdxIfInBounds,hm]
      have mQ:(es.toList.eraseIdx m).Sublist es.toList:=List.eraseIdx_sublist _ _
      exact⟨es.eraseIdxIfInBounds m,by simp[Builtin.delete_,dI,dL hu,mW,bF,ak,aD,hF,j8],by rw[he];exact g5,by rw[he];exact λw hw=>ay w (mQ.subset hw),by rw[he];exact(mQ.map _).nodup aR⟩
 obtain⟨oa,jt,au,aW,cF⟩:=key
 obtain⟨R,bj,bB⟩:=vw hp'
 have bB:=bB k'
 rw[hk]at bj
 rw[k9]at bB
 have cC:∀{z:aa (α×β)} {M:aa aE},M.Perm ([⟨some p,.map z⟩]++R)->(loc++M).Perm (⟨some p,.map z⟩::(loc++R)):=λh=>(h.append_left loc).trans (by simp only[List.singleton_append];exact q5)
 have b0:=(s.perm (cC bj)).nx (i:=0) (cp':=.map (iC kv i)) I (o':=.map oa clock) ⟨oa,clock,rfl,au.mono (oW (cC bj)),aW,cF⟩
 refine iw I (R:=λv W'=>W'=W.putObj p (.map oa clock)) (.mK (v:=.tuple #[]) ?_ I) λv W' hw=>?_
 ·simp[execOp,resolve,invoke,builtin,jt]
 subst hw
 exact na _ _ (b0.perm (cC bB).symm)
def ae.K7{rest:aa Oper}{p key elem:Nat}{k k':bC}{cN:aH bC}{α β:Type}[ah α][ah β][DecidableEq α]{kv sv:aa (α×β)}{i:α}(n:Nat)(av:L.drop n=a6 hp)(hu:c.P.underlying t=some (.map key elem))(l6:qb c.P key α)(al:aP c E L x (.of (⟨some p⟩:eJ)))(hy:aP c E L y (.of i))(hp':pat hp p=some k)(hk:dN.gk p k=[⟨some p,.map kv⟩])(u2:iC kv i=sv)(k9:dN.gk p k'=[⟨some p,.map sv⟩])(cy:cr hp p k'=cN)(na:ae c ops Q rest E (L.take n++a6 cN)):ae c ops Q (⟨none,.call ⟨.builtin .delete,#[x,y],#[t,t2]⟩,ty,pos,af,none⟩::rest) E L:=by
 subst cy;have e:L=L.take n++a6 hp:=by rw[<-av,gb]
 clear av;generalize L.take n=loc at *;subst e;exact ae.ajm hu l6 al hy hp' hk u2 k9 na
def ahF{p key elem:Nat}{α β:Type}[ah α][ah β]{kv:aa (α×β)}(hu:c.P.underlying t=some (.map key elem))(al:aP c E L x (.of (⟨some p⟩:eJ)))(hm:(⟨some p,.map kv⟩:aE)∈L):
 bc c E L ⟨d,.call ⟨.builtin .len,#[x],#[t]⟩,ty,pos,af,g⟩ (.of (kv.length:Int)):=.pure λa W s=>by
 obtain⟨es,clock,aU,ad,ay,aR⟩:=s.Gc hm
 have mW:=xu.1 (al a W s)
 have bF:(getObj p).run c.P W=.ok (.map es clock) W:=by simp[getObj,Sem.run,aU]
 have ao:es.size=kv.length:=by simpa using ad.length
 refine⟨.int .i64 kv.length,?_,of_int.2 I⟩
 simp[execOp,resolve,invoke,builtin,Builtin.len_,mW,bF,ao,dL hu,goInt]
end
def ajn{P:Program}{t:bx}(h:P.underlying t=some (.int .i64)):qb P t Int where
 check b A W u x al:=Pa (α:=Int) h I b 10000 A W u x (by decide) al
 same A W u v x y al hy:=by
  have:=(W5 h).run 10000 (by decide) A W u v x y al hy;simpa[Op.equal,Op.maxDepth]using this
 now:=⟨_,h,λA W u v x y al hy=>.inr (by
  rw[of_int.1 al,of_int.1 hy];simp only[Instr.sameNow,br];rfl)⟩
def Qg{P:Program}{t:bx}{α:Type}[ah α][DecidableEq α]{D:TypeDesc}{n m:Nat}(h:P.underlying t=some D)(l5:(match (motive:=TypeDesc->Bool) D with | .array _ _| .struct _=>true|_=>false)=true)(arD:sB P t α n)(vb:mT P t α m)(aI:Nat.ble n 10000=true)(hm:Nat.ble m 10000=true):qb P t α where
 check b A W u x al:=arD b 10000 A W u x (oO aI) al
 same A W u v x y al hy:=by
  have:=vb.run 10000 (oO hm) A W u v x y al hy;simpa[Op.equal,Op.maxDepth]using this
 now:=⟨_,h,λA W u v x y al hy=>.inl (by cases D <;> simp at l5 <;> rfl)⟩
structure kU(P:Program)(t:TypeId)(name:String)(f:FuncId):Prop where
 run:∀v W args,(callMethod (.iface t v) name args).run P W=.ok (.enter f (#[v]++args)) W
def kU.of{P:Program}{t:bx}{name:String}{f:FuncId}{i:TypeInfo}{D:TypeDesc}{m:Method}(ax:P.info? t=some i)(hm:i.methods.find? (λx=>x.name==name)=some m)(hp:m.path= #[])(aY:m.func=some (f,false))(l5:P.underlying t=some D)
 (aI:(match (motive:=TypeDesc->Bool) D with | .pointer _=>false|_=>true)=true) (cf:bD P f):kU P t name f where
 run v W args:=by
  have aqq:∀args,(callFunc f args).run P W=.ok (.enter f args) W:=λargs=>cf.run ..;have dw:∀n,(method (n+1) t v name).run P W=.ok (f,v) W:=λn=>by
   simp only[method,dI,typeInfo,run_program,Result.andThen_ok,ax,Sem.run_pure,hm,hp,aY,follow,receiverAt,dL l5];cases D <;> simp at aI <;> simp[Place.get]
  obtain⟨n,aI⟩:∃n,P.types.size+Made.depth=n+1:=⟨P.types.size+Made.depth-1,by simp[Made.depth]⟩;simp only[callMethod,dI,run_program,Result.andThen_ok,aI,dw,aqq]
def kU.uP{P:Program}{t:bx}{name:String}{f:FuncId}{D:TypeDesc}(hm:((P.info? t).bind λi=>(i.methods.find? (λx=>x.name==name)).map λm=>(m.path.size,m.func))=some (0,some (f,false)))(l5:P.underlying t=some D)
 (aI:(match (motive:=TypeDesc->Bool) D with | .pointer _=>false|_=>true)=true) (cf:bD P f):kU P t name f:=by
 cases ax:P.info? t with
 |none=>rw[ax]at hm;cases hm
 | some i=>
   rw[ax]at hm
   simp only[Option.bind_some]at hm
   cases ad:i.methods.find? (λx=>x.name==name)with
   |none=>rw[ad]at hm;cases hm
   | some m=>
     rw[ad]at hm
     simp only[Option.map_some,fi,vp]at hm
     exact kU.of ax ad (Array.eq_empty_of_size_eq_zero hm.1) hm.2 l5 aI cf
def bR.map{P:Program}{f:FuncId}{τs:aa J}{Lin:aa aE}{δ Sc:Type}{ρ:δ->J}{Lo:δ->aa aE}{Ht:Sc->J}{abk:Sc->aa aE}(F:δ->Sc)(aD:∀d,Ht (F d)=ρ d)(ao:∀d,abk (F d)=Lo d)(h:bR P f τs Lin ρ Lo):bR P f τs Lin Ht abk:=
 λA W vs h1 ad ay aR aX=>(h A W vs h1 ad ay aR aX).mono λe W' ⟨v,d,aq,cA,eZ,lK,fT,kR⟩=>⟨v,F d,aq,cA,by rw[ao];exact eZ,by rw[ao];exact lK,by rw[ao];exact fT,by rw[ao,aD];exact kR⟩
structure mJ(P:Program)(name:String)(τ:J)(τs:List J)(Lin:List aE){δ:Type}(ρ:δ->J)(Lo:δ->List aE):Prop where
 go:∀(A:List Nat) (W:World) (u:Value) (vs:List Value),(∀k∈A,k<W.heap.size∧k∉ks Lin)->(ks Lin).Nodup->(∀k∈ks Lin,k<W.heap.size)->(∀e∈Lin,e.ok (ks Lin++A) W)->gG (ks Lin++A) W (τ::τs) (u::vs)->
  ∃f v,(∀args,(callMethod u name args).run P W=.ok (.enter f (#[v]++args)) W)∧Calls P f (v::vs).toArray W (kA (ks Lin) A W ρ Lo)
def mJ.of{P:Program}{name:String}{t:bx}{f:FuncId}{τ σ:J}{τs:aa J}{Lin:aa aE}{δ:Type}{ρ:δ->J}{Lo:δ->aa aE}(mt:kU P t name f)(Hu:∀A W u,τ.holds A W u->∃v,u=.iface t v∧σ.holds A W v)
 (h:bR P f (σ::τs) Lin ρ Lo):mJ P name τ τs Lin ρ Lo where
 go A W u vs h1 ad ay aR aX:=by
  cases aX with
  | cons bh c5=>
    obtain⟨v,rfl,dW⟩:=Hu _ _ _ bh
    exact⟨f,v,λargs=>mt.run v W args,h A W (v::vs) h1 ad ay aR (.cons dW c5)⟩
section
variable{c:cj}{E:aa (Nat×J)}{L:aa aE}{ops:Array Oper}{Q:Exit->Act->bf->Prop}
variable{d:aw Tmp}{ty:bx}{pos:String}{af:Array Edge}{g:aw (Nat×Bool)}{x y z:bZ}{t t2:bx}
def Pn{a:Act}{W:bf}{name:String}{xs:aa bZ}{ats:Array bx}{τ:J}{τs:aa J}{Lin Lr:aa aE}{δ:Type}{ρ:δ->J}{Lo:δ->aa aE}(h:mJ c.P name τ τs Lin ρ Lo)
 (s:bG c E (Lin++Lr) a W) (al:gG (ks (Lin++Lr)++c.bP) W (τ::τs) ((x::xs).map a.eval)):
 gJ c.P ⟨d,.call ⟨.invoke x name,xs.toArray,ats⟩,ty,pos,af,g⟩ a W λv W'=> ∃a1,bG c E (Lo a1++Lr) a W'∧(ρ a1).holds (ks (Lo a1++Lr)++c.bP) W' v:=by
 have lB:=s.nodup
 rw[eg]at lB
 obtain⟨nF,sr,p2⟩:=nd.1 lB
 have hF:Ext (ks (Lin++Lr)++c.bP) W (ks Lin++(ks Lr++c.bP)) W:=Cn
 have ev:∀k∈ks Lr++c.bP,k<W.heap.size∧k∉ks Lin:=λk hm=>by
  rcases ca.1 hm with hm|hm
  ·exact⟨s.lt k (by rw[eg];exact ca.2 (.inr hm)),λh=>p2 k h k hm I⟩
  obtain⟨h1,ad⟩:=s.er k hm;exact⟨h1,λh=>ad (by rw[eg];exact ca.2 (.inl h))⟩
 have b9:∀k∈ks Lin,k<W.heap.size:=λk hm=>s.lt k (by rw[eg];exact ca.2 (.inl hm))
 obtain⟨f,v,jt,ak⟩:=h.go (ks Lr++c.bP) W (a.eval x) (xs.map a.eval) ev nF b9 (λe he=>aE.um (s.own e (ca.2 (.inl he))) hF λ_ _=>rfl) (by simpa using al.mono hF)
 refine .vE (f:=f) (args:=(v::xs.map a.eval).toArray) (W':=W) ?_ (ak.mono λe W' ⟨v,a1,he,aY,h1,ad,ay,aR⟩=>?_)
 ·have:=jt (xs.map a.eval).toArray
  simp only[execOp,resolve,dI,Sem.run_pure,Result.andThen_ok,invoke]
  simp only[List.map_toArray]at this⊢
  simp
  rw[sF (by simp),this]
  simp
 refine⟨v,he,a1,s.after aY h1 ad ay,(ρ a1).mono Ke aR⟩
variable{bC:Type}[dN bC]{hp:aH bC}
def ae.Gs{rest:aa Oper}{a1:Nat}{name:String}{xs:aa bZ}{ats:Array bx}{τ:J}{τs:aa J}{Lin Lr:aa aE}{δ:Type}{ρ:δ->J}{Lo:δ->aa aE}{hq:δ->aH bC}(n m:Nat)(av:L.drop n=a6 hp)(h:mJ c.P name τ τs (Lin++a6 hp) ρ (λd=>Lo d++a6 (hq d)))
 (h1:(L.take n).take m=Lin) (ad:(L.take n).drop m=Lr) (al:ic c E L (x::xs) (τ::τs)) (aI:Nat.blt a1 c.n=true) (k:∀q,ae c ops Q rest ((a1,ρ q)::E) ((Lo q++Lr)++a6 (hq q))):
 ae c ops Q (⟨some a1,.call ⟨.invoke x name,xs.toArray,ats⟩,ty,pos,af,none⟩::rest) E L:=by
 have e:L=(Lin++Lr)++a6 hp:=by rw[<-h1,<-ad,gb,<-av,gb]
 clear av h1 ad
 subst e
 exact λa W s=>iw I (Pn (Lr:=Lr) h (s.perm mG) ((al.holds a W s).mono (oW mG))) λv W' ⟨q,b0,ba⟩=>
  k q _ _ ((b0.perm mG).put (by simpa using aI) ((ρ q).mono (oW mG) ba))
def fa.Gs{name:String}{xs:aa bZ}{ats:Array bx}{τ:J}{τs:aa J}{ρ:J}(n:Nat)(av:L.drop n=a6 hp)(h:mJ c.P name τ τs (a6 hp) (λ_:Unit=>ρ) (λ_=>a6 hp))
 (al:ic c E L (x::xs) (τ::τs)):fa c E L ⟨d,.call ⟨.invoke x name,xs.toArray,ats⟩,ty,pos,af,g⟩ ρ:=λa W s=>by
 have e:L=L.take n++a6 hp:=by rw[<-av,gb]
 have cC:L.Perm (a6 hp++L.take n):=by
  conv=>lhs;rw[e]
  exact nc
 have aU:=Pn (d:=d) (ty:=ty) (pos:=pos) (af:=af) (g:=g) (ats:=ats) (Lr:=L.take n) h (s.perm cC) ((al.holds a W s).mono (oW cC))
 unfold gJ at aU⊢
 exact vq (λhL W' ⟨v,h1,_,ad,ay⟩=>⟨v,h1,ad.perm cC.symm,ρ.mono (oW cC.symm) ay⟩) aU
def KD{D:TypeDesc}{σ τ:J}(hu:c.P.underlying t=some D)(l5:(match (motive:=TypeDesc->Bool) D with | .interface _=>false|_=>true)=true)(al:aP c E L x σ)(Hu:∀A W v,σ.holds A W v->τ.holds A W (.iface t v)):
 bc c E L ⟨d,.makeInterface t x,ty,pos,af,g⟩ τ:=.pure λa W s=>
 ⟨.iface t (a.eval x),by
   simp only[execOp,Instr.makeInterface,dI,dL hu,Result.andThen_ok];cases D <;> simp at l5 <;> rfl,Hu _ _ _ (al a W s)⟩
end
def LH(P:Program)(u:bl){α σ ε γ:Type}(τ:α->J)(Ls:σ->γ->aa aE)(Lx:ε->γ->aa aE)(step:α->σ->ai (σ⊕ε))(arE:aa Nat->bf->Prop):Prop:=
 ∃ l,u=.func (.yield l) #[] #[]∧∀x s R,step x s R->∀g A W v,arE (ks (Ls s g)++A) W->GD A W (Ls s g)->(τ x).holds (ks (Ls s g)++A) W v->
   YieldAt Fence.wide 8 P l #[v] W (λe W'=>(∃b0,R (.inl b0)∧kA (ks (Ls s g)) A W (λ_:γ=>J.of true) (λg=>Ls b0 g) e W')∨∃q,R (.inr q)∧kA (ks (Ls s g)) A W (λ_:γ=>J.of false) (λg=>Lx q g) e W')
structure FT(P:Program)(f:FuncId)(τs:List J){bC:Type}[dN bC]{α:Type}(τ:α->J)(run:∀{σ ε:Type},(σ->aH bC)->(α->σ->ai (σ⊕ε))->σ->ai (σ⊕ε)):Prop where
 go:∀{σ ε γ:Type} (Ls:σ->γ->List aE) (Lx:ε->γ->List aE) (hq:σ->aH bC) (lN:σ->γ->List aE),(∀s g,Ls s g=lN s g++a6 (hq s))->∀(step:α->σ->ai (σ⊕ε)) (s0:σ) (g0:γ) (R:σ⊕ε->Prop),run hq step s0 R->
  ∀ (A:List Nat) (W:World) (u:Value) (vs:List Value),GD A W (Ls s0 g0)->gG (ks (Ls s0 g0)++A) W τs vs->
    LH P u τ Ls Lx step (λcE W'=>Ext (ks (Ls s0 g0)++A) W cE W')->
    Calls P f (u::vs).toArray W (kA (ks (Ls s0 g0)) A W (δ:= {r // R r}×γ) (λ_=>.bY []) (λd=>Lr Ls Lx d.1.1 d.2))
def FT.of{P:Program}{f:FuncId}{fn:Func}{code:Code}{n:Nat}{τs:aa J}{bC:Type}[dN bC]{α:Type}{τ:α->J}{run:∀{σ ε:Type},(σ->aH bC)->(α->σ->ai (σ⊕ε))->σ->ai (σ⊕ε)}
 (aY:P.funcs[f]? =some fn) (hb:fn.body=some code) (aI:fn.ntmps=n) (hlen:Nat.ble (τs.length+1) n=true)
 (h:∀{σ ε γ:Type} (Ls:σ->γ->aa aE) (Lx:ε->γ->aa aE) (hq:σ->aH bC) (lN:σ->γ->aa aE),(∀s g,Ls s g=lN s g++a6 (hq s))->∀(step:α->σ->ai (σ⊕ε)) (s0:σ) (g0:γ) (R:σ⊕ε->Prop),run hq step s0 R->
  ∀ W A u,LH P u τ Ls Lx step (λcE W'=>Ext (ks (Ls s0 g0)++A) W cE W')->
    az ⟨P,n,W,ks (Ls s0 g0),A,none,[]⟩ (bodyPost P fn (kA (ks (Ls s0 g0)) A W (δ:= {r // R r}×γ) (λ_=>.bY []) (λd=>Lr Ls Lx d.1.1 d.2))) code (params 0 (.eq u::τs)) (Ls s0 g0)):FT P f τs τ run:=by
 refine⟨?_⟩
 intro σ ε γ Ls Lx hq lN pV step s0 g0 R aD A W u vs ao ba hy
 refine Js aY hb (wpIn_wide.1 (h Ls Lx hq lN pV step s0 g0 R aD W A u hy _ _ ?_))
 have wC:gG (ks (Ls s0 g0)++A) W (.eq u::τs) (u::vs):=.cons I ba
 have kN:=wC.length
 have hle:τs.length+1<=n:=oO hlen
 exact
 {defers:=rfl
  size:=by simp at kN;simp[aI,kN];omega
  env:=λt τ en=>by
   obtain⟨_,v,ad,ay⟩:=zu wC 0 t τ en;refine⟨v,?_,ay⟩;have b9:t<(u::vs).length:=(fL.1 ad).1;rw[ve (by simpa using b9)];simpa using ad
  dk:=.refl _ _
  own:=ao.ok
  nodup:=ao.nodup
  lt:=ao.lt
  fR:=λk hk _=>hk
  er:=ao.er}
section
variable{c:cj}{E:aa (Nat×J)}{L:aa aE}{ops:Array Oper}{Q:Exit->Act->bf->Prop}
variable{d:aw Tmp}{ty:bx}{pos:String}{af:Array Edge}{g:aw (Nat×Bool)}{x y:bZ}{t t2:bx}
def Yp{bC:Type}[dN bC]{σ γ:Type}{Ls lN:σ->γ->aa aE}{hq:σ->aH bC}{s:σ}{g:γ}{p:Nat}{k:bC}{e:aE}(n:Nat)(av:L.drop n=Ls s g)(pV:∀s g,Ls s g=lN s g++a6 (hq s))(h:pat (hq s) p=some k)(hk:dN.gk p k=[e]):e∈L:=by
 obtain⟨R,h1,_⟩:=vw h;rw[hk]at h1;have:e∈L.drop n:=by rw[av,pV];exact ca.2 (.inr (h1.mem_iff.2 (by simp)))
 exact Bs this
def ae.aiR{rest:aa Oper}{a1 wS:Nat}{ats:Array bx}{u:bl}{α σ ε γ:Type}{τ:α->J}{Ls:σ->γ->aa aE}{Lx:ε->γ->aa aE}{step:α->σ->ai (σ⊕ε)}{Lin:aa aE}{x:bZ}{v:α}{s:σ}{gg:γ}{R:σ⊕ε->Prop}
 (ak:c.rd=none) (hy:LH c.P u τ Ls Lx step (λcE W'=>Ext (c.X++c.bP) c.jO cE W')) (aY:look E wS=some (.eq u)) (al:aP c E (Lin++Ls s gg) x (τ v)) (aD:step v s R) (aI:Nat.blt a1 c.n=true)
 (aJ:∀b0,R (.inl b0)->∀dm,ae c ops Q rest ((a1,.of true)::E) (Lin++Ls b0 dm)) (bE:∀q,R (.inr q)->∀dm,ae c ops Q rest ((a1,.of false)::E) (Lin++Lx q dm)):
 ae c ops Q (⟨some a1,.call ⟨.value (.tmp wS),#[x],ats⟩,ty,pos,af,none⟩::rest) E (Lin++Ls s gg):=λa W st=>by
 obtain⟨l,rfl,hy⟩:=hy
 obtain⟨S3,h1,ad⟩:=st.env wS _ aY
 have hu:S3=.func (.yield l) #[] #[]:=ad
 subst hu
 have tC:bG c E (Ls s gg++Lin) a W:=st.perm nc
 have ba:=al a W st
 have wC:(τ v).holds (ks (Ls s gg)++(ks Lin++c.bP)) W (a.eval x):=(τ v).mono (.drop λk hm=>by
  rw[eg];simp only[ca]at hm⊢;rcases hm with hm|hm|hm
  ·exact .inl (.inr hm)
  ·exact .inl (.inl hm)
  exact .inr hm) ba
 obtain⟨fn,tmps,assign,body,jt,kp⟩:=hy v s R aD gg (ks Lin++c.bP) W (a.eval x) (tC.YT.trans Cn) tC.LG wC
 have QX:(execOp a.eval ⟨some a1,.call ⟨.value (.tmp wS),#[x],ats⟩,ty,pos,af,none⟩).run c.P W=.ok (.round l fn tmps assign body) W:=by
  rw[<-jt];simp[execOp,resolve,Deferred.ofValue,Act.eval,h1,invoke,dI,Sem.run_pure,Result.andThen]
 refine wpListIn_plain I λK qX=>?_
 refine⟨λ_ _=>trivial,?_⟩
 rw[NC _ _ _ (λ_ h=>by cases h),QX,Oper.uponIn_round]
 refine⟨λh=>by simp at h,?_⟩
 have R6:RoundIn c.F (9-1) c.P l fn tmps assign body W _:=kp
 refine R6.mono λe W' he=>?_
 rcases he with⟨b0,hs,w,dm,rfl,tD,ay,aR,aX,bh⟩|⟨q,hs,w,dm,rfl,tD,ay,aR,aX,bh⟩
 ·obtain rfl:=of_bool.1 bh
  refine qX _ _ (aJ b0 hs dm _ _ ?_)
  exact(((tC.after tD ay aR aX).perm nc).put (by simpa using aI) (of_bool.2 I))
 obtain rfl:=of_bool.1 bh
 refine qX _ _ (bE q hs dm _ _ ?_)
 exact(((tC.after tD ay aR aX).perm nc).put (by simpa using aI) (of_bool.2 I))
def abl{σ ε γ:Type}(c:cj)(bT:ε->Code)(l D:Nat)(rec:Loop)(Ls:σ->γ->aa aE)(Lx:ε->γ->aa aE)(R:σ⊕ε->Prop):Exit->Act->bf->Prop:=λx a W=>
 (∃b0,R (.inl b0)∧x=.normal∧∃g,bG c [] (⟨some l,.is (.loop rec)⟩::⟨some D,.fO⟩::Ls b0 g) a W)∨
 ∃q,R (.inr q)∧zW (bT q)=true∧x=FW (bT q)∧∃g,bG c [] (⟨some l,.is (.loop rec)⟩::⟨some D,.fO⟩::Lx q g) a W
def ar.anv{σ ε γ:Type}{bT:ε->Code}{l D:Nat}{rec:Loop}{Ls:σ->γ->aa aE}{Lx:ε->γ->aa aE}{R:σ⊕ε->Prop}{b0:σ}(kp:R (.inl b0))(g:γ)(n:Nat)(av:L.drop n=⟨some l,.is (.loop rec)⟩::⟨some D,.fO⟩::Ls b0 g):
 ar c (abl c bT l D rec Ls Lx R) .normal E L:=λa W s=>.inl ⟨b0,kp,rfl,g,by rw[<-av];exact(s.r2 n).less (λt τ h=>by simp[look]at h)⟩
def af6{gt p:Nat}{assign body:Code}{f:FuncId}{rl:aa J}{bC:Type}[dN bC]{α σ ε γ ρ:Type}{τ:α->J}{run:∀{σ ε:Type},(σ->aH bC)->(α->σ->ai (σ⊕ε))->σ->ai (σ⊕ε)}
 {Ls:σ->γ->aa aE} {Lx:ε->γ->aa aE} {hq:σ->aH bC} {step:α->σ->ai (σ⊕ε)} {s0:σ} {g0:γ} {k:σ⊕ε->ai ρ} {kW:ρ->Prop} (lN:σ->γ->aa aE) (bT:ε->Code)
 (ak:c.rd=none) (cf:bD c.P f) (bF:look E gt=some (.kE f rl)) (pn:FT c.P f rl τ run) (aD:ai.bind (run hq step s0) k kW) (pV:∀s g,Ls s g=lN s g++a6 (hq s)) (av:L=Ls s0 g0) (hp:Nat.blt p c.n=true)
 (ux:∀x s R,step x s R->∀g (qI:bf) (qW qJ:aa Nat) (l D:Nat) (rec:Loop),rec.state=.ready->
  az ⟨c.P,c.n,qI,qW,qJ,some l,[]⟩ (Exit.then (MA ⟨c.P,c.n,qI,qW,qJ,some l,[]⟩ l body (abl ⟨c.P,c.n,qI,qW,qJ,some l,[]⟩ bT l D {rec with state:=.busy} Ls Lx R)) (λ_ _ _=>False)) assign ((p,τ x)::E) (⟨some l,.is (.loop rec)⟩::⟨some D,.fO⟩::Ls s g))
 (s9:∀b0,k (.inl b0) kW->∀g D,ar {c with ds:=tf D::c.ds} Q .normal E (⟨some D,.fO⟩::Ls b0 g))
 (Ga:∀q,k (.inr q) kW->∀g D,az {c with ds:=tf D::c.ds} Q (bT q) E (⟨some D,.fO⟩::Lx q g)):
 az c Q (.rangeFunc (.tmp gt) #[p] assign body) E L:=λa W st=>by
 subst av
 refine wpIn_rangeFunc λfn Mi=>?_
 show ∃l mark Au d alN DI args aoq,(Instr.enterLoop fn a.tmps #[p] assign body c.rd).run c.P W=_∧_
 rw[ak]
 obtain⟨rec,mm⟩:∃rec:Loop,rec= {state:=.ready,pending:=none,fn,tmps:=a.tmps,params:= #[p],assign,body,defers:=W.heap.size}:=⟨_,rfl⟩
 obtain⟨v,Hl,lb,AT,aqf⟩:=st.env gt _ bF
 obtain⟨h5,Hm⟩:∃h5,(W.alloc (.deferred (some []))).alloc (.loop rec)=h5:=⟨_,rfl⟩
 have s1:=(st.alloc (o:=.deferred (some [])) (cp:=.fO) I).alloc (o:=.loop rec) (cp:=.is (.loop rec)) I
 rw[Hm,II]at s1
 obtain⟨D,l5⟩:∃D,D=W.heap.size:=⟨_,rfl⟩
 obtain⟨l,ao⟩:∃l,l=W.heap.size+1:=⟨_,rfl⟩
 have Hn:=run_enterLoop_outer (P:=c.P) (w:=W) fn a.tmps #[p] assign body
 rw[<-mm,Hm,<-ao,<-l5]at Hn
 rw[<-ao,<-l5]at s1
 obtain⟨nG,tE⟩:∃nG:σ->γ->aa aE,nG=λs g=>⟨some l,.is (.loop rec)⟩::⟨some D,.fO⟩::Ls s g:=⟨_,rfl⟩
 obtain⟨qQ,Ho⟩:∃qQ:ε->γ->aa aE,qQ=λq g=>⟨some l,.is (.loop {rec with state:=.done,pending:=some (bT q)})⟩::⟨some D,.fO⟩::Lx q g:=⟨_,rfl⟩
 have s2:bG c E (nG s0 g0) a h5:=by rw[tE];exact s1
 have R8:gG (ks (nG s0 g0)++c.bP) h5 rl lb:=by
  have h1:(J.kE f rl).holds (ks (nG s0 g0)++c.bP) h5 v:=by
   obtain⟨DH,h1,ad⟩:=s2.env gt _ bF;rw[Hl]at h1;cases h1;exact ad
  obtain⟨R9,au,aW⟩:=h1;rw[AT]at au;have:R9=lb:=by injection au with _ _ au;injection au with au;exact au.symm
  rw[<-this];exact aW
 have Hp:bG c E ((nG s0 g0)++[]) a h5:=by rw[ma];exact s2
 have Gb:=Hp.LG
 simp only[ks,List.nil_append]at Gb
 have Rt:LH c.P (.func (.yield l) #[] #[]) τ nG qQ step (λcE W'=>Ext (ks (nG s0 g0)++c.bP) h5 cE W'):=by
  refine⟨l,rfl,λx s MB hs g A q0 v2 gR hle ba=>?_⟩;have GF:=hle;rw[tE]at GF;obtain⟨o,dd,eS⟩:=GF.ok ⟨some l,.is (.loop rec)⟩ (by simp);have th:o=.loop rec:=eS;subst th;have hy:=run_yield (P:=c.P) (args:= #[v2]) dd (by rw[mm];rfl);refine⟨_,_,_,_,hy,roundIn_of_wpIn r1 ?_⟩;have au:rec.assign=assign:=by rw[mm]
  have aW:rec.body=body:=by rw[mm]
  have cF:rec.params= #[p]:=by rw[mm]
  have fv:rec.tmps=a.tmps:=by rw[mm]
  rw[au,aW,cF,fv];refine J7 (n:=9) I ?_;have QY:((#[p]:Array Tmp).zip #[v2]).foldl (λtmps (t,a)=>tmps.setIfInBounds t a) a.tmps=a.tmps.setIfInBounds p v2:=by simp
  rw[QY];subst tE Ho;refine wpIn_mono ((ux x s MB hs g q0 (ks (⟨some l,.is (.loop rec)⟩::⟨some D,.fO⟩::Ls s g)) A l D rec (by rw[mm])) {tmps:=a.tmps.setIfInBounds p v2,defers:=[]} q0 ?_) ?_
  ·have nH:p<c.n:=by simpa using hp
   exact
   {defers:=rfl
    size:=by simp[s2.size]
    env:=λt tu en=>by
     simp only[look]at en;by_cases e:Nat.beq p t=true
     ·rw[e]at en;simp only[cond_true,fi]at en;subst en;have:=eP.1 e;subst this;exact⟨v2,by simp[s2.size,nH],ba⟩
     simp only[kX]at e;rw[e]at en;simp only[cond_false]at en;obtain⟨u,h1,ad⟩:=s2.env t tu en;have cX:p≠t:=λh=>by rw[eP.2 h]at e;cases e
     exact⟨u,by rw[yY cX];exact h1,tu.mono gR ad⟩
    dk:=.refl _ _
    own:=hle.ok
    nodup:=hle.nodup
    lt:=hle.lt
    fR:=λk hk _=>hk
    er:=hle.er}
  intro e a3 arz hq;cases e with
  | normal=>
    obtain⟨S4,Sa,hb⟩:=hq
    refine⟨S4,Sa,J7 (n:=9) I (wpIn_mono hb ?_)⟩
    intro e a5 HX Mj
    have fin:∀(jump:aw Code) {Lr:aa aE},bG ⟨c.P,c.n,q0,ks (⟨some l,.is (.loop rec)⟩::⟨some D,.fO⟩::Ls s g),A,some l,[]⟩ [] (⟨some l,.is (.loop {rec with state:=.busy})⟩::⟨some D,.fO⟩::Lr) a5 HX->
     ∃rE,(Instr.endRound l jump).run c.P HX=.ok (.bool jump.isNone) rE∧bG ⟨c.P,c.n,q0,ks (⟨some l,.is (.loop rec)⟩::⟨some D,.fO⟩::Ls s g),A,some l,[]⟩ [] (⟨some l,.is (.loop {rec with state:=if jump.isNone then .ready else .done,pending:=jump})⟩::⟨some D,.fO⟩::Lr) a5 rE:=λjump Lr jj=>by
     obtain⟨o,h1,ad⟩:=jj.own ⟨some l,.is (.loop {rec with state:=.busy})⟩ (by simp)
     have mu:o=.loop {rec with state:=.busy}:=ad
     subst mu
     exact⟨_,run_endRound jump h1,jj.nx (i:=0) I I⟩
    rcases Mj with⟨b0,fJ,rfl,dm,jj⟩|⟨q,fJ,aC,rfl,dm,jj⟩
    ·obtain⟨rE,bh,km⟩:=fin none jj
     refine⟨_,rE,bh,.inl ⟨b0,fJ,?_⟩⟩
     have AU:({rec with state:=if (none:aw Code).isNone then .ready else .done,pending:=none}:Loop)=rec:=by rw[mm];rfl
     rw[AU]at km
     exact km.ends (ρ:=λ_:γ=>J.of true) (Lo:=λg=>⟨some l,.is (.loop rec)⟩::⟨some D,.fO⟩::Ls b0 g) dm (y9 _) (of_bool.2 I)
    obtain⟨rE,bh,km⟩:=fin (some (bT q)) jj
    have key:kA (ks (⟨some l,.is (.loop rec)⟩::⟨some D,.fO⟩::Ls s g)) A q0 (λ_:γ=>J.of false) (λg=>⟨some l,.is (.loop {rec with state:=.done,pending:=some (bT q)})⟩::⟨some D,.fO⟩::Lx q g) (.returned (.bool false)) rE:=
     km.ends (ρ:=λ_:γ=>J.of false) (Lo:=λg=>⟨some l,.is (.loop {rec with state:=.done,pending:=some (bT q)})⟩::⟨some D,.fO⟩::Lx q g) dm (y9 _) (of_bool.2 I)
    exact U4 aC bh (.inr ⟨q,fJ,key⟩)
  |exit id=>exact hq.elim
  |goto t=>exact hq.elim
  |ret=>exact hq.elim
  |panic ch=>exact hq.elim
  |outgrown=>exact hq.elim
 have Af:=pn.go nG qQ hq (λs g=>⟨some l,.is (.loop rec)⟩::⟨some D,.fO⟩::lN s g) (λs g=>by rw[tE];simp only[pV,List.cons_append]) step s0 g0 (λr=>k r kW) aD c.bP h5 (.func (.yield l) #[] #[]) lb Gb R8 Rt
 have kF:a.eval (.tmp gt)=.func (.func f) #[] lb.toArray:=by simp[Act.eval,Hl,AT]
 refine⟨l,[tf D],h5,{target:=.fn (.func f) lb.toArray,args:= #[.func (.yield l) #[] #[]]},h5,f,#[.func (.yield l) #[] #[]]++lb.toArray,h5,Hn,?_,λ_ _=>trivial,?_,λh=>by simp at h,?_⟩
 ·simp only[resolve,kF]
  simp[go_sem]
 ·simp[invoke,go_sem,cf.run]
 refine CallsIn.PH ?_
 have QZ:(#[.func (.yield l) #[] #[]]++lb.toArray:Array bl)=(.func (.yield l) #[] #[]::lb).toArray:=by simp
 rw[QZ]
 refine Af.mono λe S5 ⟨arA,⟨⟨r,abm⟩,dm⟩,he,aY,ay,aR,aX,bh⟩=>?_
 subst he
 have rF:=Hp.after aY ay (by simpa[ks]using aR) (by simpa[ks]using aX)
 rw[ma]at rF
 cases r with
 | inl b0=>
   simp only[Lr]at rF
   subst tE
   obtain⟨o,dd,eS⟩:=rF.own ⟨some l,.is (.loop rec)⟩ (by simp)
   have th:o=.loop rec:=eS
   subst th
   have qF:=Jt (P:=c.P) dd (by rw[mm];simp)
   have nH:rec.pending=none:=by rw[mm]
   rw[nH]at qF
   refine⟨none,_,qF,?_⟩
   have wT:=(rF.nx (i:=0) (cp':=.is (.loop {rec with state:=.exhausted})) (o':=.loop {rec with state:=.exhausted}) I I).r2 1
   rw[nH]at wT
   exact s9 b0 abm dm D _ _ (wT.mark D)
 | inr q=>
   simp only[Lr]at rF
   subst Ho
   obtain⟨o,dd,eS⟩:=rF.own ⟨some l,.is (.loop {rec with state:=.done,pending:=some (bT q)})⟩ (by simp)
   have th:o=.loop {rec with state:=.done,pending:=some (bT q)}:=eS
   subst th
   have qF:=Jt (P:=c.P) dd (by simp)
   refine⟨some (bT q),_,qF,?_⟩
   have wT:=(rF.nx (i:=0) (cp':=.is (.loop {rec with state:=.exhausted,pending:=some (bT q)})) (o':=.loop {rec with state:=.exhausted,pending:=some (bT q)}) I I).r2 1
   exact Ga q abm dm D _ _ (wT.mark D)
end
def ai.any(α:Type):ai α:=λQ=> ∀x,Q x
def ai.any_bind{α β:Type}{k:α->ai β}{R:β->Prop}(h:ai.bind (ai.any α) k R)(x:α):k x R:=h x
def gG.append{A:aa Nat}{W:bf}:∀{τs σs:aa J} {vs us:aa bl},gG A W τs vs->gG A W σs us->gG A W (τs++σs) (vs++us)
 |_,_,_,_,.nil,h=>h
 |_,_,_,_,.cons h r,ad=>.cons h (r.append ad)
section
variable{c:cj}{E:aa (Nat×J)}{L:aa aE}{ops:Array Oper}{Q:Exit->Act->bf->Prop}
variable{d:aw Tmp}{ty:bx}{pos:String}{af:Array Edge}{g:aw (Nat×Bool)}{x y:bZ}{t t2:bx}
def eE(c:cj)(E:aa (Nat×J))(L:aa aE)(o:Oper){δ:Type}(ρ:δ->J)(L':δ->aa aE):Prop:=
 ∀a W,bG c E L a W->gJ c.P o a W λv W'=> ∃q,bG c E (L' q) a W'∧(ρ q).holds (ks (L' q)++c.bP) W' v
def ae.qV{o:Oper}{rest:aa Oper}{a1:Nat}{δ:Type}{ρ:δ->J}{L':δ->aa aE}(h:eE c E L o ρ L')(bF:o.guard=none)(hd:o.dst=some a1)(aI:Nat.blt a1 c.n=true)
 (k:∀q,ae c ops Q rest ((a1,ρ q)::E) (L' q)):ae c ops Q (o::rest) E L:=λa W s=>
 iw bF (h a W s) λv W' ⟨q,f,ba⟩=>by
  rw[hd];exact k q _ _ (f.put (by simpa using aI) ba)
def ae.abZ{o:Oper}{rest:aa Oper}{a1 j gs:Nat}{b want:Bool}{δ β:Type}{σ:β->J}{L2:β->aa aE}{K:β->Prop}{val:δ->β}{ρ:δ->J}{L':δ->aa aE}(bF:o.guard=some (j,want))(aC:(ops[j]?).bind (·.dst)=some gs)
 (ao:look E gs=some (.of b)) (hd:o.dst=some a1) (aI:Nat.blt a1 c.n=true) (h:b=want->eE c E L o ρ L')
 (h1:b=want->∀q,K (val q)∧ρ q=σ (val q)∧L' q=L2 (val q)) (ad: ¬b=want->∃y,K y∧L=L2 y)
 (k:∀y,K y->ae c ops Q rest ((a1,.cond (b=want) (σ y))::E) (L2 y)):ae c ops Q (o::rest) E L:=λa W s=>by
 have hy:=JW aC ao s
 unfold cj.tt wpListIn
 by_cases hb:b=want
 ·rw[br (by simp[Region.wanted,bF,hy,hb])]
  refine((h hb a W s).wpIn λv W' ⟨q,f,ba⟩=>?_)
  obtain⟨au,aW,cF⟩:=h1 hb q
  rw[aW]at ba
  rw[cF]at f ba
  rw[hd]
  exact k _ au _ _ (f.put (by simpa using aI) ⟨λ_=>ba,λh=>absurd hb h⟩)
 rw[bn (by simp[Region.wanted,bF,hy,hb])]
 rw[hd]
 obtain⟨y,au,aW⟩:=ad hb
 rw[aW]at s
 exact⟨λ_ _=>trivial,k y au _ _ (s.put (by simpa using aI) ⟨λh=>absurd h hb,λ_=>rfl⟩)⟩
def eE.perm{fH:aa aE}{o:Oper}{δ:Type}{ρ:δ->J}{L' L2:δ->aa aE}(p:L.Perm fH)(ab0:∀q,(L' q).Perm (L2 q))(h:eE c E fH o ρ L'):eE c E L o ρ L2:=λa W s=>by
 have:=h a W (s.perm p);unfold gJ at this⊢;exact vq (λhL W' ⟨v,h1,q,ad,ay⟩=>⟨v,h1,q,ad.perm (ab0 q),(ρ q).mono (oW (ab0 q)) ay⟩) this
def eE.to{o:Oper}{δ:Type}{ρ:δ->J}{L' L2:δ->aa aE}(e:∀q,L' q=L2 q)(h:eE c E L o ρ L'):eE c E L o ρ L2:=by
 have:L'=L2:=funext e;subst this;exact h
def eE.iT{α:Type}[ah α]{o:Oper}{i s cap T:Nat}{key:aw Nat}{xs:aa α}{δ:Type}{ρ:δ->J}{L':δ->aa aE}(ao:look E s=some (.eq (aO key xs.length cap)))(av:L[i]? =some ⟨key,.row T xs cap⟩)
 (h:eE c ((s,.of xs)::E) (L.set i ⟨none,.dead⟩) o ρ L'):eE c E L o ρ L':=λa W st=>by
 have h1:=h a W (st.freeze ao av)
 unfold gJ at h1⊢
 refine vq (λhL W' ⟨v,ad,q,b0,ay⟩=>⟨v,ad,q,{b0 with env:=λt τ en=>?_},ay⟩) h1
 by_cases e:Nat.beq s t=true
 ·have:=eP.1 e
  subst this
  rw[ao]at en
  cases en
  obtain⟨v,aR,aX⟩:=st.env s _ ao
  exact⟨v,aR,aX⟩
 refine b0.env t τ ?_
 simp only[look]
 rw[kX]at e
 rw[e]
 exact en
def eE.aos{o:Oper}{δ:Type}{τ:J}(h:eE c E L o (λ_:δ=>τ) (λ_=>L)):fa c E L o τ:=λa W s=>by
 have:=h a W s;unfold gJ at this⊢;exact vq (λhL W' ⟨v,h1,q,ad,ay⟩=>⟨v,h1,ad,ay⟩) this
def eE.call{o:Oper}{f:FuncId}{tL:Act->aa bl}{τs:aa J}{Lin Lr:aa aE}{δ:Type}{ρ:δ->J}{Lo:δ->aa aE}(h:bR c.P f τs Lin ρ Lo)
 (ak:∀a W,bG c E (Lin++Lr) a W->(execOp a.eval o).run c.P W=.ok (.enter f (tL a).toArray) W∧gG (ks (Lin++Lr)++c.bP) W τs (tL a)):eE c E (Lin++Lr) o ρ (λq=>Lo q++Lr):=λa W s=>by
 obtain⟨jt,al⟩:=ak a W s
 have lB:=s.nodup
 rw[eg]at lB
 obtain⟨nF,sr,p2⟩:=nd.1 lB
 have hF:Ext (ks (Lin++Lr)++c.bP) W (ks Lin++(ks Lr++c.bP)) W:=Cn
 have ev:∀k∈ks Lr++c.bP,k<W.heap.size∧k∉ks Lin:=λk hm=>by
  rcases ca.1 hm with hm|hm
  ·exact⟨s.lt k (by rw[eg];exact ca.2 (.inr hm)),λh=>p2 k h k hm I⟩
  obtain⟨h1,ad⟩:=s.er k hm;exact⟨h1,λh=>ad (by rw[eg];exact ca.2 (.inl h))⟩
 have b9:∀k∈ks Lin,k<W.heap.size:=λk hm=>s.lt k (by rw[eg];exact ca.2 (.inl hm))
 refine .vE (f:=f) (args:=(tL a).toArray) (W':=W) jt ?_
 refine(h (ks Lr++c.bP) W (tL a) ev nF b9 (λe he=>aE.um (s.own e (ca.2 (.inl he))) hF λ_ _=>rfl) (al.mono hF)).mono λe W' ⟨v,a1,he,aY,h1,ad,ay,aR⟩=>?_
 exact⟨v,he,a1,s.after aY h1 ad ay,(ρ a1).mono Ke aR⟩
def eE.YW{o:Oper}{bC:Type}[dN bC]{hp:aH bC}{Lin Lr:aa aE}{δ:Type}{ρ:δ->J}{Lo:δ->aa aE}{hq:δ->aH bC}(n m:Nat)(av:L.drop n=a6 hp)(h1:(L.take n).take m=Lin)(ad:(L.take n).drop m=Lr)
 (h:eE c E ((Lin++a6 hp)++Lr) o ρ (λq=>(Lo q++a6 (hq q))++Lr)):eE c E L o ρ (λq=>(Lo q++Lr)++a6 (hq q)):=by
 have e:L=(Lin++Lr)++a6 hp:=by rw[<-h1,<-ad,gb,<-av,gb]
 clear av h1 ad
 subst e
 exact h.perm mG λq=>mG
def eE.dV{f:FuncId}{xs:aa bZ}{ats:Array bx}{bC:Type}[dN bC]{hp:aH bC}{τs:aa J}{Lin Lr:aa aE}{δ:Type}{ρ:δ->J}{Lo:δ->aa aE}{hq:δ->aH bC}(n m:Nat)(av:L.drop n=a6 hp)(cf:bD c.P f)(h:bR c.P f τs (Lin++a6 hp) ρ (λd=>Lo d++a6 (hq d)))
 (h1:(L.take n).take m=Lin) (ad:(L.take n).drop m=Lr) (al:ic c E L xs τs):eE c E L ⟨d,.call ⟨.value (.func f),xs.toArray,ats⟩,ty,pos,af,g⟩ ρ (λq=>(Lo q++Lr)++a6 (hq q)):=by
 have e:L=(Lin++Lr)++a6 hp:=by rw[<-h1,<-ad,gb,<-av,gb]
 refine eE.YW n m av h1 ad (eE.call (tL:=λa=>xs.map a.eval) h λa W s=>⟨by simp[execOp,resolve,Deferred.ofValue,Act.eval,invoke,cf.run],?_⟩)
 subst e
 exact(al.holds a W (s.perm mG.symm)).mono (oW mG)
def eE.rh{f:FuncId}{xs:aa bZ}{ats:Array bx}{τs:aa J}{Lin Lr:aa aE}{δ:Type}{ρ:δ->J}{Lo:δ->aa aE}(m:Nat)(cf:bD c.P f)(h:bR c.P f τs Lin ρ Lo)
 (h1:L.take m=Lin) (ad:L.drop m=Lr) (al:ic c E L xs τs):eE c E L ⟨d,.call ⟨.value (.func f),xs.toArray,ats⟩,ty,pos,af,g⟩ ρ (λq=>Lo q++Lr):=by
 have e:L=Lin++Lr:=by rw[<-h1,<-ad,gb]
 clear h1 ad
 subst e
 exact eE.call (tL:=λa=>xs.map a.eval) h λa W s=>⟨by simp[execOp,resolve,Deferred.ofValue,Act.eval,invoke,cf.run],al.holds a W s⟩
def aP.aii{ll:bZ}{f:FuncId}{ti τs:aa J}{xs:aa bZ}{ats:Array bx}(cf:bD c.P f)(aY:aP c E L ll (.kE f ti))(al:ic c E L xs τs){a:Act}{W:bf}(s:bG c E L a W):
 ∃lb:aa bl,(execOp a.eval ⟨d,.call ⟨.value ll,xs.toArray,ats⟩,ty,pos,af,g⟩).run c.P W=.ok (.enter f (xs.map a.eval++lb).toArray) W∧gG (ks L++c.bP) W (τs++ti) (xs.map a.eval++lb):=by
 obtain⟨lb,h1,ad⟩:=aY a W s
 exact⟨lb,by simp[execOp,resolve,Deferred.ofValue,h1,invoke,cf.run],(al.holds a W s).append ad⟩
def eE.kE{ll:bZ}{f:FuncId}{ti τs:aa J}{xs:aa bZ}{ats:Array bx}{Lin Lr:aa aE}{δ:Type}{ρ:δ->J}{Lo:δ->aa aE}(m:Nat)(cf:bD c.P f)(aY:aP c E L ll (.kE f ti))(h:bR c.P f (τs++ti) Lin ρ Lo)
 (h1:L.take m=Lin) (ad:L.drop m=Lr) (al:ic c E L xs τs):eE c E L ⟨d,.call ⟨.value ll,xs.toArray,ats⟩,ty,pos,af,g⟩ ρ (λq=>Lo q++Lr):=by
 have e:L=Lin++Lr:=by rw[<-h1,<-ad,gb]
 clear h1 ad
 subst e
 intro a W s
 obtain⟨lb,ay,aR⟩:=aP.aii (d:=d) (ty:=ty) (pos:=pos) (af:=af) (g:=g) (ats:=ats) cf aY al s
 have lB:=s.nodup
 rw[eg]at lB
 obtain⟨nF,sr,p2⟩:=nd.1 lB
 have hF:Ext (ks (Lin++Lr)++c.bP) W (ks Lin++(ks Lr++c.bP)) W:=Cn
 have ev:∀k∈ks Lr++c.bP,k<W.heap.size∧k∉ks Lin:=λk hm=>by
  rcases ca.1 hm with hm|hm
  ·exact⟨s.lt k (by rw[eg];exact ca.2 (.inr hm)),λh=>p2 k h k hm I⟩
  obtain⟨h1,ad⟩:=s.er k hm;exact⟨h1,λh=>ad (by rw[eg];exact ca.2 (.inl h))⟩
 have b9:∀k∈ks Lin,k<W.heap.size:=λk hm=>s.lt k (by rw[eg];exact ca.2 (.inl hm))
 refine .vE (f:=f) (W':=W) ay ?_
 refine(h (ks Lr++c.bP) W _ ev nF b9 (λe he=>aE.um (s.own e (ca.2 (.inl he))) hF λ_ _=>rfl) (aR.mono hF)).mono λe W' ⟨v,a1,he,aY,h1,ad,ay,aR⟩=>?_
 exact⟨v,he,a1,s.after aY h1 ad ay,(ρ a1).mono Ke aR⟩
def ic.perm{fH:aa aE}(p:L.Perm fH):∀{xs:aa bZ} {τs:aa J},ic c E L xs τs->ic c E fH xs τs
 |[],[],h=>h
 |_::_,_::_,h=>⟨h.1.perm p,ic.perm p h.2⟩
 |[],_::_,h=>h.elim
 |_::_,[],h=>h.elim
def eE.ans{ll:bZ}{f:FuncId}{ti τs:aa J}{xs:aa bZ}{ats:Array bx}{bC:Type}[dN bC]{hp:aH bC}{Lin Lr:aa aE}{δ:Type}{ρ:δ->J}{Lo:δ->aa aE}{hq:δ->aH bC}(n m:Nat)(av:L.drop n=a6 hp)(cf:bD c.P f)(aY:aP c E L ll (.kE f ti))(h:bR c.P f (τs++ti) (Lin++a6 hp) ρ (λd=>Lo d++a6 (hq d)))
 (h1:(L.take n).take m=Lin) (ad:(L.take n).drop m=Lr) (al:ic c E L xs τs):eE c E L ⟨d,.call ⟨.value ll,xs.toArray,ats⟩,ty,pos,af,g⟩ ρ (λq=>(Lo q++Lr)++a6 (hq q)):=by
 have e:L=(Lin++Lr)++a6 hp:=by rw[<-h1,<-ad,gb,<-av,gb]
 refine eE.YW n m av h1 ad ?_
 subst e
 refine eE.to (λq=>rfl) (eE.kE (Lin++a6 hp).length cf (aY.perm mG) h IX List.drop_left (al.perm mG))
def eE.obj{f:FuncId}{xs:aa bZ}{ats:Array bx}{bC:Type}[dN bC]{hp:aH bC}{p:Nat}{k:bC}{τs:aa J}{Lin:aa aE}{δ:Type}{ρ:δ->J}{Lo:δ->aa aE}(n:Nat)(k':δ->bC)(av:L.drop n=a6 hp)(hp':pat hp p=some k)(cf:bD c.P f)(h:bR c.P f τs Lin ρ Lo)
 (hk:dN.gk p k=Lin) (k9:∀q,dN.gk p (k' q)=Lo q) (al:ic c E L xs τs):eE c E L ⟨d,.call ⟨.value (.func f),xs.toArray,ats⟩,ty,pos,af,g⟩ ρ (λq=>L.take n++a6 (cr hp p (k' q))):=by
 obtain⟨R,bj,bB⟩:=vw hp'
 have e:L=L.take n++a6 hp:=by rw[<-av,gb]
 have cC:∀{M X:aa aE},M.Perm (X++R)->(L.take n++M).Perm (X++(R++L.take n)):=λh=>nc.trans ((h.append_right _).trans (by rw[jn]))
 have Sd:L.Perm (Lin++(R++L.take n)):=by
  conv=>lhs;rw[e]
  exact cC (by rw[<-hk];exact bj)
 refine eE.perm Sd (λq=>(cC (bB (k' q))).symm) ?_
 refine eE.to (λq=>by rw[k9]) (eE.call (Lr:=R++L.take n) (tL:=λa=>xs.map a.eval) h λa W s=>⟨by simp[execOp,resolve,Deferred.ofValue,Act.eval,invoke,cf.run],?_⟩)
 exact(al.holds a W (s.perm Sd.symm)).mono (oW Sd)
def fa.obj{f:FuncId}{xs:aa bZ}{ats:Array bx}{bC:Type}[dN bC]{hp:aH bC}{p:Nat}{k:bC}{τs:aa J}{Lin:aa aE}{δ:Type}{τ:J}(n:Nat)(av:L.drop n=a6 hp)(hp':pat hp p=some k)(cf:bD c.P f)(h:bR c.P f τs Lin (λ_:δ=>τ) (λ_=>Lin))
 (hk:dN.gk p k=Lin) (al:ic c E L xs τs):fa c E L ⟨d,.call ⟨.value (.func f),xs.toArray,ats⟩,ty,pos,af,g⟩ τ:=by
 have e:L=L.take n++a6 hp:=by rw[<-av,gb]
 have yq:cr hp p k=hp:=by
  clear e av h hk;induction hp with
  |nil=>rfl
  | cons z r bJ=>
    obtain⟨q,arF⟩:=z
    simp only[pat]at hp'
    simp only[cr]
    split at hp'
    ·rename_i e;simp only[fi]at hp';rw[br e,hp']
    rename_i e;rw[bn e,bJ hp']
 refine eE.aos (eE.to (λq=>?_) (eE.obj (d:=d) (ty:=ty) (pos:=pos) (af:=af) (g:=g) (ats:=ats) n (λ_=>k) av hp' cf h hk (λ_=>hk) al))
 rw[yq,<-e]
def ae.X9{l:aa Oper}{bC:Type}[dN bC]{hp:aH bC}{p:Nat}{Lin Lr:aa aE}(n m:Nat)(mk:bC)(av:L.drop n=a6 hp)(h1:(L.take n).take m=Lin)(ad:(L.take n).drop m=Lr)(hk:dN.gk p mk=Lin)(hm:p∈ks Lin)
 (k:∀a:Nat×aH bC,a.1∉hp.map (·.1)∧a.2=(a.1,mk)::hp->a.1=p->ae c ops Q l E (Lr++a6 a.2)):ae c ops Q l E L:=λa W s=>by
 have e:L=(Lin++Lr)++a6 hp:=by rw[<-h1,<-ad,gb,<-av,gb]
 have cC:L.Perm (Lr++a6 ((p,mk)::hp)):=by
  rw[e,a6,hk,<-jn];exact nc.append_right _
 refine k (p,(p,mk)::hp) ⟨λHv=>?_,rfl⟩ I _ _ (s.perm cC)
 have ij:=s.nodup
 rw[e,eg,eg]at ij
 exact(nd.1 ij).2.2 p (ca.2 (.inl hm)) p (XG Hv) I
end
section
variable{c:cj}{E:aa (Nat×J)}{L:aa aE}{ops:Array Oper}{Q:Exit->Act->bf->Prop}
def fA.q{hs:aa dt}{i np:Nat}{o:Oper}{h:dt}(b2:fA c ops Q hs E L i o h):xG c ops Q hs E L np i o h:=λhd E' L' h1 ad _=>b2 hd E' L' h1 ad
structure FU(P:Program)(f:FuncId)(τs:List J){bC:Type}[dN bC](hp:aH bC){α:Type}(τ:α->J)(run:∀{σ ε:Type},(α->σ->Option (σ⊕ε))->σ->Option (σ⊕ε)):Prop where
 go:∀{σ ε γ:Type} (Ls:σ->γ->List aE) (Lx:ε->γ->List aE) (lN:σ->γ->List aE),(∀s g,Ls s g=lN s g++a6 hp)->R7 P f τs [] τ (run (σ:=σ) (ε:=ε)) Ls Lx
def FU.of{P:Program}{f:FuncId}{fn:Func}{code:Code}{n:Nat}{τs:aa J}{bC:Type}[dN bC]{hp:aH bC}{α:Type}{τ:α->J}{run:∀{σ ε:Type},(α->σ->aw (σ⊕ε))->σ->aw (σ⊕ε)}
 (aY:P.funcs[f]? =some fn) (hb:fn.body=some code) (aI:fn.ntmps=n) (hlen:Nat.ble (τs.length+1) n=true)
 (h:∀{σ ε γ:Type} (Ls:σ->γ->aa aE) (Lx:ε->γ->aa aE) (lN:σ->γ->aa aE),(∀s g,Ls s g=lN s g++a6 hp)->∀(step:α->σ->aw (σ⊕ε)) (s0:σ) (g0:γ) (r:σ⊕ε),run step s0=some r->
  ∀ W A u,Mh P u τ Ls Lx step (λcE W'=>Ext (ks (Ls s0 g0)++A) W cE W')->
    az ⟨P,n,W,ks (Ls s0 g0),A,none,[]⟩ (bodyPost P fn (kA (ks (Ls s0 g0)) A W (λ_:γ=>.bY []) (λg=>[]++Lr Ls Lx r g))) code (params 0 (.eq u::τs)) (Ls s0 g0)):FU P f τs hp τ run:=by
 refine⟨?_⟩
 intro σ ε γ Ls Lx lN pV step s0 g0 r aD A W u vs ao ba hy
 refine Js aY hb (wpIn_wide.1 (h Ls Lx lN pV step s0 g0 r aD W A u hy _ _ ?_))
 have wC:gG (ks (Ls s0 g0)++A) W (.eq u::τs) (u::vs):=.cons I ba
 have kN:=wC.length
 have hle:τs.length+1<=n:=oO hlen
 exact
 {defers:=rfl
  size:=by simp at kN;simp[aI,kN];omega
  env:=λt τ en=>by
   obtain⟨_,v,ad,ay⟩:=zu wC 0 t τ en;refine⟨v,?_,ay⟩;have b9:t<(u::vs).length:=(fL.1 ad).1;rw[ve (by simpa using b9)];simpa using ad
  dk:=.refl _ _
  own:=ao.ok
  nodup:=ao.nodup
  lt:=ao.lt
  fR:=λk hk _=>hk
  er:=ao.er}
def akA{bC:Type}[dN bC]{σ γ:Type}{Ls lN:σ->γ->aa aE}{hp:aH bC}{s:σ}{g:γ}{p:Nat}{k:bC}{e:aE}(n:Nat)(av:L.drop n=Ls s g)(pV:∀s g,Ls s g=lN s g++a6 hp)(h:pat hp p=some k)(hk:dN.gk p k=[e]):e∈L:=
 Yp (hq:=λ_=>hp) n av pV h hk
def VL{gt p:Nat}{assign body:Code}{f:FuncId}{rl:aa J}{bC:Type}[dN bC]{hp:aH bC}{α σ ε γ:Type}{τ:α->J}{run:∀{σ ε:Type},(α->σ->aw (σ⊕ε))->σ->aw (σ⊕ε)}
 {Ls:σ->γ->aa aE} {Lx:ε->γ->aa aE} {step:α->σ->aw (σ⊕ε)} {s0:σ} {g0:γ} {r:σ⊕ε} (lN:σ->γ->aa aE) (bT:ε->Code)
 (ak:c.rd=none) (cf:bD c.P f) (bF:look E gt=some (.kE f rl)) (pn:FU c.P f rl hp τ run) (aD:run step s0=some r) (pV:∀s g,Ls s g=lN s g++a6 hp) (av:L=Ls s0 g0) (hp':Nat.blt p c.n=true)
 (ux:∀x s r,step x s=some r->∀g (qI:bf) (qW qJ:aa Nat) (l D:Nat) (rec:Loop),rec.state=.ready->
  az ⟨c.P,c.n,qI,qW,qJ,some l,[]⟩ (Exit.then (MA ⟨c.P,c.n,qI,qW,qJ,some l,[]⟩ l body (Mz ⟨c.P,c.n,qI,qW,qJ,some l,[]⟩ bT l D {rec with state:=.busy} Ls Lx r)) (λ_ _ _=>False)) assign ((p,τ x)::E) (⟨some l,.is (.loop rec)⟩::⟨some D,.fO⟩::Ls s g))
 (s9:∀b0,r=.inl b0->∀g D,ar {c with ds:=tf D::c.ds} Q .normal E (⟨some D,.fO⟩::Ls b0 g))
 (Ga:∀q,r=.inr q->∀g D,az {c with ds:=tf D::c.ds} Q (bT q) E (⟨some D,.fO⟩::Lx q g)):
 az c Q (.rangeFunc (.tmp gt) #[p] assign body) E L:=
 agq (Lin:=[]) (run:=run) bT ak cf bF (λau aW qQ=>pn.go (λs g=>au::aW::Ls s g) qQ (λs g=>au::aW::lN s g) (λs g=>by rw[pV];rfl)) aD av hp' ux s9 Ga
end
structure Raw where
 f:FuncId
 us:Option (List Value)
instance:Inhabited Raw:=⟨⟨0,none⟩⟩
def Raw.val:Raw->bl
 |⟨f,some us⟩=>.func (.func f) #[] us.toArray
 |⟨_,none⟩=>.nilFunc
instance:ah Raw where
 size:=1
 agg:=false
 rep _ _ cs x:=cs=[x.val]
 len h:=by rw[h];rfl
 one h:=by
  intro v ba;rw[h,gX]at ba;subst ba;rename_i x;obtain⟨f,us⟩:=x;cases us <;> rfl
 flat _:=rfl
 mono _ h:=h
instance:aT Raw:=⟨[.nilFunc],λ_ _=>rfl⟩
def Qh{A W v}{x:Raw}:(J.of x).holds A W v↔v=x.val:=by
 constructor
 ·intro h;exact ov (by have:=h.1;exact this) h.2
 intro h;subst h;obtain⟨f,us⟩:=x;cases us <;> exact⟨rfl,rfl⟩
section
variable{c:cj}{E:aa (Nat×J)}{L:aa aE}{ops:Array Oper}{Q:Exit->Act->bf->Prop}
variable{d:aw Tmp}{ty:bx}{pos:String}{af:Array Edge}{g:aw (Nat×Bool)}{x y:bZ}{t t2:bx}
def gG.eqs{A:aa Nat}{W:bf}:∀{us vs:aa bl},gG A W (us.map J.eq) vs->vs=us
 |[],_,.nil=>rfl
 |_::_,_,.cons h r=>by rw[r.eqs];congr 1
def gG.Q0{A:aa Nat}{W:bf}:∀{us:aa bl},gG A W (us.map J.eq) us
 |[]=>.nil
 |_::_=>.cons I .Q0
def QA{f:FuncId}{xs:aa bZ}{us:aa bl}(al:ic c E L xs (us.map J.eq)):bc c E L ⟨d,.makeFunc (.func f) #[] xs.toArray,ty,pos,af,g⟩ (.of (⟨f,some us⟩:Raw)):=.pure λa W s=>
 ⟨.func (.func f) #[] us.toArray,by
   have h:=(al.holds a W s).eqs;simp[execOp,Instr.makeFunc,h],Qh.2 I⟩
def agS{f:FuncId}{us:aa bl}(al:aP c E L x (.of (⟨f,some us⟩:Raw))):aP c E L x (.kE f (us.map J.eq)):=λa W s=>
 ⟨us,Qh.1 (al a W s),.Q0⟩
def ae.SX{o:Oper}{rest:aa Oper}{a1 j gs:Nat}{b want:Bool}{β γ Ht:Type}{m:ai β}{z:β}{k:β->ai Ht}{R:Ht->Prop}(h:ai.bind (bif decide (b=want)then m else ai.ret z) k R)(σ:β->J)(L2:β->γ->aa aE)(g0:γ)(av:L=L2 z g0)
 (bF:o.guard=some (j,want)) (aC:(ops[j]?).bind (·.dst)=some gs) (ao:look E gs=some (.of b)) (hd:o.dst=some a1) (aI:Nat.blt a1 c.n=true)
 (bw:b=want->m (λr=>k r R)->eE c E L o (λq: {r // k r R}×γ=>σ q.1.1) (λq=>L2 q.1.1 q.2))
 (na:∀y g,k y R->ae c ops Q rest ((a1,.cond (b=want) (σ y))::E) (L2 y g)):ae c ops Q (o::rest) E L:=by
 by_cases hb:b=want
 ·have hm:m (λr=>k r R):=by
   have cT:(bif decide (b=want)then m else ai.ret z) (λr=>k r R):=h;rw[vo hb]at cT;exact cT
  exact ae.abZ (β:=β×γ) (K:=λy=>k y.1 R) (σ:=λy=>σ y.1) (L2:=λy=>L2 y.1 y.2) (val:=λq=>(q.1.1,q.2)) bF aC ao hd aI (λ_=>bw hb hm) (λ_ q=>⟨q.1.2,rfl,rfl⟩) (λh=>absurd hb h) λy hy=>na y.1 y.2 hy
 have hm:k z R:=by
  have cT:(bif decide (b=want)then m else ai.ret z) (λr=>k r R):=h;rw[za hb]at cT;exact cT
 exact ae.abZ (δ:=Unit) (β:=β×γ) (K:=λy=>k y.1 R) (σ:=λy=>σ y.1) (L2:=λy=>L2 y.1 y.2) (val:=λ_=>(z,g0)) (ρ:=λ_=>σ z) (L':=λ_=>L2 z g0) bF aC ao hd aI (λh=>absurd h hb) (λh=>absurd h hb) (λ_=>⟨(z,g0),hm,av⟩) λy hy=>na y.1 y.2 hy
end
section
variable{c:cj}{E:aa (Nat×J)}{L:aa aE}{ops:Array Oper}{Q:Exit->Act->bf->Prop}
def ae.Ya{l:aa Oper}{p q:Nat}(gn:Nat)(ao:look E gn=some (.eq (.pointer (some ⟨p,0,none⟩))))(he:q=p)(k:ae c ops Q l ((gn,.of (some q:Ref))::E) L):ae c ops Q l E L:=λa W s=>by
 subst he;refine k a W (s.less λt τ h=>?_);simp only[look]at h;by_cases e:Nat.beq gn t=true
 ·rw[e]at h;simp only[cond_true,fi]at h;have:=eP.1 e;subst this;subst h;exact⟨_,ao,λA W v ba=>xH.2 ba⟩
 simp only[kX]at e;rw[e]at h;exact⟨τ,h,λ_ _ _ h=>h⟩
end
section
variable{c:cj}{E:aa (Nat×J)}{L:aa aE}{ops:Array Oper}{Q:Exit->Act->bf->Prop}
def qy(ops:Array Oper)(n:Nat)(hs:aa (aw Nat×aa Nat×aa Nat×aa Nat))(E:aa Nat):Bool:=
 decide (hs.length=n)&&decide (n<=ops.size)&&decide (hs.filterMap (·.1)).Nodup&&((List.range n).all λm=>match hs[m]? with |some (some s,up,_)=> !E.contains s||(List.range n).all λk=>decide (k=m)||up.contains k|_=>true)&&
 ((List.range n).all λi=>match hs[i]? with
   |none=>false
   | some (_,up,rd,wr)=>
     (((ops[i]?).map λo=>(o.dst==(hs[i]?).bind (·.1))&&o.after.all λe=> !Region.binds .any e||decide (e.on<i)).getD false)&&
     (up.all λk=>Region.waitsFor .any ops i k||(List.range i).any λm=>Region.waitsFor .any ops i m&&((hs[m]?).map λh=>h.2.1.contains k).getD false)&&
     ((List.range n).all λk=>match hs[k]? with
       |none=>true
       | some (_,aqr,_,abn)=>
         (!(decide (k<i)&&abn.any rd.contains)||up.contains k)&&(!(decide (i<k)&&abn.any λj=>rd.contains j||wr.contains j)||aqr.contains i)))&&
 (decide (n=ops.size)||(Region.sinkB .any ops n&&Region.chainB .any ops n))&&
 Region.seqB .any ops (ops.size-n) n ((List.range n).foldl (λl i=>l.setIfInBounds i true) (Array.replicate ops.size false))
def afP{n:Nat}{hs:aa dt}{np:Nat}(hw:∀h∈hs,∀j∈h.wr,j<np∨L.length<=j)(dE:qy ops n (lE hs) (E.map (·.1))=true)(b2:pC c ops Q hs E L np 0 (ops.toList.take n) hs)
 (bw:∀hd,ae c ops Q (ops.toList.drop n) (hW (λ_=>true) hd E 0 hs) (gy (λ_=>true) hd 0 hs L)):
 ∀ m (bI:Array Bool) (hd:Nat->Hid) (a:Act) (W:bf),((List.range n).filter λi=> !bI.getD i true).length<=m->HeadInv .any ops n bI->
   bG c (hW (λi=>bI.getD i false) hd E 0 hs) (gy (λi=>bI.getD i false) hd 0 hs L) a W->wpAnyIn c.F 9 c.P .any ops Q (m+(ops.size-n)) bI a W:=by
 simp only[qy,gq,fM,oq]at dE
 obtain⟨⟨⟨⟨⟨⟨alQ,aI⟩,ij⟩,aae⟩,ml⟩,QU⟩,Aq⟩:=dE
 have hlen:hs.length=n:=by simpa[lE]using alQ
 have tj:∀i,i<n->∃h o,hs[i]? =some h∧ops[i]? =some o:=λi ax=>⟨hs[i]'(by omega),ops[i],by simp,by simp⟩
 have Gd:∀(i:Nat) (h:dt) (o:Oper),hs[i]? =some h->ops[i]? =some o->
  o.dst=h.slot∧(∀e∈o.after,Region.binds .any e=true->e.on<i)∧
  (∀k∈h.up,Region.waitsFor .any ops i k=true∨∃m,m<i∧Region.waitsFor .any ops i m=true∧∃x,hs[m]? =some x∧k∈x.up)∧
  (∀(k:Nat) (x:dt),hs[k]? =some x->(k<i->(∃j∈x.wr,h.rd.contains j=true)->k∈h.up)∧(i<k->(∃j∈x.wr,h.rd.contains j=true∨h.wr.contains j=true)->i∈x.up)):=by
  intro i h o ax aU
  have b9:i<n:=by have:=(fL.1 ax).1;omega
  have h1:=kH.1 ml i (lq.2 b9)
  rw[PM ax]at h1
  simp only[gq]at h1
  obtain⟨⟨ad,ay⟩,aR⟩:=h1
  simp only[aU,Option.map_some,Option.getD_some,gq,Option.bind_some,oT]at ad
  refine⟨ad.1,λe he hb=>?_,λk hk=>?_,λk x al=>?_⟩
  ·have:=To.1 ad.2 e he
   simp[hb]at this
   exact this
  ·have:=kH.1 ay k hk
   simp only[oq,oQ,gq,lq]at this
   rcases this with aX|⟨m,aX,bh,c5⟩
   ·exact .inl aX
   have hm:m<hs.length:=by omega
   rw[PM (qf hm)]at c5
   exact .inr ⟨m,aX,bh,hs[m],qf hm,by simpa using c5⟩
  have mS:k<n:=by have:=(fL.1 al).1;omega
  have:=kH.1 aR k (lq.2 mS)
  rw[PM al]at this
  simp only[gq,oq,vh,Bool.and_eq_false_iff,mC,M1]at this
  refine⟨λyp ⟨j,aC,aD⟩=>?_,λnD ⟨j,aC,aD⟩=>?_⟩
  ·rcases this.1 with(aX|aX)|aX
   ·exact absurd yp aX
   ·have:=w7.1 aX j aC
    exact absurd aD this
   exact aX
  rcases this.2 with(aX|aX)|aX
  ·exact absurd nD aX
  ·have:=w7.1 aX j aC
   simp only[oq]at this
   exact absurd aD this
  exact aX
 have Q1:∀(i j s:Nat) (x y:dt),hs[i]? =some x->hs[j]? =some y->x.slot=some s->y.slot=some s->i=j:=by
  have key:∀(l:aa dt),((lE l).filterMap (·.1)).Nodup->∀(i j s:Nat) (x y:dt),l[i]? =some x->l[j]? =some y->x.slot=some s->y.slot=some s->i=j:=by
   intro l;induction l with
   |nil=>intro _ i j s x y h;simp at h
   | cons z r bJ=>
     intro ij i j s x y ax aC al hy
     have aD:((lE r).filterMap (·.1)).Nodup:=by
      cases cy:z.slot with
      |none=>simpa[lE,cy]using ij
      | some w=>
        simp only[lE,mb,List.filterMap_cons,cy]at ij
        exact(lQ.1 ij).2
     have x3:z.slot=some s->∀(q:Nat) (v:dt),r[q]? =some v->v.slot≠some s:=λcy q v hq ba=>by
      simp only[lE,mb,List.filterMap_cons,cy]at ij;exact(lQ.1 ij).1 (w4.2 ⟨_,gY.2 ⟨v,eo hq,rfl⟩,ba⟩)
     cases i with
     | zero=>
       simp only[List.getElem?_cons_zero,fi]at ax
       subst ax
       cases j with
       |zero=>rfl
       |succ j=>simp only[List.getElem?_cons_succ]at aC;exact absurd hy (x3 al j y aC)
     | succ i=>
       simp only[List.getElem?_cons_succ]at ax
       cases j with
       | zero=>
         simp only[List.getElem?_cons_zero,fi]at aC
         subst aC
         exact absurd al (x3 hy i x ax)
       |succ j=>simp only[List.getElem?_cons_succ]at aC;rw[bJ aD i j s x y ax aC al hy]
  exact key hs ij
 have alR:∀(t:Nat) (τ:J),look E t=some τ->∀(m:Nat) (h:dt),hs[m]? =some h->h.slot=some t->∀k,k<n->k≠m->k∈h.up:=by
  intro t τ ao m h hm fJ k hk Hw;have tq:m<n:=by have:=(fL.1 hm).1;omega
  have h1:=kH.1 aae m (lq.2 tq);rw[show(lE hs)[m]? =some (h.slot,h.up,h.rd,h.wr) by simp[lE,hm],fJ]at h1;have C3:t∈E.map (·.1):=by
   clear aae h1 b2 bw hm fJ;induction E with
   |nil=>simp[look]at ao
   | cons x r bJ=>
     obtain⟨s,σ⟩:=x
     simp only[look]at ao
     by_cases e:Nat.beq s t=true
     ·have:=eP.1 e;subst this;simp
     simp only[kX]at e
     rw[e]at ao
     simp only[mb,dO]
     exact .inr (bJ ao)
  replace h1:(!(E.map (·.1)).contains t||(List.range n).all λk=>decide (k=m)||h.up.contains k)=true:=h1;rw[show(E.map (·.1)).contains t=true by simpa using C3]at h1;have ad:∀x,x<n->x=m∨x∈h.up:=by simpa using h1
  exact(ad k hk).resolve_left Hw
 have yr:∀(bI:Array Bool),HeadInv .any ops n bI->∀(d i:Nat),i<=d->∀(h:dt) (o:Oper),hs[i]? =some h->ops[i]? =some o->(∀e∈o.after,Region.binds .any e=true->bI.getD e.on false=true)->∀k∈h.up,bI.getD k false=true:=by
  intro bI inv d;induction d with
  | zero=>
    intro i ax h o eY Ds hw k hk
    rcases (Gd i h o eY Ds).2.2.1 k hk with h1|⟨m,hm,_⟩
    ·obtain⟨po,la,e,he,hb,tv⟩:=y2 h1
     rw[Ds]at la;cases la
     rw[<-tv];exact hw e he hb
    omega
  | succ d bJ=>
    intro i ax h o eY Ds hw k hk
    rcases (Gd i h o eY Ds).2.2.1 k hk with h1|⟨m,hm,h1,x,al,aqs⟩
    ·obtain⟨po,la,e,he,hb,tv⟩:=y2 h1
     rw[Ds]at la;cases la
     rw[<-tv];exact hw e he hb
    obtain⟨po,la,e,he,hb,tv⟩:=y2 h1
    rw[Ds]at la;cases la
    have tq:=hw e he hb
    rw[tv]at tq
    obtain⟨aG,H2,nI,Hx⟩:=tj m (by have:=(fL.1 eY).1;omega)
    exact bJ m (by omega) x H2 al Hx (λe he hb=>inv.closed m H2 Hx tq e he hb) k aqs
 have s9:∀(bI:Array Bool) (hd:Nat->Hid) (a:Act) (W:bf),(∀i,i<n->bI.getD i true=true)->HeadInv .any ops n bI->
  bG c (hW (λi=>bI.getD i false) hd E 0 hs) (gy (λi=>bI.getD i false) hd 0 hs L) a W->wpAnyIn c.F 9 c.P .any ops Q (ops.size-n) bI a W:=by
  intro bI hd a W Ge inv st
  have ao:=Vs inv aI Ge
  rw[<-ao]at Aq
  have F9:(ops.toList.drop n).length=ops.size-n:=by simp
  rw[<-F9]
  rw[<-F9]at Aq
  refine JF (ops.toList.drop n) n bI a W (λj=>by simp) Aq (bw hd a W ?_)
  have Dt:∀m,m<hs.length->bI.getD (0+m) false=true:=λm hm=>by
   have h1:=Ge m (by omega);have ad:m<bI.size:=by rw[inv.size];omega
   simpa[ad]using h1
  rw[Vw (ls':=λ_=>true) Dt,Wj (ls':=λ_=>true) Dt]at st
  exact st
 have more:∀f (bI:Array Bool) a W,wpAnyIn c.F 9 c.P .any ops Q f bI a W->wpAnyIn c.F 9 c.P .any ops Q (f+1) bI a W:=by
  intro f;induction f with
  |zero=>intro bI a W h;exact⟨λ_=>h.2,λi ax=>by rw[h.1]at ax;cases ax⟩
  |succ f RT=>intro bI a W h;exact⟨h.1,λi ax=>wpOpIn_mono (λhL pk cT=>RT _ hL pk cT) (h.2 i ax)⟩
 intro m
 induction m with
 | zero=>
   intro bI hd a W hm inv st
   rw[h7]
   refine s9 bI hd a W (λi ax=>?_) inv st
   cases h:bI.getD i true with
   |true=>rfl
   | false=>
     have:i∈(List.range n).filter λi=> !bI.getD i true:=sI.2 ⟨lq.2 ax,by rw[h];rfl⟩
     rw[DU.1 (N0.1 hm)]at this
     cases this
 | succ m bJ=>
   intro bI hd a W hm inv st
   rw[show m+1+(ops.size-n)=(m+(ops.size-n))+1 by omega]
   by_cases YX:∀i,i<n->bI.getD i true=true
   ·have h1:=s9 bI hd a W YX inv st
    have key:∀k,wpAnyIn c.F 9 c.P .any ops Q (k+(ops.size-n)) bI a W:=by
     intro k;induction k with
     |zero=>rw[h7];exact h1
     |succ k RU=>rw[show k+1+(ops.size-n)=(k+(ops.size-n))+1 by omega];exact more _ _ _ _ RU
    exact more _ _ _ _ (key m)
   have hex:∃i,i<n∧bI.getD i true=false:=by
    false_or_by_contra;rename_i ad;exact YX λi ax=>by
     cases h:bI.getD i true with
     |true=>rfl
     |false=>exact absurd ⟨i,ax,h⟩ ad
   have Qc:∀t∈Region.ready .any ops bI,t<n:=by
    intro t yk;rcases sN t n with h|h
    ·exact h
    obtain⟨i,ax,j6⟩:=hex;have Z4:n<ops.size∨n=ops.size:=by omega
    have ash:t<ops.size:=by
     obtain⟨_,o,aU,_⟩:=rP.1 yk;exact(q4.1 aU).1
    rcases QU with h1|h1
    ·omega
    exact absurd yk (tail_waits h1.1 h1.2 (by omega) inv _ i I ax j6 t h)
   refine⟨λbu=>?_,λi ax=>?_⟩
   ·exfalso
    have key:∀d i,i<=d->i<n->bI.getD i true=true:=by
     intro d;induction d with
     | zero=>
       intro i AO ax
       cases ao:bI.getD i true with
       |true=>rfl
       | false=>
         obtain⟨h,o,eY,aU⟩:=tj i ax
         have:i∈Region.ready .any ops bI:=rP.2 ⟨ao,o,aU,λe he hb=>by have:=(Gd i h o eY aU).2.1 e he hb;omega⟩
         rw[bu]at this;cases this
     | succ d Se=>
       intro i AO ax
       cases ao:bI.getD i true with
       |true=>rfl
       | false=>
         obtain⟨h,o,eY,aU⟩:=tj i ax
         have:i∈Region.ready .any ops bI:=rP.2 ⟨ao,o,aU,λe he hb=>by
          have h1:=(Gd i h o eY aU).2.1 e he hb;have ad:=Se e.on (by omega) (by omega);have ay:e.on<bI.size:=by rw[inv.size];omega
          simpa[ay]using ad⟩
         rw[bu]at this;cases this
    obtain⟨i,ax,j6⟩:=hex
    have:=key i i (iu _) ax
    rw[j6]at this;cases this
   have fu:i<n:=Qc i ax
   obtain⟨j6,o,aU,uk⟩:=rP.1 ax
   obtain⟨h,_,eY,_⟩:=tj i fu
   have pM:bI.getD i false=false:=getD_both j6
   have Ly:i<bI.size:=by rw[inv.size];omega
   have o9:((List.range n).filter λj=> !(bI.setIfInBounds i true).getD j true).length<=m:=by
    have:((List.range n).filter λj=> !(bI.setIfInBounds i true).getD j true).length<((List.range n).filter λj=> !bI.getD j true).length:=by
     refine Qb (λj=> !bI.getD j true) (λj=> !(bI.setIfInBounds i true).getD j true) i (by simp only[j6];rfl) ?_ (λj aC=>?_) n fu
     ·simp[Ly]
     by_cases e:i=j
     ·subst e;simp only[j6];rfl
     rw[getD_set_ne true e]at aC;exact aC
    omega
   have Ar:=inv.set ax fu
   obtain⟨C0,KK,ar5,GB⟩:=Gd i h o eY aU
   have aaf:=yr bI inv i i (iu _) h o eY aU uk
   have XI:∀(k:Nat) (x:dt),hs[k]? =some x->i<k->(∃j∈x.wr,h.rd.contains j=true∨h.wr.contains j=true)->bI.getD k false=false:=λk x al nD aC=>by
    have h1:=(GB k x al).2 nD aC;cases hk:bI.getD k false with
    |false=>rfl
    | true=>
      obtain⟨_,ok,_,hJ⟩:=tj k (by have:=(fL.1 al).1;omega)
      have:=yr bI inv k k (iu _) x ok al hJ (λe he hb=>inv.closed k ok hJ hk e he hb) i h1
      rw[pM]at this;cases this
   have XJ:hs=hs.take i++h::hs.drop (i+1):=by
    have wE:i<hs.length:=by omega
    rw[qf wE]at eY;cases eY;rw[MX];exact(gb i hs).symm
   have AV:(hs.take i).length=i:=by rw[fy];omega
   have He:∀(t:Nat) (τ:J),look E t=some τ->∀(m:Nat) (x:dt),hs[m]? =some x->bI.getD (0+m) false=true->x.slot≠some t:=λt τ ao m x al Ml fJ=>by
    rw[h7]at Ml;have aqt:i≠m:=λe=>by subst e;rw[pM]at Ml;cases Ml
    obtain⟨_,H2,_,Hx⟩:=tj m (by have:=(fL.1 al).1;omega);have:=yr bI inv m m (iu _) x H2 al Hx (λe he hb=>inv.closed m H2 Hx Ml e he hb) i (alR t τ ao m x al fJ i fu aqt);rw[pM]at this;cases this
   have YY:=(pC.get b2 i h o eY (by rw[jR,br fu,w2];exact aU))
   rw[h7]at YY
   have aqu:=YY hd (hW (λi=>bI.getD i false) hd E 0 hs) (gy (λi=>bI.getD i false) hd 0 hs L) (λt τ ao=>?_) (λj e aC aD=>?_) (PN hw)
   ·have hw:=OG (K:=λa W=> ∃x,bG c (rk h.slot (h.τ (hx h.up i (mV hd i x))) (hW (λi=>bI.getD i false) hd E 0 hs)) (pa (gy (λi=>bI.getD i false) hd 0 hs L) (h.fS (hx h.up i (mV hd i x))) h.wr) a W) aU (aqu a W st)
    refine wpOpIn_mono (λhL W' ⟨x,tC⟩=>?_) hw
    have Du:∀j,j≠i->mV hd i x j=hd j:=λj aC=>by
     have:Nat.beq j i=false:=by
      cases hb:Nat.beq j i
      ·rfl
      exact absurd (eP.1 hb) aC
     simp only[mV,this,cond_false]
    have Sf:∀(j:Nat) (y:dt),hs[j]? =some y->bI.getD j false=true->hx y.up j (mV hd i x)=hx y.up j hd:=λj y hy aC=>by
     obtain⟨_,po,_,la⟩:=tj j (by have:=(fL.1 hy).1;omega);refine agp (Du j λe=>by subst e;rw[pM]at aC;cases aC) λk hk=>Du k λe=>?_;have:=yr bI inv j j (iu _) y po hy la (λe he hb=>inv.closed j po la aC e he hb) k hk;subst e;rw[pM]at this;cases this
    have yt:(bI.setIfInBounds i true).getD i false=true:=by simp[Ly]
    have jv:∀j,j≠i->(bI.setIfInBounds i true).getD j false=bI.getD j false:=λj aC=>getD_set_ne false (λe=>aC e.symm)
    refine bJ _ (mV hd i x) hL W' o9 Ar ?_
    have aot:gy (λj=>(bI.setIfInBounds i true).getD j false) (mV hd i x) 0 hs L=pa (gy (λi=>bI.getD i false) hd 0 hs L) (h.fS (hx h.up i (mV hd i x))) h.wr:=by
     apply l9;intro j;rw[KL,Pk,KL];by_cases aC:h.wr.contains j=true
     ·rw[br aC];have au:∀(ls:Nat->Bool) (g:Nat->Hid) (v:aw aE),(∀k x,hs[k]? =some x->i<k->x.wr.contains j=true->ls k=false)->n1 ls g j 0 hs v=(bif ls i then(n1 ls g j 0 (hs.take i) v).map (λ_=>h.fS (hx h.up i g) j)else n1 ls g j 0 (hs.take i) v):=λls g v Hg=>by
       conv=>lhs;rw[XJ]
       rw[OM,AV,h7,n1,aC,Bool.and_true,O8];intro k x al hw;rw[lp]at al;exact Hg (i+1+k) x al (by omega) hw
      have e9:∀k x,hs[k]? =some x->i<k->x.wr.contains j=true->bI.getD k false=false:=λk x al nD hw=>XI k x al nD ⟨j,by simpa using hw,.inr aC⟩;rw[au (λj=>(bI.setIfInBounds i true).getD j false) (mV hd i x) _ (λk x al nD hw=>by rw[jv k (by omega)];exact e9 k x al nD hw),au (λj=>bI.getD j false) hd _ e9];simp only[yt,pM,cond_true,cond_false];rw[JZ (ls':=λj=>bI.getD j false) (hd':=hd) λq x al _=>by
       have hq:q<i:=by have:=(fL.1 al).1;omega
       rw[jR,br hq]at al;rw[h7];exact⟨jv q (by omega),λao=>Sf q x al (by rw[jv q (by omega)]at ao;exact ao)⟩]
     rw[bn aC];refine JZ λq x al hw=>?_;rw[h7];have hq:q≠i:=λe=>by subst e;rw[eY]at al;cases al;exact aC hw
     exact⟨jv q hq,λao=>Sf q x al (by rw[jv q hq]at ao;exact ao)⟩
    rw[aot]
    refine tC.less λt τ ao=>?_
    rcases Wh ao with⟨j,y,h1,ad,ay,aR⟩|⟨h1,e9⟩
    ·rw [h7]at ad aR
     by_cases lg:j=i
     ·subst lg
      rw[eY]at h1
      cases h1
      exact⟨τ,by rw[ay,aR];simp[rk,look,ng],λ_ _ _ h=>h⟩
     rw[jv j lg]at ad
     rw[Sf j y h1 ad]at aR
     have aX:=Pl (ls:=λi=>bI.getD i false) (hd:=hd) (E:=E) (k:=0) h1 (by rw[h7];exact ad) ay λq z hq cy=>Q1 q j t z y hq h1 cy ay
     rw[h7,<-aR]at aX
     refine⟨τ,?_,λ_ _ _ h=>h⟩
     cases wo:h.slot with
     |none=>exact aX
     | some s=>
       have cX:Nat.beq s t=false:=by
        cases hb:Nat.beq s t
        ·rfl
        have:=eP.1 hb;subst this;exact absurd (Q1 j i s y h h1 eY ay wo) lg
       simp only[rk,look,cX,cond_false]
       exact aX
    have hb:=He t τ h1
    have aX:=O9 (ls:=λi=>bI.getD i false) (hd:=hd) (E:=E) (k:=0) hb
    refine⟨τ,?_,λ_ _ _ h=>h⟩
    cases wo:h.slot with
    |none=>simp only[rk];rw[aX];exact h1
    | some s=>
      have cX:Nat.beq s t=false:=by
       cases ry:Nat.beq s t
       ·rfl
       have:=eP.1 ry;subst this;exact absurd wo (e9 i h eY (by rw[h7];exact yt))
      simp only[rk,look,cX,cond_false]
      rw[aX];exact h1
   ·rcases W8 ao with⟨j,aC,y,h1,ad,ay⟩|h1
    ·have aX:=Pl (ls:=λi=>bI.getD i false) (hd:=hd) (E:=E) (k:=0) h1 (by rw[h7];exact aaf j aC) ad λq z hq cy=>Q1 q j t z y hq h1 cy ad
     rw[h7,<-ay]at aX
     exact aX
    rw[O9 (He t τ h1)];exact h1
   rw[KL]at aC⊢
   rw[<-aC]
   conv=>lhs;rw[XJ]
   rw[OM,O8]
   ·refine JZ λq x al hw=>?_
    rw[h7]
    have hq:q<i:=by have:=(fL.1 al).1;omega
    rw[jR,br hq]at al
    exact⟨aaf q ((GB q x al).1 hq ⟨j,by simpa using hw,aD⟩),λ_=>rfl⟩
   intro q x al hw
   rw[AV,h7]
   cases q with
   |zero=>exact pM
   | succ q=>
     simp only[List.getElem?_cons_succ]at al
     rw[lp]at al
     exact XI (i+(q+1)) x (by rw[<-al];congr 1;omega) (by omega) ⟨j,by simpa using hw,.inl aD⟩
def az.KM{jh:Nat}{l:aa Oper}(n:Nat){np:Nat}(hm:c.P.follows .mixedOrders=true)(hs:aa dt)(ds:aa (aw Nat×aa Nat×aa Nat×aa Nat))(es:aa Nat)(dZ:lE hs=ds)(jK:E.map (·.1)=es)(dE:Gv.qy l.toArray n ds es=true)(yi:∀h∈hs,∀j∈h.wr,j<np∨L.length<=j)
 (b2:pC c l.toArray Q hs E L np 0 (l.take n) hs) (bw:∀hd,ae c l.toArray Q (l.drop n) (hW (λ_=>true) hd E 0 hs) (gy (λ_=>true) hd 0 hs L)):az c Q (.region jh l.toArray true) E L:=λa W s=>by
 subst dZ jK
 refine wpIn_region_any hm ?_
 have aI:n<=l.toArray.size:=by
  simp only[Gv.qy,gq,fM]at dE;exact dE.1.1.1.1.1.2
 have Gp:HeadInv .any l.toArray n (Array.replicate l.toArray.size false):=
  {size:=by simp
   closed:=λj po _ ao=>by rw[getD_replicate_false]at ao;cases ao
   tail:=λt _ bw=>by simp at bw;simp[bw]}
 have h:=afP yi (ops:=l.toArray) (Q:=Q) dE (by simpa using b2) (by simpa using bw) n (Array.replicate l.toArray.size false) (λ_ _=>none) a W.drew (pv (Bo _ _) (by simp)) Gp ?_
 ·rw[show n+(l.toArray.size-n)=l.toArray.size by omega]at h
  exact h
 have h1:∀(hs:aa dt) (k:Nat),hW (λi=>(Array.replicate l.toArray.size false).getD i false) (λ_ _=>none) E k hs=E:=by
  intro hs;induction hs with
  |nil=>intro k;rfl
  | cons h r bJ=>
    intro k
    have ad:=bJ (k+1)
    simp only[getD_replicate_false]at ad
    unfold hW
    simp only[getD_replicate_false]
    exact ad
 have ad:∀(hs:aa dt) (k:Nat) (L:aa aE),gy (λi=>(Array.replicate l.toArray.size false).getD i false) (λ_ _=>none) k hs L=L:=by
  intro hs;induction hs with
  |nil=>intro k L;rfl
  |cons h r bJ=>intro k L;rw[gy,bJ];simp only[getD_replicate_false,cond_false]
 rw[h1,ad]
 exact s.world (Fr.drew W)
def az.arG{jh:Nat}{l:aa Oper}{ds:aa (aw Nat×aa Nat×aa Nat×aa Nat)}(n np:Nat)(hm:c.P.follows .mixedOrders=true)(hs:aa dt)(es:aa Nat)
 (b2:pC c l.toArray Q hs E L np 0 (l.take n) hs) (bw:∀hd,ae c l.toArray Q (l.drop n) (hW (λ_=>true) hd E 0 hs) (gy (λ_=>true) hd 0 hs L))
 (dZ:lE hs=ds:=by rfl) (jK:E.map (·.1)=es:=by rfl) (dE:Gv.qy l.toArray n ds es=true:=by kernel_rfl) (hw:(ds.all λd=>d.2.2.2.all λj=>Nat.blt j np)=true:=by kernel_rfl):az c Q (.region jh l.toArray true) E L:=
 az.KM n hm hs ds es dZ jK dE (YS dZ hw) b2 bw
def az.S7{jh:Nat}{l:aa Oper}{ds:aa (aw Nat×aa Nat×aa Nat×aa Nat)}(np:Nat)(hm:c.P.follows .mixedOrders=true)(hs:aa dt)(es:aa Nat)
 (b2:pC c l.toArray Q hs E L np 0 l hs) (bw:∀hd,ar c Q .normal (hW (λ_=>true) hd E 0 hs) (gy (λ_=>true) hd 0 hs L))
 (dZ:lE hs=ds:=by rfl) (jK:E.map (·.1)=es:=by rfl) (dE:Gv.qy l.toArray l.length ds es=true:=by kernel_rfl) (hw:(ds.all λd=>d.2.2.2.all λj=>Nat.blt j np)=true:=by kernel_rfl):az c Q (.region jh l.toArray true) E L:=
 az.KM l.length hm hs ds es dZ jK dE (YS dZ hw) (by rw[nf];exact b2) (λhd=>by rw[w9];exact ae.nil (bw hd))
def az.Mx{jh:Nat}{l:aa Oper}{ds:aa (aw Nat×aa Nat×aa Nat×aa Nat)}(hm:c.P.follows .mixedOrders=true)(hs:aa dt)(es:aa Nat)
 (b2:Cv c l.toArray Q hs E L 0 l hs) (bw:∀hd,ar c Q .normal (hW (λ_=>true) hd E 0 hs) (gy (λ_=>true) hd 0 hs L))
 (dZ:lE hs=ds:=by rfl) (jK:E.map (·.1)=es:=by rfl) (dE:Gv.qy l.toArray l.length ds es=true:=by kernel_rfl):az c Q (.region jh l.toArray true) E L:=
 az.KM (np:=L.length) l.length hm hs ds es dZ jK dE (λ_ _ j _=>by omega) (by rw[nf];exact b2.Hh) (λhd=>by rw[w9];exact ae.nil (bw hd))
def rg:Nat->Nat->aa (aw Nat)
 |_,0=>[]
 |a,n+1=>some a::rg (a+1) n
def az.ab1{jh:Nat}{l:aa Oper}(hm:c.P.follows .mixedOrders=true)(n:Nat)(dy:aa (aw Nat))(lA:aa (aa Nat))(hs:aa ff)(b2:∀bt,s6 c l.toArray bt dy hs E L 0 l hs lA)
 (bw:∀bt:Nat->Nat,ae c l.toArray Q (l.drop n) (v8 bt E 0 dy hs) (nY bt hs (ee L hs) 0 hs)) (dE:F8 l.toArray n dy lA (hs.map ff.o5) c.n=true:=by kernel_rfl) (aM:CZ E (dy.filterMap id)=true:=by rfl)
 (hlen:Nat.beq hs.length n=true:=by rfl):az c Q (.region jh l.toArray true) E L:=az.draw hm n dy lA hs (hs.map ff.o5) dE I aM hlen b2 bw
def eK.tail{l:aa Oper}{f:Nat}{bI:Array Bool}(n:Nat)(aY:(l.drop n).length=f)(hs:Region.seqB .any l.toArray f n bI=true)(h:ae c l.toArray Q (l.drop n) E L):eK c l.toArray Q f bI E L:=λa W s=>by
 subst aY;exact JF (l.drop n) n bI a W (λj=>by simp) hs (h a W s)
def ai.bA{α β:Type}{o:aw α}{k:α->ai β}{R:β->Prop}{P:Prop}(h:ai.bind (ai.of o) k R)(g:∀y,o=some y->k y R->P):P:=(ai.aif h).elim λy h=>g y h.1 h.2
def ai.ex{α β:Type}{m:ai α}{k:α->ai β}{R:β->Prop}(h:ai.bind m k R):∃K:α->Prop,m K∧∀r,K r->k r R:=⟨_,h,λ_ h=>h⟩
end
def agU{c:cj}{E:aa (Nat×J)}{L:aa aE}{x:bZ}{β:Type}[ah β]{b:β}(h:aP c E L x (.of b)):aP c E L x (.Me b []):=λa W s=>
 let⟨g1,g2⟩:=h a W s
 ⟨g1,g2,λ_ h=>by cases h⟩
def ae.aja{c:cj}{ops:Array Oper}{Q:Exit->Act->bf->Prop}{E:aa (Nat×J)}{L:aa aE}{l:aa Oper}{key:aw Nat}{n m cap off:Nat}{p:aw Nat}{β:Type}[ah β]{b:β}{os:aa (Nat×bl)}(i q:Nat)(av:L[i]? =some ⟨p,.cq b os⟩)(hq:os[q]? =some (off,aO key n cap))(aI:n=m)
 (k:ae c ops Q l E (L.set i ⟨p,.cq b (os.set q (off,aO key m cap))⟩)):ae c ops Q l E L:=by
 subst aI
 have XK:∀{α:Type} {xs:aa α} {j:Nat} {x:α},xs[j]? =some x->xs.set j x=xs:=λ{α xs j x} h=>l9 λr=>by
  by_cases e:j=r
  ·subst e;rw[Bn (fL.1 h).1,h]
  rw[w3 e]
 rw[XK hq,XK av]at k
 exact k
def bR.law{P:Program}{f:FuncId}{τs:aa J}{bC:Type}[dN bC]{R:Bool×aH bC->Prop}{Lo: {r:Bool×aH bC // R r}×Unit->aa aE}(h:bR P f τs ([]++a6 ([]:aH bC)) (λd: {r:Bool×aH bC // R r}×Unit=>J.of d.1.1.1) Lo)(kp:∀r,R r->r.1=true):cm P f τs (J.of true):=by
 intro A W vs ev ba;refine(h A W vs (λk hk=>⟨ev k hk,by simp[a6,ks]⟩) (by simp[a6,ks]) (λk hk=>by simp[a6,ks]at hk) (λe he=>by simp[a6]at he) (by simpa[a6,ks]using ba)).mono ?_;intro e W' ⟨v,d,h1,ad,_,_,_,ay⟩;refine⟨v,h1,by simpa[a6,ks]using ad,?_⟩;have aR:=kp d.1.1 d.1.2;rw[of_bool]at ay⊢;rw[ay,aR]
def G2(p:Prop)[Decidable p]:aw Unit:=if p then some ()else none
def ai.apN{β:Type}{p:Prop}[Decidable p]{k:Unit->ai β}{R:β->Prop}(h:ai.bind (ai.of (G2 p)) k R):p:=by
 obtain⟨r,h1,_⟩:=h;unfold G2 at h1;split at h1
 ·assumption
 cases h1
def ai.ani{β:Type}{p:Prop}[Decidable p]{k:Unit->ai β}{R:β->Prop}(h:ai.bind (ai.of (G2 p)) k R):k () R:=by
 obtain⟨r,_,ad⟩:=h;exact ad
section
variable{c:cj}{E:aa (Nat×J)}{L:aa aE}{ops:Array Oper}{Q:Exit->Act->bf->Prop}
end
def Bd(n:Nat)(vis:aa Nat):aw Nat->Prop
 |none=> ∀j,j<n->j∈vis
 |some j=>j<n∧j∉vis
def ai.next(n:Nat)(vis:aa Nat):ai (aw Nat):=λR=> ∀j,Bd n vis j->R j
def ai.VK{β:Type}{n:Nat}{vis:aa Nat}{k:aw Nat->ai β}{R:β->Prop}(h:ai.bind (ai.next n vis) k R)(j:aw Nat)(aC:Bd n vis j):k j R:=h j aC
def nU(es:Array MapEntry)(vis:aa Nat):Array Nat:=(vis.filterMap λj=>(es[j]?).map (·.born)).toArray
def nC(arH:Nat)(es:Array MapEntry)(clock:Nat)(vis:aa Nat):Obj:=.mapIter (some arH) clock (nU es vis) clock
structure MC(es:Array MapEntry)(clock n:Nat):Prop where
 size:es.size=n
 born:∀x∈es.toList,x.born<clock
 nodup:(es.toList.map MapEntry.born).Nodup
def dr.and(cp:dr)(o:Obj):dr where
 holds A W x:=cp.holds A W x∧x=o
 nX:=cp.nX
 mono e h:=⟨cp.mono e h.1,h.2⟩
def wb(b:Nat)(o:Obj)(e:aE):aE:=if e.key=some b then⟨e.key,e.cp.and o⟩else e
def pe(b:Nat)(o:Obj)(L:aa aE):aa aE:=L.map (wb b o)
def ag8(b:Nat)(o:Obj)(e:aE):(wb b o e).key=e.key:=by unfold wb;split <;> rfl
def Qi{b:Nat}{o:Obj}:∀{L:aa aE},ks (pe b o L)=ks L
 |[]=>rfl
 | e::L=>by
   have bJ:=Qi (b:=b) (o:=o) (L:=L);show ks (wb b o e::pe b o L)=_;unfold ks;rw[ag8,bJ]
def J.abo(b:Bool):J where
 holds _ _ v:=∃xs:Array bl,v=.tuple xs∧xs[0]? =some (.bool b)
 mono _ h:=h
section
variable{c:cj}{E:aa (Nat×J)}{L:aa aE}{ops:Array Oper}{Q:Exit->Act->bf->Prop}
variable{d:aw Tmp}{ty:bx}{pos:String}{af:Array Edge}{g:aw (Nat×Bool)}{x y z:bZ}{t t2:bx}
variable{bC:Type}[dN bC]{hp:aH bC}{loc:aa aE}
def agV{key:aw Nat}{n m cap:Nat}(aI:n=m)(h:aP c E L x (.eq (aO key n cap))):aP c E L x (.eq (aO key m cap)):=aI▸h
def KG{b:Nat}{o:Obj}{α β:Type}[ah α][ah β]{kv:aa (α×β)}{wU:bC}(n:Nat)(av:L.drop n=Gv.pe b o (a6 hp))(hp':pat hp b=some wU)(hk:dN.gk b wU=[⟨some b,.map kv⟩]):(⟨some b,dr.and (.map kv) o⟩:aE)∈L:=by
 have h1:(⟨some b,.map kv⟩:aE)∈a6 hp:=jc (n:=0) (hp:=hp) I hp' hk;have ad:wb b o ⟨some b,.map kv⟩∈Gv.pe b o (a6 hp):=gY.2 ⟨_,h1,rfl⟩;rw[<-av]at ad;have ay:=Bs ad;unfold wb at ay;rw[br I]at ay;exact ay
def bG.swap{L':aa aE}{a:Act}{W:bf}(h:bG c E L a W)(hk:ks L'=ks L)(aU:∀e∈L',e.ok (ks L++c.bP) W):bG c E L' a W:=
 {defers:=h.defers
  size:=h.size
  env:=by rw[hk];exact h.env
  dk:=h.dk
  own:=by rw[hk];exact aU
  nodup:=by rw[hk];exact h.nodup
  lt:=by rw[hk];exact h.lt
  fR:=by rw[hk];exact h.fR
  er:=by rw[hk];exact h.er}
def bG.pe{a:Act}{W:bf}{M:aa aE}(h:bG c E (loc++M) a W){b:Nat}{o:Obj}(hb:W.heap[b]? =some o):bG c E (loc++Gv.pe b o M) a W:=by
 refine h.swap (by rw[eg,eg,Qi]) λe he=>?_;rcases ca.1 he with he|he
 ·exact h.own e (M8 _ he)
 obtain⟨hC,bu,rfl⟩:=gY.1 he;have h1:=h.own hC (D0 _ bu);unfold wb;split
 ·rename_i hk;unfold aE.ok at h1⊢;simp only[hk]at h1⊢;obtain⟨o',g1,g2⟩:=h1;have:o'=o:=by rw[hb]at g1;exact(uc g1).symm
  exact⟨o',g1,g2,this⟩
 exact h1
def bG.La{a:Act}{W:bf}{M:aa aE}{b:Nat}{o:Obj}(h:bG c E (loc++Gv.pe b o M) a W):bG c E (loc++M) a W:=by
 have hk:ks (loc++M)=ks (loc++Gv.pe b o M):=by rw[eg,eg,Qi]
 refine h.swap hk λe he=>?_;rcases ca.1 he with he|he
 ·exact h.own e (M8 _ he)
 have h1:=h.own (wb b o e) (D0 _ (gY.2 ⟨e,he,rfl⟩));unfold wb at h1;split at h1
 ·rename_i dJ;unfold aE.ok at h1⊢;simp only[dJ]at h1⊢;obtain⟨o',g1,g2,_⟩:=h1;exact⟨o',g1,g2⟩
 exact h1
def ar.La{z:Exit}{b:Nat}{o:Obj}(n:Nat)(av:L.drop n=Gv.pe b o (a6 hp))(k:ar c Q z E (L.take n++a6 hp)):ar c Q z E L:=λa W s=>by
 have e:L=L.take n++Gv.pe b o (a6 hp):=by rw[<-av,gb]
 rw[e]at s;exact k a W s.La
def l1.get{α β:Type}[ah α][ah β]{A W}:∀{es:aa MapEntry} {kv:aa (α×β)},l1 A W es kv->∀{j:Nat} {x:α×β},kv[j]? =some x->∃e,es[j]? =some e∧(J.of x.1).holds A W e.key∧(J.of x.2).holds A W e.val
 |_,_,.nil,j,x,h=>by simp at h
 | _,_,.cons h1 ad r,0,x,h=>by
   have h:some _=some x:=h;cases h;exact⟨_,rfl,h1,ad⟩
 | _,_,.cons h1 ad r,j+1,x,h=>by
   obtain⟨e,g1,g2⟩:=r.get (j:=j) (by simpa using h);exact⟨e,by simpa using g1,g2⟩
def ae.Xy{rest:aa Oper}{a1 p key elem:Nat}{α β:Type}[ah α][ah β]{kv:aa (α×β)}{wU:bC}(n:Nat)(av:L.drop n=a6 hp)(hu:c.P.underlying t=some (.map key elem))(al:aP c E L x (.of (⟨some p⟩:eJ)))(hp':pat hp p=some wU)(hk:dN.gk p wU=[⟨some p,.map kv⟩])(aI:Nat.blt a1 c.n=true)
 (k:∀r es clock,MC es clock kv.length->ae c ops Q rest ((a1,.eq (.pointer (some ⟨r,0,none⟩)))::E) (⟨some r,.is (nC p es clock [])⟩::(L.take n++Gv.pe p (.map es clock) (a6 hp)))):
 ae c ops Q (⟨some a1,.range t x,ty,pos,af,none⟩::rest) E L:=λa W s=>by
 have e:L=L.take n++a6 hp:=by rw[<-av,gb]
 have hm:(⟨some p,.map kv⟩:aE)∈L:=by
  rw[e];exact jc (n:=(L.take n).length) (hp:=hp) (by simp) hp' hk
 obtain⟨es,clock,aU,ad,ay,aR⟩:=s.Gc hm
 have mW:=xu.1 (al a W s)
 have jK:MC es clock kv.length:=⟨by have:=ad.length;simpa using this,ay,aR⟩
 refine iw I (R:=λv W'=>v=.pointer (some ⟨W.heap.size,0,none⟩)∧W'=W.alloc (nC p es clock [])) (.mK ?_ ⟨rfl,rfl⟩) λv W' ⟨ba,hw⟩=>?_
 ·have bF:(getObj p).run c.P W=.ok (.map es clock) W:=by simp[getObj,Sem.run,aU]
  simp[execOp,Instr.range,dI,dL hu,mW,bF,newObj,Sem.run]
  rfl
 subst ba
 subst hw
 have s1:=s.alloc (cp:=.is (nC p es clock [])) (o:=nC p es clock []) I
 refine k W.heap.size es clock jK _ _ (bG.put ?_ (by simpa using aI) I)
 rw[e]at s1
 have hb:(W.alloc (nC p es clock [])).heap[p]? =some (.map es clock):=by
  have b9:p<W.heap.size:=(q4.1 aU).1;show(W.heap.push _)[p]? =_;rw[Array.getElem?_push_lt b9,<-Ij b9];exact aU
 exact bG.pe (loc:=⟨some W.heap.size,.is (nC p es clock [])⟩::L.take n) s1 hb
def ae.Yu{rest:aa Oper}{a1 r p:Nat}{α β:Type}[ah α][ah β]{kv:aa (α×β)}{es:Array MapEntry}{clock:Nat}{vis:aa Nat}(i:Nat)(al:aP c E L x (.eq (.pointer (some ⟨r,0,none⟩))))(ax:L[i]? =some ⟨some r,.is (nC p es clock vis)⟩)
 (hm:(⟨some p,dr.and (.map kv) (.map es clock)⟩:aE)∈L) (he:MC es clock kv.length) (aI:Nat.blt a1 c.n=true)
 (k:∀j,Bd kv.length vis j->ae c ops Q rest ((a1,.abo j.isSome)::E) (L.set i ⟨some r,.is (nC p es clock (vis++j.toList))⟩)):
 ae c ops Q (⟨some a1,.next x false,ty,pos,af,none⟩::rest) E L:=λa W s=>by
 have mW:a.eval x=_:=al a W s
 obtain⟨bz,tp,⟨_,ry⟩⟩:=s.own _ hm
 subst ry
 obtain⟨cc,Dv,AW⟩:=s.own _ (eo ax)
 have AW:cc=nC p es clock vis:=AW
 subst AW
 have alS:∀{j:Nat} {e:MapEntry},es[j]? =some e->(nU es vis).contains e.born=true->j∈vis:=λ{j e} aC ak=>by
  unfold nU at ak;simp only[TI,M1,w4]at ak;obtain⟨v,ba,h1⟩:=ak;cases Mm:es[v]? with
  |none=>rw[Mm]at h1;cases h1
  | some e'=>
    rw[Mm]at h1
    have h1:e'.born=e.born:=by simpa using h1
    have wu:j<es.toList.length:=by simpa using (q4.1 aC).1
    have ss:v<es.toList.length:=by simpa using (q4.1 Mm).1
    have au:(es.toList.map MapEntry.born)[j]? =some e.born:=by simp[aC]
    have aW:(es.toList.map MapEntry.born)[v]? =some e.born:=by simp[Mm,h1]
    have:=(List.getElem?_inj (by simpa using wu) he.nodup).1 (au.trans aW.symm)
    rw[this];exact ba
 rcases run_next_at (P:=c.P) W ty r p clock clock (nU es vis) es clock Dv tp he.born (iu _)with⟨bu,jt⟩|⟨e,u0,tT,Sg,jt⟩
 ·
  have mU:Bd kv.length vis none:=λj aC=>by
   have AX:j<es.size:=by rw[he.size];exact aC
   false_or_by_contra;rename_i e9;have:es[j]∈(leftOf es (nU es vis)).toList:=by
    unfold leftOf;simp only[TV,sI];refine⟨by simp,?_⟩;cases ak:(nU es vis).contains es[j].born with
    |false=>rfl
    |true=>exact absurd (alS (by simp[AX]) ak) e9
   have cy:(leftOf es (nU es vis)).toList=[]:=by
    apply DP;simpa using bu
   rw[cy]at this;cases this
  refine iw I (R:=λv W'=>v=.tuple #[.bool false]∧W'=W) (.mK (v:=.tuple #[.bool false]) ?_ ⟨rfl,rfl⟩) λv W' ⟨ba,hw⟩=>?_
  ·simp only[execOp,mW,dI,jt,Result.andThen_ok];rfl
  subst ba hw
  have hk:=k none mU
  have hF:L.set i ⟨some r,.is (nC p es clock (vis++Option.toList none))⟩=L:=by
   apply l9;intro q;rw[oP];split
   ·rename_i hq;subst hq;rw[br (fL.1 ax).1,ax];simp
   rfl
  rw[hF]at hk
  exact hk _ _ (bG.put s (by simpa using aI) ⟨_,rfl,rfl⟩)
 have aag:e∈es.toList∧(nU es vis).contains e.born=false:=by
  unfold leftOf at u0;simp only[TV,sI,vh]at u0;exact u0
 obtain⟨j,aC⟩:=l8.1 aag.1
 have AX:es[j]? =some e:=by simpa using aC
 have wu:j<kv.length:=by rw[<-he.size];exact(q4.1 AX).1
 have mU:Bd kv.length vis (some j):=⟨wu,λba=>by
  have:(nU es vis).contains e.born=true:=by
   unfold nU;simp only[TI,M1,w4];exact⟨j,ba,by rw[AX];rfl⟩
  rw[aag.2]at this;cases this⟩
 have Q2:(nU es vis).push e.born=nU es (vis++[j]):=by
  unfold nU;rw[TJ];simp[AX]
 rw[Q2]at jt
 refine iw I (R:=λv W'=>v=.tuple #[.bool true,e.key,e.val]∧W'=tT.putObj r (nC p es clock (vis++[j]))) (.mK (v:=.tuple #[.bool true,e.key,e.val]) ?_ ⟨rfl,rfl⟩) λv W' ⟨ba,hw⟩=>?_
 ·simp only[execOp,mW,dI,jt,Result.andThen_ok];rfl
 subst ba hw
 have s1:bG c E L a tT:=by
  rcases Sg with rfl|rfl
  ·exact s
  exact s.world (Fr.drew W)
 exact k (some j) mU _ _ (bG.put (s1.nx ax (cp':=.is (nC p es clock (vis++[j]))) (o':=nC p es clock (vis++[j])) I) (by simpa using aI) ⟨_,rfl,rfl⟩)
def Xz{b:Bool}(al:aP c E L x (.abo b)):bc c E L ⟨d,.extract x 0,ty,pos,af,g⟩ (.of b):=.pure λa W s=>by
 obtain⟨xs,h1,ad⟩:=al a W s;refine⟨.bool b,?_,of_bool.2 I⟩;simp[execOp,Instr.extract,h1,ad]
def Wb{r p:Nat}{α β:Type}[ah α][ah β][Inhabited α][Inhabited β]{kv:aa (α×β)}{es:Array MapEntry}{clock:Nat}{vis:aa Nat}{j:aw Nat}{q:Nat}(i:Nat)(al:aP c E L x (.eq (.pointer (some ⟨r,0,none⟩))))(ax:L[i]? =some ⟨some r,.is (nC p es clock (vis++j.toList))⟩)
 (hm:(⟨some p,dr.and (.map kv) (.map es clock)⟩:aE)∈L) (he:MC es clock kv.length) (aC:Bd kv.length vis j) (hq:j=some q):
 bc c E L ⟨d,.entry x,ty,pos,af,g⟩ (.bY [.of (aB kv q).1,.of (aB kv q).2]):=.pure λa W s=>by
 subst hq
 have mW:a.eval x=_:=al a W s
 obtain⟨bz,tp,⟨oa,zX,oB,ad,ay,aR⟩,ry⟩:=s.own _ hm
 subst ry
 cases oB
 obtain⟨cc,Dv,AW⟩:=s.own _ (eo ax)
 have AW:cc=nC p es clock (vis++[q]):=AW
 subst AW
 have L8:q<kv.length:=aC.1
 obtain⟨e,g1,g2,g3⟩:=ad.get (j:=q) (x:=aB kv q) (by rw[fQ _ L8];exact qf L8)
 have AX:es[q]? =some e:=by simpa using g1
 have Q2:nU es (vis++[q])=(nU es vis).push e.born:=by
  unfold nU;rw[TJ];simp[AX]
 have Sh:W.heap[r]? =some (.mapIter (some p) clock ((nU es vis).push e.born) clock):=by rw[<-Q2];exact Dv
 have jt:=run_entry_at (P:=c.P) W r p clock (nU es vis) es clock e Sh tp (eo g1) he.nodup
 refine⟨.tuple #[e.key,e.val],?_,_,rfl,.cons g2 (.cons g3 .nil)⟩
 simp only[execOp,mW,dI,jt,Result.andThen_ok]
 rfl
end
end Gv
namespace Gv
open Go Go.Proofs Go.Sort
def J.GR{α:Type}[ah α](P:Program)(F:α->α->aw Int):J where
 holds A W v:=∃f cap,v=.func (.func f) #[] cap∧bD P f∧∀cE W',Ext A W cE W'->(∀k∈cE,k<W'.heap.size)->∀x y r oe tM,F x y=some r->(J.of x).holds cE W' oe->(J.of y).holds cE W' tM->
  Calls P f (#[oe,tM]++cap) W' λe tA=> ∃v,e=.returned v∧Fr [] W' tA∧(J.of r).holds cE tA v
 mono e h:=let⟨f,cap,h1,ad,ay⟩:=h; ⟨f,cap,h1,ad,λcE W' e'=>ay cE W' (e.trans e')⟩
def Wc{c:cj}{E:aa (Nat×J)}{L:aa aE}{α:Type}[ah α]{F:α->α->aw Int}{f:FuncId}(cf:bD c.P f)(h:∀x y r,F x y=some r->cm c.P f [.of x,.of y] (.of r)):aP c E L (.func f) (.GR c.P F):=λa W s=>
 ⟨f,#[],rfl,cf,λcE W' _ ev x y r oe tM lO al hy=>by simpa using h x y r lO cE W' [oe,tM] ev (.cons al (.cons hy .nil))⟩
def ag9{W W':bf}(h:Fr [] W W'):∃q os,W'=grow (W.drewN q) os:=by
 obtain⟨p,hp⟩:=regrown_of_below h.below;have hd:=h.drawn;rw[hp]at hd;have hd:W.drawn<=p.d:=hd;refine⟨p.d-W.drawn,p.os,?_⟩;rw[hp];unfold redrawn World.drewN;congr 2;omega
structure yu{α:Type}(c:α->α->Int):Prop where
 neg:∀x y,c x y<0↔0<c y x
 mz:∀x y z,c x y<=0->c y z<=0->c x z<=0
def yu.swo{α:Type}{c:α->α->Int}(h:yu c):SWO (ltOf c)where
 irrefl x:=by
  unfold ltOf;rw[mC];intro h1;have:=(h.neg x x).1 h1;omega
 trans x y z h1 ad:=by
  unfold ltOf at *;rw[fM]at *;have bS:=h.mz x y z (by omega) (by omega);by_cases ay:c x z<0
  ·exact ay
  have aR: ¬0<c z x:=λaX=>ay ((h.neg x z).2 aX);have aX:=h.mz y z x (by omega) (by omega);have:=(h.neg x y).1 h1;omega
 ntrans x y z h1 ad:=by
  unfold ltOf at *;rw[mC]at *;have c7: ¬0<c y x:=λay=>h1 ((h.neg x y).2 ay);have dH: ¬0<c z y:=λay=>ad ((h.neg y z).2 ay);have gE:=h.mz z y x (by omega) (by omega);intro ay;have:=(h.neg x z).1 ay;omega
def yu.on{α β:Type}{c:α->α->Int}(h:yu c)(g:β->α):yu (λx y=>c (g x) (g y)):=⟨λx y=>h.neg _ _,λx y z=>h.mz _ _ _⟩
def mX(k:Nat)(cs:Array bl)(i:Nat):aa bl:=(cs.toList.drop (i*k)).take k
def Xd{k:Nat}{cs:Array bl}{i j:Nat}(aC:j<k)(h:i*k+j<cs.size):(mX k cs i)[j]! =cs[i*k+j]:=by
 have ao:j<(mX k cs i).length:=by
  unfold mX;rw[fy,ku,Array.length_toList];omega
 rw[getElem!_pos _ j ao];have:(mX k cs i)[j]? =cs[i*k+j]? :=by
  unfold mX;rw[jR,br aC,lp,w2]
 rw[qf ao,Ij h]at this;exact uc this
def afQ{n k p:Nat}[Inhabited (Fin n)]{W:bf}{cs:Array bl}{t:bx}(aU:W.heap[p]? =some (.cells cs t (0,0)))(dK:n*k<=cs.size)(d:Array (Fin n))(hd:d.size=n)(Hy:∀i (h:i<n),d[i]! =⟨i,h⟩):HoldsK (λi:Fin n=>mX k cs i.1) k W p 0 d:=by
 intro j aC;have aC:j<d.size*k:=by simpa using aC
 have yl:j<n*k:=by rw[<-hd];exact aC
 have hk:0<k:=Eb λe=>by rw[e]at yl;omega
 have hdiv:j/k<n:=TT (by rw[rN];exact yl);have As:=BS j hk;have aqv:j/k*k+j % k=j:=by rw[rN];exact EB j k
 constructor
 ·rw[get_flatK _ _ _ _ aC,Hy _ hdiv];show W.cell? _=some ((mX k cs (j/k))[j % k]!);rw[Xd As (by omega)];unfold World.cell?;simp only[aU,h7,aqv];simp
 unfold World.frozen?;simp[aU]
def Vj{n k p m:Nat}[Inhabited (Fin n)]{W:bf}{cs:Array bl}{t:bx}(hp:p<W.heap.size)(aU:W.heap[p]? =some (.cells cs t (0,0)))(enc:Fin n->aa bl)(d:Array (Fin n))(os:Array Obj):
 (sortWorldK enc k W p 0 m d os).heap[p]? =some (.cells (putCells id 0 (flatK enc k d) cs) t (0,0))∧(∀q,q<W.heap.size->q≠p->(sortWorldK enc k W p 0 m d os).heap[q]? =W.heap[q]?)∧W.heap.size<=(sortWorldK enc k W p 0 m d os).heap.size:=by
 unfold sortWorldK grow putRowK putRow mapBlock
 refine⟨?_,λq hq cX=>?_,?_⟩
 ·rw[ve (by simpa[Sort.ahead]using hp),MZ]
  simp[Sort.ahead,aU,onCells]
 ·rw[ve (by simpa[Sort.ahead]using hq),MZ]
  simp[Sort.ahead,zp cX]
 simp[Sort.ahead]
def VW{n k p m:Nat}[Inhabited (Fin n)]{W:bf}{cs:Array bl}{t:bx}(hp:p<W.heap.size)(aU:W.heap[p]? =some (.cells cs t (0,0)))(enc:Fin n->aa bl)(d:Array (Fin n))(os:Array Obj):Fr [p] W (sortWorldK enc k W p 0 m d os):=by
 obtain⟨_,ad,ay⟩:=Vj (k:=k) (m:=m) hp aU enc d os;exact⟨rfl,rfl,rfl,Nat.le_add_right _ _,ay,λq hq cX=>ad q hq (by simpa using cX)⟩
def Kf{F cs:Array bl}:(putCells id 0 F cs).size=cs.size:=by unfold putCells;simp
def ajo{n k i j:Nat}(ax:i<n)(aC:j<k):i*k+j<n*k:=by
 have:=hi k (show i+1<=n from ax);rw[nh,N1]at this;omega
def aij{n k i:Nat}{cs:Array bl}(dK:n*k<=cs.size)(ax:i<n):(mX k cs i).length=k:=by
 have:=hi k (show i+1<=n from ax);rw[nh,N1]at this;unfold mX;rw[fy,ku,Array.length_toList];omega
def afR{n k i:Nat}[Inhabited (Fin n)]{cs:Array bl}{enc:Fin n->aa bl}(hk:∀x,(enc x).length=k){d:Array (Fin n)}(hd:d.size=n)(dK:n*k<=cs.size)(ax:i<n):mX k (putCells id 0 (flatK enc k d) cs) i=enc d[i]! :=by
 apply Er
 ·rw[aij (by rw[Kf];exact dK) ax,hk]
 intro j h1 ad;have aC:j<k:=by rw[hk]at ad;exact ad
 have b9:=ajo ax aC;have qR:0<k:=by omega
 have aY:i*k+j<d.size*k:=by rw[hd];exact b9
 have au:(i*k+j)/k=i:=by rw[rN,Nat.mul_add_div qR,No aC];omega
 have aW:(i*k+j) % k=j:=by rw[rN,Nat.mul_add_mod,Np aC]
 rw[<-getElem!_pos _ j h1,Xd aC (by rw[Kf];omega),<-getElem!_pos (enc d[i]!) j ad];unfold putCells;rw[Array.getElem_mapIdx,br ⟨q7 _,by rw[size_flatK];omega⟩,Nat.sub_zero,get_flatK _ _ _ _ aY,au,aW];rfl
def aha{m:Nat}{cs:Array bl}(h:m<=cs.size):(cs.toList.take m).length=m:=by rw[fy,Array.length_toList];omega
def Xe{α:Type}(a:Array α){n:Nat}(h:a.size=n):a.extract 0 n=a:=by subst h;simp
def Wm{n k i:Nat}{cs:Array bl}(ax:i<n):((cs.toList.take (n*k)).drop (i*k)).take k=mX k cs i:=by
 have:=hi k (show i+1<=n from ax);rw[nh,N1]at this;rw[vm,rM,show min k (n*k-i*k)=k by omega];rfl
set_option maxHeartbeats 1000000 in
open Go.Shelf in
def alT{T:Type}[ah T]{P:Program}{ρ:Ren}(L:SlLaysF0.n6 P ρ)(S8:∀w,(isAgg (ρ.t 24)).run P w=.ok true w)(S9:∀w,(Go.sizeOf (ρ.t 24)).run P w=.ok (ah.size T) w)(Si:ah.agg T=true){t:bx}{xs:aa T}{F:T->T->aw Int}{c:T->T->Int}(ak:yu c)
 (lO:∀a∈xs,∀b∈xs,F a b=some (c a b)) (hlen:xs.length<4611686018427387904) {key:aw Nat} {cap:Nat}:
 bR P (ρ.f 6) [.eq (aO key xs.length cap),.GR P F] [⟨key,.row t xs cap⟩] (δ:= {ys:aa T // ys.Perm xs∧ys.Pairwise (λa b=>c a b<=0)}) (λ_=>.bY []) (λd=>[⟨key,.row t d.1 cap⟩]):=by
 intro A W vs ev ij b9 hJ ba
 cases ba with
 | cons h1 ba=>cases ba with
   | cons ad ba=>cases ba with
     | nil=>
       rename_i v1 v2
       have h1:v1=aO key xs.length cap:=h1
       obtain⟨f,yD,rfl,cf,Af⟩:=ad
       subst h1
       cases key with
       | none=>
         have aou:xs=[]∧cap=0:=hJ ⟨none,.row t xs cap⟩ (by simp)
         obtain⟨rfl,rfl⟩:=aou
         refine(AnyF.slices_SortFunc_none L none 0 (.func (.func f) #[] yD) W).mono ?_
         rintro e pk ⟨rfl,rfl⟩
         exact⟨_,⟨[],.refl _,.nil⟩,rfl,Fr.refl _ _,by simp[ks],by simp[ks],λe he=>by simp at he;subst he;exact⟨rfl,rfl⟩,⟨_,rfl,.nil⟩⟩
       | some p=>
         obtain⟨o,aU,cs,rfl,dK,hle,aah,YZ⟩:∃o,W.heap[p]? =some o∧(dr.row t xs cap).holds (ks [⟨some p,.row t xs cap⟩]++A) W o:=hJ ⟨some p,.row t xs cap⟩ (by simp)
         have hp:p<W.heap.size:=b9 p (by simp[ks])
         have aqw:∀q∈p::A,q<W.heap.size:=λq hq=>by
          rcases dO.1 hq with rfl|hq
          ·exact hp
          exact(ev q hq).1
         have abp:p∉A:=λh=>(ev p h).2 (by simp[ks])
         by_cases bu:xs.length=0
         ·obtain rfl:xs=[]:=DU.1 bu
          refine(AnyF.slices_SortFunc_none L (some ⟨p,0,none⟩) cap (.func (.func f) #[] yD) W).mono ?_
          rintro e pk ⟨rfl,rfl⟩
          refine⟨_,⟨[],.refl _,.nil⟩,rfl,Fr.refl _ _,by simp[ks],λq hq=>?_,λe he=>?_,⟨_,rfl,.nil⟩⟩
          ·simp[ks]at hq;subst hq
           exact⟨hp,λ_=>by simp[ks],abp⟩
          simp at he;subst he
          exact⟨_,aU,cs,rfl,dK,hle,aah,YZ⟩
         have aI:0<xs.length:=by omega
         letI:Inhabited (Fin xs.length):=⟨⟨0,aI⟩⟩
         have Sj:xs.length*ah.size T<=cs.size:=by rw[dK];exact hi _ hle
         have GG:∀i (h:i<xs.length),ah.rep (p::A) W (mX (ah.size T) cs i) xs[i]:=λi h=>by
          have:=YZ.2 i h;rw[Wm h]at this;exact this
         have dZ:(Array.ofFn λi:Fin xs.length=>i).size=xs.length:=by simp
         have Hy:∀i (h:i<xs.length),(Array.ofFn λi:Fin xs.length=>i)[i]! =⟨i,h⟩:=λi h=>by
          rw[getElem!_pos _ i (by simp;exact h)];simp
         generalize (Array.ofFn λi:Fin xs.length=>i)=d at dZ Hy
         have qX:=afQ aU Sj d dZ Hy
         have hO:SWO (ltOf λx y:Fin xs.length=>c xs[x.1] xs[y.1]):=(ak.on λi:Fin xs.length=>xs[i.1]).swo
         have gR:∀m os sC,Ext (p::A) W (p::A) (sortWorldK (λi:Fin xs.length=>mX (ah.size T) cs i.1) (ah.size T) W p 0 m sC os):=λm os sC=>Ext.YO (VW hp aU _ sC os) λq hq=>by simp at hq;subst hq;exact ln
         have C5:∀m os sC (i:Fin xs.length),(J.of xs[i.1]).holds (p::A) (sortWorldK (λi:Fin xs.length=>mX (ah.size T) cs i.1) (ah.size T) W p 0 m sC os) (.agg (mX (ah.size T) cs i.1).toArray):=λm os sC i=>
          ⟨by rw[Si];exact⟨_,rfl⟩,ah.mono (gR m os sC) (GG i.1 i.2)⟩
         have aov:CmpLays P f yD (λi:Fin xs.length=>mX (ah.size T) cs i.1) (ah.size T) (λx y:Fin xs.length=>c xs[x.1] xs[y.1]) p 0 d.size W:=λm os sC asy x y=>
          (Af (p::A) _ (gR m os sC) (λq hq=>rL (aqw q hq) (gR m os sC).size) _ _ _ _ _ (lO _ (om x.2) _ (om y.2)) (C5 m os sC x) (C5 m os sC y)).mono λe pk ⟨v,he,aqx,ba⟩=>⟨by rw[he,of_int.1 ba],ag9 aqx⟩
         have av:∀x:Fin xs.length,(mX (ah.size T) cs x.1).length=ah.size T:=λx=>ah.len (GG x.1 x.2)
         have aqy:∀x:Fin xs.length,∀v∈mX (ah.size T) cs x.1,v.oneCell'=true:=λx=>ah.one (GG x.1 x.2)
         have iD:d.size<4611686018427387904:=by omega
         have h:=AnyQ.slices_SortFunc L (ah.size T) S8 S9 (λi:Fin xs.length=>mX (ah.size T) cs i.1) av aqy (λx y:Fin xs.length=>c xs[x.1] xs[y.1]) hO f yD p 0 cap d W (λargs w=>cf.run args w) aov qX hp iD
         rw[dZ]at h
         refine h.mono ?_
         rintro e pk ⟨rfl,nN,m,os,Y0,alU,rfl⟩
         obtain⟨b2,_,L5⟩:=Vj (k:=ah.size T) (m:=m) hp aU (λi:Fin xs.length=>mX (ah.size T) cs i.1) nN os
         have hd':nN.size=xs.length:=Y0.1.trans dZ
         have kN:(nN.toList.map λi=>xs[i.1]).length=xs.length:=by simp[hd']
         have j7:(nN.toList.map λi=>xs[i.1]).Perm xs:=by
          have ad:=Y0.2.2;rw[Xe nN hd',Xe d dZ]at ad;refine(ad.map _).trans (List.Perm.of_eq ?_);refine Er (by simp[dZ]) λi ay aR=>?_;have:=Hy i aR;rw[getElem!_pos _ i (by omega)]at this;simp[this]
         have tj:∀i (h:i<xs.length),(nN.toList.map λi=>xs[i.1])[i]'(by omega)=xs[(nN[i]!).1]:=λi h=>by
          have e:nN[i]! =nN[i]'(by omega):=getElem!_pos _ i (by omega);simp[e]
         have Sk:(nN.toList.map λi=>xs[i.1]).Pairwise (λa b=>c a b<=0):=by
          rw[List.pairwise_iff_getElem];intro i j ax aC hI;rw[kN]at ax aC;have:=alU i j (q7 _) hI aC;unfold ltOf at this;rw[mC]at this;rw[tj i ax,tj j aC];have aX: ¬0<c xs[(nN[i]!).1] xs[(nN[j]!).1]:=λbh=>this ((ak.neg _ _).2 bh);omega
         refine⟨_,⟨_,j7,Sk⟩,rfl,VW hp aU _ nN os,by simp[ks],λq hq=>?_,λe he=>?_,⟨_,rfl,.nil⟩⟩
         ·simp[ks]at hq;subst hq
          exact⟨rL hp L5,λ_=>by simp[ks],abp⟩
         simp at he;subst he
         refine⟨_,b2,_,rfl,by rw[Kf];exact dK,by rw[kN];exact hle,aah,?_,λi ax=>?_⟩
         ·rw[kN];exact aha (by rw[Kf];exact Sj)
         rw[kN]at ax
         rw[kN,Wm ax,afR (λx=>ah.len (GG x.1 x.2)) hd' Sj ax,tj i ax]
         exact ah.mono (gR m os nN) (GG _ (nN[i]!).2)
def ai.vP{T:Type}(xs:aa T)(F:T->T->aw Int):ai (aa T):=λQ=> ∃c:T->T->Int,yu c∧xs.length<4611686018427387904∧(∀a∈xs,∀b∈xs,F a b=some (c a b))∧∀ys:aa T,ys.Perm xs->ys.Pairwise (λa b=>c a b<=0)->Q ys
open Go.Shelf in
def X7{T:Type}[ah T]{P:Program}{ρ:Ren}(L:SlLaysF0.n6 P ρ)(S8:∀w,(isAgg (ρ.t 24)).run P w=.ok true w)(S9:∀w,(Go.sizeOf (ρ.t 24)).run P w=.ok (ah.size T) w)(Si:ah.agg T=true){t:bx}{xs:aa T}{F:T->T->aw Int}{K:aa T->Prop}(h:ai.vP xs F K){key:aw Nat}{cap:Nat}:
 bR P (ρ.f 6) [.eq (aO key xs.length cap),.GR P F] [⟨key,.row t xs cap⟩] (δ:= {r:aa T // xs.length=r.length∧K r}) (λ_=>.bY []) (λd=>[⟨key,.row t d.1 cap⟩]):=by
 obtain⟨c,ak,hlen,lO,hk⟩:=h
 intro A W vs h1 ad ay aR aX
 exact(alT L S8 S9 Si ak lO hlen A W vs h1 ad ay aR aX).mono λe pk ⟨v,d,h⟩=>⟨v,⟨d.1,d.2.1.length_eq.symm,hk _ d.2.1 d.2.2⟩,h⟩
end Gv
