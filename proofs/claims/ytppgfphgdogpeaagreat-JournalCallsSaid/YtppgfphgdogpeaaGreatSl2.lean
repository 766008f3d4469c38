/-
  The library of the decompiler, as far as it is needed here. Conditions: none.
-/
import Derived.Test.YtppgfphgdogpeaaGreatSl0
import Derived.Test.YtppgfphgdogpeaaGreatSl1
set_option linter.defProp false
set_option linter.unusedVariables false
set_option linter.unusedSimpArgs false
namespace Gv
open Go
def e4(n:Nat):aa Nat->Bool
 |[]=>false
 |m::r=>bif Nat.beq m n then true else e4 n r
def nq{n:Nat}:∀{l:aa Nat},e4 n l=true↔n∈l
 |[]=>by simp[e4]
 | m::r=>by
   unfold e4;cases h:Nat.beq m n with
   |true=>have:=U8 h;subst this;simp
   | false=>
     have di:n≠m:=λe=>by subst e;rw[nh]at h;cases h
     simp only[cond_false,nq,dP,di,false_or]
def mE(ls:Nat->Bool)(E:aa (Nat×J)):aa (Nat×Nat×J)->aa (Nat×J)
 |[]=>E
 |x::r=>bif ls x.1 then x.2::mE ls E r else mE ls E r
def Bj(i:Nat):aa (Nat×Nat×J)->aE J
 |[]=>none
 |x::r=>bif Nat.beq x.1 i then some x.2.2 else Bj i r
def Nc(i:Nat):aa (Nat×Nat×J)->aE (Nat×J)
 |[]=>none
 |x::r=>bif Nat.beq x.1 i then some x.2 else Nc i r
def EO:aa Edge->aa Nat
 |[]=>[]
 |e::r=>bif Region.binds .any e then e.on::EO r else EO r
def HZ{d:Nat}:∀{l:aa Edge},d∈EO l↔∃e∈l,Region.binds .any e=true∧e.on=d
 |[]=>by simp[EO]
 | e::r=>by
   unfold EO;cases h:Region.binds .any e with
   | true=>
     simp only[cond_true,dP,HZ]
     constructor
     ·rintro (rfl|⟨e',h1,ad,aB⟩)
      ·exact⟨e,.inl I,h,rfl⟩
      exact⟨e',.inr h1,ad,aB⟩
     rintro ⟨e',rfl|h1,ad,aB⟩
     ·exact .inl aB.symm
     exact .inr ⟨e',h1,ad,aB⟩
   | false=>
     simp only[cond_false,HZ,dP]
     constructor
     ·rintro ⟨e',h1,ad⟩;exact⟨e',.inr h1,ad⟩
     rintro ⟨e',rfl|h1,ad,aB⟩
     ·rw[h]at ad;cases ad
     exact⟨e',h1,ad,aB⟩
def k7(o:Oper):aa Nat:=EO o.after.toList
def EP(fs:aa (Nat×Nat×J)):aa Nat:=fs.map (·.2.1)
structure uQ(fs:List (Nat×Nat×J))(E:List (Nat×J)):Prop where
 N8:(EP fs).Nodup
 out:∀t∈EP fs,look E t=none
def uQ.app{fs gs:aa (Nat×Nat×J)}{M:aa (Nat×J)}(h:uQ (gs++fs) M):uQ fs M:=⟨by have:=h.N8;unfold EP at this;rw[mI]at this;exact(q5.1 this).2.1,λt bD=>h.out t (by unfold EP;rw[mI];exact cF.2 (.inr bD))⟩
def Mr{α β:Type}{f:α->β}:∀{l:aa α},(l.map f).Nodup->∀{x y:α},x∈l->y∈l->f x=f y->x=y
 | z::r,h,x,y,au,aR,e=>by
   obtain⟨h1,ad⟩:=pP.1 h;rcases dP.1 au with av|au
   ·rcases dP.1 aR with aS|aR
    ·rw[av,aS]
    exact absurd (ic.2 ⟨y,aR,by rw[<-e,av]⟩) h1
   rcases dP.1 aR with aS|aR
   ·exact absurd (ic.2 ⟨x,au,by rw[e,aS]⟩) h1
   exact Mr ad au aR e
def nX{ls:Nat->Bool}{E:aa (Nat×J)}{t:Nat}{τ:J}:∀{fs:aa (Nat×Nat×J)},uQ fs E->(look (mE ls E fs) t=some τ↔(∃i,ls i=true∧(i,t,τ)∈fs)∨look E t=some τ)
 |[],_=>by simp[mE]
 | x::r,ok=>by
   have h1:=pP.1 ok.N8;have cg:=nX (ls:=ls) (t:=t) (τ:=τ) (fs:=r) ⟨h1.2,λt bD=>ok.out t (gx _ bD)⟩;have aD:look E t=some τ->x.2.1≠t:=λh e=>by rw[<-e,ok.out _ jC]at h;cases h
   have aG:∀i,(i,t,τ)∈r->x.2.1≠t:=λi h e=>h1.1 (by show x.2.1∈_;rw[e];exact ic.2 ⟨_,h,rfl⟩);unfold mE;cases an:ls x.1 with
   | false=>
     simp only[cond_false,cg]
     refine or_congr ⟨λ⟨i,h1,ad⟩=>⟨i,h1,gx _ ad⟩,λ⟨i,h1,ad⟩=>?_⟩ Iff.rfl
     rcases dP.1 ad with e|ad
     ·rw[<-e,h1]at an;cases an
     exact⟨i,h1,ad⟩
   | true=>
     simp only[cond_true,look]
     cases hb:Nat.beq x.2.1 t with
     | true=>
       have e:=fa.1 hb
       simp only[cond_true,gl]
       constructor
       ·intro h;exact .inl ⟨x.1,an,by rw[<-e,<-h];exact jC⟩
       rintro (⟨i,_,ad⟩|h)
       ·rcases dP.1 ad with aS|ad
        ·rw[<-aS]
        exact absurd e (aG i ad)
       exact absurd e (aD h)
     | false=>
       have e:x.2.1≠t:=λe=>by rw[e,nh]at hb;cases hb
       simp only[cond_false,cg]
       refine or_congr ⟨λ⟨i,h1,ad⟩=>⟨i,h1,gx _ ad⟩,λ⟨i,h1,ad⟩=>?_⟩ Iff.rfl
       rcases dP.1 ad with aS|ad
       ·exact absurd (by rw[<-aS]) e
       exact⟨i,h1,ad⟩
def Sq{us ls:Nat->Bool}{E:aa (Nat×J)}{t:Nat}{τ:J}{fs:aa (Nat×Nat×J)}(hu:∀i,us i=true->ls i=true)(ok:uQ fs E)(h:look (mE us E fs) t=some τ):look (mE ls E fs) t=some τ:=
 (nX ok).2 (((nX ok).1 h).imp (λ⟨i,h1,ad⟩=>⟨i,hu i h1,ad⟩) id)
def ai1{ls ls':Nat->Bool}{E:aa (Nat×J)}{i t u:Nat}{τ σ:J}{fs:aa (Nat×Nat×J)}(BC:∀j,ls' j=true->ls j=true∨j=i)(ok:uQ fs E)(hm:(i,t,τ)∈fs)(lR:(fs.map (·.1)).Nodup)(h:look (mE ls' E fs) u=some σ):look ((t,τ)::mE ls E fs) u=some σ:=by
 simp only[look];cases hb:Nat.beq t u with
 | true=>
   have e:=fa.1 hb
   subst e
   rcases (nX ok).1 h with⟨j,_,ad⟩|ad
   ·have:=Mr ok.N8 hm ad I
    cases this;rfl
   rw[ok.out t (ic.2 ⟨_,hm,rfl⟩)]at ad;cases ad
 | false=>
   refine(nX ok).2 (((nX ok).1 h).imp (λ⟨j,h1,ad⟩=>⟨j,?_,ad⟩) id)
   rcases BC j h1 with aB|aB
   ·exact aB
   subst aB
   have:=Mr lR hm ad I
   cases this
   rw[nh]at hb;cases hb
def Dz{t:Nat}{B:aa (Nat×J)}:∀{A:aa (Nat×J)},look (A++B) t=match look A t with |some τ=>some τ|none=>look B t
 |[]=>rfl
 | x::r=>by
   simp only[List.cons_append,look];cases Nat.beq x.1 t with
   |true=>rfl
   |false=>exact Dz
def als{ls:Nat->Bool}{E M:aa (Nat×J)}{t:Nat}{τ:J}{fs:aa (Nat×Nat×J)}(ok:uQ fs (M++E))(h:look (mE ls (M++E) fs) t=some τ):look (M++mE ls E fs) t=some τ:=by
 have out:∀t∈EP fs,look M t=none∧look E t=none:=λt bD=>by
  have h:=ok.out t bD;rw[Dz]at h;cases oW:look M t with
  |some τ=>rw[oW]at h;cases h
  |none=>rw[oW]at h;exact⟨rfl,h⟩
 have ac0:uQ fs E:=⟨ok.N8,λt bD=>(out t bD).2⟩;rw[Dz];rcases (nX ok).1 h with⟨i,h1,ad⟩|h1
 ·rw[(out t (ic.2 ⟨_,ad,rfl⟩)).1];exact(nX ac0).2 (.inl ⟨i,h1,ad⟩)
 rw[Dz]at h1;cases oW:look M t with
 |some σ=>rw[oW]at h1;exact h1
 |none=>rw[oW]at h1;exact(nX ac0).2 (.inr h1)
section
variable{c:cP}{E:aa (Nat×J)}{L:aa aK}{l:aa Oper}{Q:Exit->Act->bo->Prop}
structure B4(l:List Oper)(eA eT:List Nat)(ls:Array Bool):Prop where
 size:ls.size=l.length
 eq:∀i,i∈eA->ls.getD i false=e4 i eT
 xE:∀i o,l[i]? =some o->ls.getD i false=true->∀d∈k7 o,ls.getD d false=true
def zb(l:aa Oper)(ls:Array Bool):Nat:=((List.range l.length).filter λj=> !ls.getD j false).length
def gT(c:cP)(l:aa Oper)(Q:Exit->Act->bo->Prop)(eA eT:aa Nat)(fs:aa (Nat×Nat×J))(E:aa (Nat×J))(L:aa aK):Prop:=
 (uQ fs E∧∀x∈fs,e4 x.1 eA=false)∧∀m ls a W,B4 l eA eT ls->zb l ls<=m->bO c (mE (λi=>ls.getD i false) E fs) L a W->wpAnyIn c.F 9 c.P .any l.toArray Q m ls a W
def zn(c:cP)(l:aa Oper)(E:aa (Nat×J))(L:aa aK)(fs:aa (Nat×Nat×J)):aa Nat->Prop
 |[]=>True
 |i::r=>(match l[i]?,Bj i fs with |some o,some τ=>iq c l.toArray (mE (λj=>e4 j (k7 o)) E fs) L o τ|_,_=>False)∧zn c l E L fs r
def zn.get{fs:aa (Nat×Nat×J)}:∀{nl:aa Nat},zn c l E L fs nl->∀{i:Nat},i∈nl->∃o τ,l[i]? =some o∧Bj i fs=some τ∧iq c l.toArray (mE (λj=>e4 j (k7 o)) E fs) L o τ
 | j::r,h,i,aq=>by
   rcases dP.1 aq with rfl|aq
   ·have h1:=h.1;cases ad:l[i]? with
    |none=>rw[ad]at h1;exact h1.elim
    | some o=>
      cases aB:Bj i fs with
      |none=>rw[ad,aB]at h1;exact h1.elim
      |some τ=>rw[ad,aB]at h1;exact⟨o,τ,rfl,rfl,h1⟩
   exact zn.get h.2 aq
def im(c:cP)(l:aa Oper)(Q:Exit->Act->bo->Prop)(eA eT:aa Nat)(fs:aa (Nat×Nat×J))(E:aa (Nat×J))(L:aa aK)(k:Nat):Prop:=
 uQ fs E->∀m ls o,l[k]? =some o->B4 l eA eT ls->ls.getD k false=false->(∀d∈k7 o,ls.getD d false=true)->zb l (ls.setIfInBounds k true)<=m->
  ae c l.toArray (qk (wpAnyIn c.F 9 c.P .any l.toArray Q m (ls.setIfInBounds k true)) Q) [o] (mE (λi=>ls.getD i false) E fs) L
def zo(c:cP)(l:aa Oper)(Q:Exit->Act->bo->Prop)(eA eT:aa Nat)(fs:aa (Nat×Nat×J))(E:aa (Nat×J))(L:aa aK):aa Nat->Prop
 |[]=>True
 |k::r=>im c l Q eA eT fs E L k∧zo c l Q eA eT fs E L r
def zo.get{eA eT:aa Nat}{fs:aa (Nat×Nat×J)}:∀{el:aa Nat},zo c l Q eA eT fs E L el->∀{k:Nat},k∈el->im c l Q eA eT fs E L k
 | _::_,h,k,hk=>by
   rcases dP.1 hk with rfl|hk
   ·exact h.1
   exact zo.get h.2 hk
def JF(l:aa Oper):aa Nat->aa Nat->Bool
 |_,[]=>true
 |acc,i::r=>(acc.any λk=>match l[k]? with |some o=>e4 i (k7 o)|none=>false)&&JF l (i::acc) r
def PT{ls:Array Bool}(hd:∀i o,l[i]? =some o->ls.getD i false=true->∀d∈k7 o,ls.getD d false=true):∀{pH acc:aa Nat},JF l acc pH=true->(∀k∈acc,ls.getD k false=true)->∀i∈pH,ls.getD i false=true
 | i::r,acc,h,aY,j,aC=>by
   simp only[JF,gm,oo]at h;obtain⟨⟨k,hk,h1⟩,ad⟩:=h;have aq:ls.getD i false=true:=by
    cases a6:l[k]? with
    |none=>rw[a6]at h1;cases h1
    |some o=>rw[a6]at h1;exact hd k o a6 (aY k hk) i (nq.1 h1)
   rcases dP.1 aC with rfl|aC
   ·exact aq
   exact PT hd ad (λk hk=>by rcases dP.1 hk with rfl|hk;exact aq;exact aY k hk) j aC
def ER(l:aa Oper):aa Nat->aa Nat->Bool
 |_,[]=>true
 |acc,i::r=>(match l[i]? with |some o=>acc.any λk=>e4 k (k7 o)|none=>false)&&ER l (i::acc) r
def L7{ls:Array Bool}(hd:∀i o,l[i]? =some o->ls.getD i false=true->∀d∈k7 o,ls.getD d false=true):∀{u2 acc:aa Nat},ER l acc u2=true->(∀k∈acc,ls.getD k false=false)->∀i∈u2,ls.getD i false=false
 | i::r,acc,h,aY,j,aC=>by
   simp only[ER,gm]at h;obtain⟨h1,ad⟩:=h;have aq:ls.getD i false=false:=by
    cases a6:l[i]? with
    |none=>rw[a6]at h1;cases h1
    | some o=>
      rw[a6,oo]at h1
      obtain⟨k,hk,aB⟩:=h1
      cases an:ls.getD i false with
      |false=>rfl
      |true=>have:=hd i o a6 an k (nq.1 aB);rw[aY k hk]at this;cases this
   rcases dP.1 aC with rfl|aC
   ·exact aq
   exact L7 hd ad (λk hk=>by rcases dP.1 hk with rfl|hk;exact aq;exact aY k hk) j aC
def yI(l:aa Oper)(eA eT:aa Nat):aa Nat->aa Nat->aa Nat
 |[],acc=>acc
 |i::r,acc=>yI l eA eT r (match l[i]? with |some o=>(bif (e4 i eA&& !e4 i eT)||(k7 o).any (λd=>e4 d acc)then i::acc else acc)|none=>acc)
def XD{l:aa Oper}{eA eT:aa Nat}{ls:Array Bool}(he:∀i,i∈eA->ls.getD i false=e4 i eT)(hd:∀i o,l[i]? =some o->ls.getD i false=true->∀d∈k7 o,ls.getD d false=true):∀{is acc:aa Nat},(∀k∈acc,ls.getD k false=false)->∀k∈yI l eA eT is acc,ls.getD k false=false
 |[],acc,aY,k,hk=>aY k hk
 | i::r,acc,aY,k,hk=>by
   rw[yI]at hk;revert hk;generalize aqD:(match l[i]? with |some o=>(bif (e4 i eA&& !e4 i eT)||(k7 o).any (λd=>e4 d acc)then i::acc else acc)|none=>acc)=aum;intro hk;refine XD he hd (λj aC=>?_) k hk;rw[<-aqD]at aC;cases a6:l[i]? with
   |none=>rw[a6]at aC;exact aY j aC
   | some o=>
     rw[a6]at aC
     simp only at aC
     cases ag:(e4 i eA&& !e4 i eT)||(k7 o).any (λd=>e4 d acc)with
     |false=>rw[ag]at aC;exact aY j aC
     | true=>
       rw[ag]at aC
       rcases dP.1 aC with rfl|aC
       ·rcases Bool.or_eq_true_iff.1 ag with h|h
        ·simp only[gm,r1]at h
         rw[he j (nq.1 h.1),h.2]
        obtain⟨d,EL,ast⟩:=oo.1 h
        cases mx:ls.getD j false with
        |false=>rfl
        |true=>have:=hd j o a6 mx d EL;rw[aY d (nq.1 ast)]at this;cases this
       exact aY j aC
def NL(l:aa Oper)(u3:Nat)(eA eT pH nl el:aa Nat)(ks:aa (Nat×Nat))(es:aa Nat):Bool:=
 (List.range l.length).all (λi=>match l[i]? with
  |none=>false
  | some o=>(k7 o).all (λd=>Nat.blt d i)&&(bif e4 i eA then e4 i eT||e4 i el||(k7 o).any (λd=>e4 d (yI l eA eT (List.range l.length) []))
    else e4 i pH||(k7 o).any (λd=>e4 d (yI l eA eT (List.range l.length) []))||(e4 i nl&&ks.any λx=>Nat.beq x.1 i&&(match o.dst with |some t=>Nat.beq t x.2|none=>false))))&&
 JF l eT pH&&eA.all (λi=>Nat.blt i l.length)&&eT.all (λi=>e4 i eA)&&ks.all (λx=>Nat.blt x.1 l.length)&&decide (ks.map (·.2)).Nodup&&(ks.map (·.1)).all (λi=> !e4 i eA)&&ks.all (λx=>Nat.blt x.2 u3&& !e4 x.2 es)&&decide (ks.map (·.1)).Nodup
def P0{t:Nat}:∀{E:aa (Nat×J)},e4 t (E.map (·.1))=false->look E t=none
 |[],_=>rfl
 | x::r,h=>by
   simp only[nS,e4]at h;cases hb:Nat.beq x.1 t with
   |true=>rw[hb]at h;cases h
   |false=>rw[hb]at h;simp only[look,hb,cond_false];exact P0 h
def XE{i:Nat}{τ:J}:∀{fs:aa (Nat×Nat×J)},Bj i fs=some τ->∃t,(i,t,τ)∈fs
 | x::r,h=>by
   unfold Bj at h;cases hb:Nat.beq x.1 i with
   | true=>
     rw[hb]at h
     have e:x.2.2=τ:=by simpa using h
     have:=fa.1 hb
     subst this e
     exact⟨x.2.1,jC⟩
   |false=>rw[hb]at h;obtain⟨t,bD⟩:=XE h;exact⟨t,gx _ bD⟩
def bO.Eo{E':aa (Nat×J)}{a:Act}{W:bo}(s:bO c E L a W)(h:∀t τ,look E' t=some τ->look E t=some τ):bO c E' L a W:=s.less λt τ an=>⟨τ,h t τ an,λ_ _ _ h=>h⟩
def gT.core{u3:Nat}{eA eT:aa Nat}{fs:aa (Nat×Nat×J)}{ks:aa (Nat×Nat)}{es:aa Nat}(pH nl el:aa Nat)(ar:zn c l E L fs nl)(aD:zo c l Q eA eT fs E L el)
 (oL:(∀k∈eA,k∈eT)->al c Q .normal (mE (λ_=>true) E fs) L) (hj:fs.map (λx=>(x.1,x.2.1))=ks) (ko:E.map (·.1)=es) (BN:c.n=u3) (eu:NL l u3 eA eT pH nl el ks es=true):gT c l Q eA eT fs E L:=by
 subst hj ko BN
 simp only[NL,gm,lk,e2,sV]at eu
 obtain⟨⟨⟨⟨⟨⟨⟨⟨n1,TK⟩,sx⟩,sD⟩,tF⟩,lR⟩,di⟩,qU⟩,EI⟩:=eu
 have ok:uQ fs E:=⟨by simpa[EP,Function.comp_def]using lR,λt bD=>by
  obtain⟨x,au,rfl⟩:=ic.1 bD;have:=qU (x.1,x.2.1) (ic.2 ⟨x,au,rfl⟩);exact P0 (by simpa using this.2)⟩
 have EI:(fs.map (·.1)).Nodup:=by simpa[Function.comp_def]using EI
 have BI:∀i,i<l.length->∃o,l[i]? =some o∧(∀d∈k7 o,d<i)∧((bif e4 i eA then e4 i eT||e4 i el||(k7 o).any (λd=>e4 d (yI l eA eT (List.range l.length) []))
  else e4 i pH||(k7 o).any (λd=>e4 d (yI l eA eT (List.range l.length) []))||(e4 i nl&&(fs.map λx=>(x.1,x.2.1)).any λx=>Nat.beq x.1 i&&(match o.dst with |some t=>Nat.beq t x.2|none=>false)))=true):=λi aq=>by
  have h:=n1 i (lF.2 aq)
  cases a6:l[i]? with
  |none=>rw[a6]at h;cases h
  | some o=>
    rw[a6]at h
    simp only[gm,lk]at h
    exact⟨o,rfl,λd hd=>by simpa using h.1 d hd,h.2⟩
 have fJ:∀(ls:Array Bool),B4 l eA eT ls->∀(o:Oper),(∀d∈k7 o,ls.getD d false=true)->(k7 o).any (λd=>e4 d (yI l eA eT (List.range l.length) []))=false:=λls inv o hd=>by
  rw[wc];intro d EL h;have:=XD inv.eq inv.xE (by simp) d (nq.1 h);rw[hd d EL]at this;cases this
 have b9:∀(ls:Array Bool),B4 l eA eT ls->∀i,ls.getD i false=true->i<l.length:=λls inv i h=>by
  rw[<-inv.size];rcases sW i ls.size with cU|cU
  ·exact cU
  simp[UU cU]at h
 have sg:∀(ls:Array Bool) (a:Act) (W:bo),B4 l eA eT ls->(∀i,i<l.length->ls.getD i false=true)->bO c (mE (λi=>ls.getD i false) E fs) L a W->Region.ready .any l.toArray ls=[]∧Q .normal a W:=λls a W inv h st=>by
  refine⟨?_,oL (λk hk=>?_) a W (st.Eo λt τ an=>(nX ok).2 (((nX ok).1 an).imp (λ⟨i,_,ad⟩=>⟨i,?_,ad⟩) id))⟩
  ·rw[List.eq_nil_iff_forall_not_mem];intro j aC;obtain⟨h1,o,a6,_⟩:=x1.1 aC;have JC:j<l.length:=by simpa using (sP.1 a6).1
   have:=getD_both h1;rw[h j JC]at this;cases this
  ·have:=inv.eq k hk;rw[h k (by simpa using sx k hk)]at this;exact nq.1 this.symm
  have:=tF (i,t) (ic.2 ⟨_,ad,rfl⟩);exact h i (by simpa using this)
 have Iu:∀(ls:Array Bool),B4 l eA eT ls->(∀i,i<l.length->ls.getD i false=true)∨∃i,i<l.length∧ls.getD i false=false:=λls inv=>by
  by_cases h:∃i,i<l.length∧ls.getD i false=false
  ·exact .inr h
  refine .inl λi aq=>?_;cases an:ls.getD i false with
  |true=>rfl
  |false=>exact absurd ⟨i,aq,an⟩ h
 refine⟨⟨ok,λx au=>?_⟩,λm=>?_⟩
 ·have:=di x.1 (ic.2 ⟨x,au,rfl⟩)
  simpa using this
 induction m with
 | zero=>
   intro ls a W inv hm st
   rcases Iu ls inv with h|⟨i,aq,h⟩
   ·exact sg ls a W inv h st
   have:i∈(List.range l.length).filter λj=> !ls.getD j false:=tV.2 ⟨lF.2 aq,by rw[h];rfl⟩
   unfold zb at hm
   rw[Fe.1 (Nat.le_zero.1 hm)]at this;cases this
 | succ m cg=>
   intro ls a W inv hm st
   refine⟨λbC=>?_,λi aq=>?_⟩
   ·rcases Iu ls inv with h|⟨i,aq,h⟩
    ·exact(sg ls a W inv h st).2
    exfalso
    have key:∀d i,i<=d->i<l.length->ls.getD i false=true:=by
     intro d;induction d with
     | zero=>
       intro i y8 aq
       cases an:ls.getD i false with
       |true=>rfl
       | false=>
         obtain⟨o,a6,hd,_⟩:=BI i aq
         have:i∈Region.ready .any l.toArray ls:=x1.2 ⟨getD_in (by rw[inv.size];exact aq) an,o,by simpa using a6,λe he hb=>by
          have:=hd e.on (HZ.2 ⟨e,by simpa using he,hb,rfl⟩);omega⟩
         rw[bC]at this;cases this
     | succ d TE=>
       intro i y8 aq
       cases an:ls.getD i false with
       |true=>rfl
       | false=>
         obtain⟨o,a6,hd,_⟩:=BI i aq
         have:i∈Region.ready .any l.toArray ls:=x1.2 ⟨getD_in (by rw[inv.size];exact aq) an,o,by simpa using a6,λe he hb=>by
          have h1:=hd e.on (HZ.2 ⟨e,by simpa using he,hb,rfl⟩);exact TE e.on (by omega) (by omega)⟩
         rw[bC]at this;cases this
    rw[key i i (iS _) aq]at h;cases h
   obtain⟨mv,o,a6,QH⟩:=x1.1 aq
   have mv:=getD_both mv
   have qQ:l[i]? =some o:=by simpa using a6
   have iG:i<l.length:=(ir.1 qQ).1
   have rL:∀d∈k7 o,ls.getD d false=true:=λd hd=>by
    obtain⟨e,h1,ad,rfl⟩:=HZ.1 hd;exact QH e (by simpa using h1) ad
   have iT:∀j,(ls.setIfInBounds i true).getD j false=true->ls.getD j false=true∨j=i:=λj aC=>by
    by_cases e:i=j
    ·exact .inr e.symm
    rw[getD_set_ne false e]at aC;exact .inl aC
   have vH:zb l (ls.setIfInBounds i true)<=m:=by
    have:zb l (ls.setIfInBounds i true)<zb l ls:=by
     refine Y9 (λj=> !ls.getD j false) (λj=> !(ls.setIfInBounds i true).getD j false) i (by simp only[mv];rfl) (by simp[inv.size,iG]) (λj aC=>?_) l.length iG;cases mx:ls.getD j false with
     |false=>rfl
     |true=>simp only[getD_set_true mx]at aC;cases aC
    omega
   obtain⟨cE,fl,_,D7⟩:=BI i iG
   rw[qQ]at fl;cases fl
   cases eo:e4 i eA with
   | true=>
     rw[eo]at D7
     simp only[cond_true,qo]at D7
     rcases D7 with(h1|h1)|h1
     ·have:=inv.eq i (nq.1 eo)
      rw[mv,h1]at this;cases this
     ·exact PF a6 (zo.get aD (nq.1 h1) ok m ls o qQ inv mv rL vH a W st)
     rw[fJ ls inv o rL]at h1;cases h1
   | false=>
     rw[eo]at D7
     simp only[cond_false,qo]at D7
     rcases D7 with(h1|h1)|h1
     ·have:=PT inv.xE TK (λk hk=>by rw[inv.eq k (nq.1 (sD k hk))];exact nq.2 hk) i (nq.1 h1)
      rw[mv]at this;cases this
     ·rw[fJ ls inv o rL]at h1;cases h1
     simp only[gm,oo]at h1
     obtain⟨h1,⟨x,au,iF,oc⟩⟩:=h1
     obtain⟨y,aR,rfl⟩:=ic.1 au
     obtain⟨ho,τ,rH,aW,hH⟩:=zn.get ar (nq.1 h1)
     rw[qQ]at rH;cases rH
     obtain⟨t,bD⟩:=XE aW
     have asu:=fa.1 iF
     have:=Mr EI aR bD asu
     subst this
     have ab0:o.dst=some t:=by
      cases hd:o.dst with
      |none=>rw[hd]at oc;cases oc
      |some z=>rw[hd]at oc;rw[fa.1 oc]
     have aM:Nat.blt t c.n=true:=by
      have:=qU (i,t) au;simp only[gm]at this;exact this.1
     have st2:bO c (mE (λj=>e4 j (k7 o)) E fs) L a W:=st.Eo λu σ h=>Sq (λj aC=>rL j (nq.1 aC)) ok h
     have inv2:B4 l eA eT (ls.setIfInBounds i true):=⟨by rw[On];exact inv.size,λk hk=>(by
      rw[getD_set_ne false (λe=>by subst e;rw[nq.2 hk]at eo;cases eo)];exact inv.eq k hk),λk asv iW hk d hd=>(by
      rcases iT k hk with h|rfl
      ·exact getD_set_true (inv.xE k asv iW h d hd)
      rw[qQ]at iW;cases iW;exact getD_set_true (rL d hd))⟩
     have fin:∀v W',Fr [] W W'->τ.holds (ks L++c.b8) W' v->wpAnyIn c.F 9 c.P .any l.toArray Q m (ls.setIfInBounds i true) (a.put o.dst v) W':=λv W' f bc=>by
      refine cg _ _ _ inv2 vH ?_;rw[ab0];exact((st.world f).put (by simpa using aM) bc).Eo λu σ h=>ai1 iT ok bD EI h
     have ac1:=hH a W st2
     unfold wpOpIn
     simp only[a6]
     split
     ·rename_i hw
      exact h3.wpIn (ac1.1 hw) λv W' ⟨f,bc⟩=>fin v W' f bc
     rename_i hw
     exact⟨λ_ _=>trivial,fin undef W (.refl _ _) (ac1.2 (by simpa using hw))⟩
def im.of{eA eT:aa Nat}{fs:aa (Nat×Nat×J)}{k:Nat}{γ:Type}(u2:γ->aa (Nat×J))(adG:γ->aa (Nat×Nat×J))(L':γ->aa aK){ks:aa Nat}(S:∀g,gT c l Q eA (k::eT) (adG g++fs) (u2 g++E) (L' g))
 (h:∀o,l[k]? =some o->∀(dO:Exit->Act->bo->Prop) (jh:aa (Nat×J)),(∀{t τ},look (mE (λj=>e4 j (k7 o)) E fs) t=some τ->look jh t=some τ)->(∀g,al c dO .normal (u2 g++jh) (L' g))->ae c l.toArray dO [o] jh L)
 (hk:e4 k eA=true:=by rfl) (hj:∀g,(adG g).map (·.1)=ks:=by exact λ_=>rfl) (eu:ER l [k] ks=true:=by kernel_rfl):im c l Q eA eT fs E L k:=λok m ls o a6 inv mv rL vH=>by
 refine h o a6 _ _ (λh=>Sq (λj aC=>rL j (nq.1 aC)) ok h) λg a W st=>?_
 obtain⟨⟨JG,TL⟩,cK⟩:=S g
 have tF:k<ls.size:=by rw[inv.size];exact(ir.1 a6).1
 have iT:∀j,(ls.setIfInBounds k true).getD j false=true->ls.getD j false=true∨j=k:=λj aC=>by
  by_cases e:k=j
  ·exact .inr e.symm
  rw[getD_set_ne false e]at aC;exact .inl aC
 refine cK m _ a W ⟨by rw[On];exact inv.size,λj aC=>?_,λj vZ ob aC d hd=>?_⟩ vH (st.Eo λt τ an=>als JG.app ((nX JG.app).2 (((nX JG).1 an).imp (λ⟨i,h1,ad⟩=>?_) id)))
 ·by_cases e:k=j
  ·subst e
   simp[tF,e4]
  rw[getD_set_ne false e,inv.eq j aC]
  show _=bif Nat.beq k j then true else e4 j eT
  cases hb:Nat.beq k j with
  |false=>rfl
  |true=>exact absurd (fa.1 hb) e
 ·rcases iT j aC with h|rfl
  ·exact getD_set_true (inv.xE j vZ ob h d hd)
  rw[a6]at ob;cases ob;exact getD_set_true (rL d hd)
 have mX:i≠k:=λe=>by have:=TL _ ad;rw[e,hk]at this;cases this
 have y9:=(iT i h1).resolve_right mX
 rcases cF.1 ad with aB|aB
 ·have:=L7 inv.xE eu (λj aC=>by rw[hT.1 aC];exact mv) i (by rw[<-hj g];exact ic.2 ⟨_,aB,rfl⟩)
  rw[y9]at this;cases this
 exact⟨i,y9,aB⟩
inductive u4(fs:List (Nat×Nat×J))(ks:List Nat):List (Nat×Nat×J)->Prop
 |nil:u4 fs ks []
 |new {i t:Nat} {τ:J} {r:List (Nat×Nat×J)}:e4 i ks=true->u4 fs ks r->u4 fs ks ((i,t,τ)::r)
 |fe {i t:Nat} {τ:J} {r:List (Nat×Nat×J)}:Nc i fs=some (t,τ)->u4 fs ks r->u4 fs ks ((i,t,τ)::r)
def XF{i t:Nat}{τ:J}:∀{fs:aa (Nat×Nat×J)},Nc i fs=some (t,τ)->(i,t,τ)∈fs
 | x::r,h=>by
   unfold Nc at h;cases hb:Nat.beq x.1 i with
   | true=>
     rw[hb]at h
     have e:x.2=(t,τ):=by simpa using h
     have:=fa.1 hb
     subst this
     rw[<-e];exact jC
   |false=>rw[hb]at h;exact gx _ (XF h)
def u4.mem{fs:aa (Nat×Nat×J)}{ks:aa Nat}{i t:Nat}{τ:J}:∀{gs:aa (Nat×Nat×J)},u4 fs ks gs->(i,t,τ)∈gs->i∈ks∨(i,t,τ)∈fs
 | _,.new h1 ad,hm=>by
   rcases dP.1 hm with e|hm
   ·cases e;exact .inl (nq.1 h1)
   exact ad.mem hm
 | _,.fe h1 ad,hm=>by
   rcases dP.1 hm with e|hm
   ·cases e;exact .inr (XF h1)
   exact ad.mem hm
def im.to{eA eT TM:aa Nat}{fs:aa (Nat×Nat×J)}{k:Nat}{γ:Type}{TN:γ->aa (Nat×Nat×J)}{jh:γ->aa (Nat×J)}{L2:γ->aa aK}(ks:aa Nat)(u2:γ->aa (Nat×J))(S:∀g,gT c l Q eA TM (TN g) (jh g) (L2 g))
 (h:∀o,l[k]? =some o->∀(dO:Exit->Act->bo->Prop) (Ux:aa (Nat×J)),(∀{t τ},look (mE (λj=>e4 j (k7 o)) E fs) t=some τ->look Ux t=some τ)->(∀g,al c dO .normal (u2 g++Ux) (L2 g))->ae c l.toArray dO [o] Ux L)
 (hk:e4 k eA=true:=by rfl) (sD:(eA.all λi=>e4 i TM==e4 i (k::eT))=true:=by rfl) (ku:∀g,u4 fs ks (TN g):=by intro _;repeat (first|exact u4.nil|refine u4.fe I ?_|refine u4.new I ?_)) (aD:∀g,fO (u2 g++E) (jh g):=by intro _;repeat (first|exact fO.nil|refine fO.same I ?_))
 (hd:∀g,((TN g).all λx=> !e4 x.2.1 ((u2 g).map (·.1)))=true:=by exact λ_=>rfl) (eu:ER l [k] ks=true:=by kernel_rfl):im c l Q eA eT fs E L k:=λok m ls o a6 inv mv rL vH=>by
 refine h o a6 _ _ (λh=>Sq (λj aC=>rL j (nq.1 aC)) ok h) λg a W st=>?_
 obtain⟨⟨JG,TL⟩,cK⟩:=S g
 have tF:k<ls.size:=by rw[inv.size];exact(ir.1 a6).1
 have iT:∀j,(ls.setIfInBounds k true).getD j false=true->ls.getD j false=true∨j=k:=λj aC=>by
  by_cases e:k=j
  ·exact .inr e.symm
  rw[getD_set_ne false e]at aC;exact .inl aC
 refine cK m _ a W ⟨by rw[On];exact inv.size,λj aC=>?_,λj vZ ob aC d hd=>?_⟩ vH (st.less λt τ an=>?_)
 ·have ad:e4 j TM=e4 j (k::eT):=by simpa using List.all_eq_true.1 sD j aC
  rw[ad]
  by_cases e:k=j
  ·subst e
   simp[tF,e4]
  rw[getD_set_ne false e,inv.eq j aC]
  show _=bif Nat.beq k j then true else e4 j eT
  cases hb:Nat.beq k j with
  |false=>rfl
  |true=>exact absurd (fa.1 hb) e
 ·rcases iT j aC with h|rfl
  ·exact getD_set_true (inv.xE j vZ ob h d hd)
  rw[a6]at ob;cases ob;exact getD_set_true (rL d hd)
 rcases (nX JG).1 an with⟨i,h1,ad⟩|ad
 ·have mX:i≠k:=λe=>by have:=TL _ ad;rw[e,hk]at this;cases this
  have y9:=(iT i h1).resolve_right mX
  have NM:look (u2 g) t=none:=P0 (by simpa using List.all_eq_true.1 (hd g) _ ad)
  refine⟨τ,?_,λ_ _ _ h=>h⟩
  rw[Dz,NM]
  rcases (ku g).mem ad with aB|aB
  ·have:=L7 inv.xE eu (λj aC=>by rw[hT.1 aC];exact mv) i aB
   rw[y9]at this;cases this
  exact(nX ok).2 (.inl ⟨i,y9,aB⟩)
 obtain⟨oO,aB,aV⟩:=(aD g).look t τ ad
 refine⟨oO,?_,aV⟩
 rw[Dz]at aB⊢
 cases aM:look (u2 g) t with
 |some σ=>rw[aM]at aB;exact aB
 |none=>rw[aM]at aB;exact(nX ok).2 (.inr aB)
def gT.cut{γ:Type}{eA eT pe':aa Nat}{fs:aa (Nat×Nat×J)}(ac2:γ->aa (Nat×Nat×J))(E':γ->aa (Nat×J))(L':γ->aa aK)(h1:∀g,gT c l Q eA pe' (ac2 g) (E' g) (L' g))
 (ad:(∀g,gT c l Q eA pe' (ac2 g) (E' g) (L' g))->gT c l Q eA eT fs E L):gT c l Q eA eT fs E L:=ad h1
def gT.mid{u3:Nat}{eA eT:aa Nat}{fs:aa (Nat×Nat×J)}{ks:aa (Nat×Nat)}{es:aa Nat}(pH nl el:aa Nat)(ar:zn c l E L fs nl)(aD:zo c l Q eA eT fs E L el)(aM:eA.all (λk=>e4 k eT)=false:=by rfl)
 (hj:fs.map (λx=>(x.1,x.2.1))=ks:=by rfl) (ko:E.map (·.1)=es:=by rfl) (BN:c.n=u3:=by rfl) (eu:NL l u3 eA eT pH nl el ks es=true:=by kernel_rfl):gT c l Q eA eT fs E L:=
 .core pH nl el ar aD (λh=>absurd (show eA.all (λk=>e4 k eT)=true from lk.2 λk hk=>nq.2 (h k hk)) (by rw[aM];simp)) hj ko BN eu
def ay.xi{kK:Nat}(hm:c.P.follows .mixedOrders=true)(eA:aa Nat)(fs:aa (Nat×Nat×J))(h:gT c l Q eA [] fs E L):ay c Q (.region kK l.toArray true) E L:=λa W s=>by
 refine wpIn_region_any hm ?_;have bV:∀i,(Array.replicate l.toArray.size false).getD i false=false:=λi=>by
  rcases sW i l.length with h|h <;> simp[h]
 have:=h.2 l.toArray.size (Array.replicate l.toArray.size false) a W.drew ⟨by simp,λi _=>bV i,λi o _ h=>by rw[bV]at h;cases h⟩ ?_ ((s.world (Fr.drew W)).Eo λt τ an=>?_)
 ·simpa using this
 ·unfold zb;exact mg (vc _ _) (by simp)
 rcases (nX h.1.1).1 an with⟨i,h1,_⟩|h1
 ·rw[bV]at h1;cases h1
 exact h1
def ahV{F:Fence}{n:Nat}{P:Program}{o:Oper}{a:Act}{next:Act->bo->Prop}{K:Act->bo->Prop}{Q:Exit->Act->bo->Prop}:∀{r:Result Next},o.uponIn F n P a next Q r->o.uponIn F n P a next (qk K Q) r:=λ{r} h=>by
 cases r with
 | ok x w=>
   cases x <;> simp only[Oper.uponIn]at h⊢ <;> first
    |exact h
    |exact⟨h.1,CallsIn.mono h.2 (λe vP he=>by cases e <;> exact he)⟩
    |exact⟨h.1,RoundIn.mono h.2 (λe vP he=>by cases e <;> exact he)⟩
 |halt x w=>cases x <;> simp only[Oper.uponIn]at h⊢ <;> exact h
def alu{F:Fence}{n:Nat}{P:Program}{ops:Array Oper}{Q:Exit->Act->bo->Prop}{o:Oper}{rest:aa Oper}{a:Act}{w:bo}{K:Act->bo->Prop}(tM:∀a w,wpListIn F n P ops Q rest a w->K a w)(h:wpListIn F n P ops Q (o::rest) a w):wpListIn F n P ops (qk K Q) [o] a w:=by
 unfold wpListIn at h⊢;split
 ·rename_i hw;rw[bh hw]at h;have h:=Oper.wpIn_mono tM h;exact⟨h.1,ahV h.2⟩
 rename_i hw;rw[bf hw]at h;exact⟨h.1,tM _ _ h.2⟩
def Wl{F:Fence}{n:Nat}{P:Program}{md:Region.Mode}{ops:Array Oper}{uW:Exit->Act->bo->Prop}:∀(l:aa Oper) (k m:Nat) (ct:Array Bool) (a:Act) (w:bo),(∀j,l[j]? =ops[k+j]?)->
 Region.seqB md ops l.length k ct=true->l.length<=m->wpListIn F n P ops uW l a w->wpAnyIn F n P md ops uW m ct a w
 |[],_,0,_,_,_,_,eu,_,h=>⟨by simpa[Region.seqB]using eu,h⟩
 |[],_,m+1,_,_,_,_,eu,_,h=>⟨λ_=>h,λi aq=>by rw[show Region.ready md ops _=[] by simpa[Region.seqB]using eu]at aq;cases aq⟩
 | o::l,k,m+1,ct,a,w,an,eu,hm,h=>by
   have bC:ops[k]? =some o:=by simpa using (an 0).symm
   simp only[List.length_cons,Region.seqB,gm,e2]at eu;refine⟨λh1=>(by rw[eu.1]at h1;cases h1),λi aq=>?_⟩;rw[eu.1]at aq;have mX:i=k:=by simpa using aq
   subst mX;have hw:wpOpIn F n P ops uW i (wpListIn F n P ops uW l) a w:=by unfold wpOpIn;simp only[bC];exact h
   exact wpOpIn_mono (λiI rQ cU=>Wl l (i+1) m _ iI rQ (λj=>by have:=an (j+1);simpa[K5,Pr 1 j]using this) eu.2 (by simpa using hm) cU) hw
def zc(k n:Nat):Array Bool:=((List.range n).map λi=>Nat.blt i k).toArray
def im.tail{eA eT:aa Nat}{fs:aa (Nat×Nat×J)}{k:Nat}(pH:aa Nat)(h:ae c l.toArray Q (l.drop k) (mE (λ_=>true) E fs) L)(asw:(fs.all λx=>Nat.blt x.1 k)=true:=by rfl)
 (eu:(JF l [k] pH&&(List.range k).all (λi=>e4 i pH)&&ER l [k] ((List.range (l.length-(k+1))).map (· +(k+1))))=true:=by kernel_rfl) (hs:Region.seqB .any l.toArray (l.length-(k+1)) (k+1) (zc (k+1) l.length)=true:=by kernel_rfl):im c l Q eA eT fs E L k:=λok m ls o a6 inv mv rL vH=>by
 simp only[gm,lk]at eu
 obtain⟨⟨TK,n1⟩,asx⟩:=eu
 have tF:k<l.length:=(ir.1 a6).1
 have asy:∀i o',l[i]? =some o'->(ls.setIfInBounds k true).getD i false=true->∀d∈k7 o',(ls.setIfInBounds k true).getD d false=true:=λi o' aq aC d hd=>by
  by_cases e:k=i
  ·subst e;rw[a6]at aq;cases aq;exact getD_set_true (rL d hd)
  rw[getD_set_ne false e]at aC;exact getD_set_true (inv.xE i o' aq aC d hd)
 have Ep:∀i,i<k->(ls.setIfInBounds k true).getD i false=true:=λi aq=>PT asy TK (λj aC=>by rw[hT.1 aC];simp[inv.size,tF]) i (nq.1 (n1 i (lF.2 aq)))
 have iT:ls.setIfInBounds k true=zc (k+1) l.length:=by
  apply Array.ext
  ·simp[zc,inv.size]
  intro i h1 ad;have iG:i<l.length:=by simpa[zc]using ad
  have bu:(ls.setIfInBounds k true)[i]=(ls.setIfInBounds k true).getD i false:=by
   rw[UJ,Kl h1];rfl
  rw[bu];simp only[zc,List.getElem_toArray,pO,ON];rcases OS i k with b9|rfl|TO
  ·rw[Ep i b9];exact(U6 (by omega:i+1<=k+1)).symm
  ·have:Nat.blt i (i+1)=true:=U6 (iS _);rw[this];simp[inv.size,iG]
  rw[getD_set_ne false (Ps TO),L7 inv.xE asx (λj aC=>by rw[hT.1 aC];exact mv) i (ic.2 ⟨i-(k+1),lF.2 (by omega),by omega⟩)];cases hb:Nat.blt i (k+1)with
  |false=>rfl
  |true=>have:=pM hb;omega
 have anP:(l.drop (k+1)).length<=m:=by
  refine mg ?_ vH;rw[iT];unfold zb;have aG:List.range l.length=List.range (k+1)++(List.range (l.length-(k+1))).map ((k+1)+ ·):=by
   rw[<-List.range_add];congr 1;omega
  have aW:((List.range (l.length-(k+1))).map ((k+1)+ ·)).filter (λj=> !(zc (k+1) l.length).getD j false)=(List.range (l.length-(k+1))).map ((k+1)+ ·):=by
   refine sQ.2 λx au=>?_;obtain⟨y,aR,rfl⟩:=ic.1 au;have aR:=lF.1 aR;rw[UJ,Kl (by simp[zc];omega)];simp only[zc,List.getElem_toArray,pO,ON,Option.getD_some];cases hb:Nat.blt (k+1+y) (k+1)with
   |false=>rfl
   |true=>have:=pM hb;omega
  rw[aG,mG,gH,aW];simp
 have hd:l.drop k=o::l.drop (k+1):=by rw[q4 tF];congr 1;exact(ir.1 a6).2
 rw[hd]at h
 intro a W st
 refine alu (λiI W' cU=>?_) (show c.sw l.toArray Q (o::l.drop (k+1)) a W from h a W (st.Eo λt τ an=>(nX ok).2 (((nX ok).1 an).imp (λ⟨i,_,ad⟩=>⟨i,?_,ad⟩) id)))
 ·rw[iT]
  exact Wl (l.drop (k+1)) (k+1) m _ iI W' (λj=>by simp) (by simpa using hs) anP cU
 have mX:i<k:=by have:=lk.1 asw _ ad;exact pM this
 have:=Ep i mX
 rw[getD_set_ne false (by omega)]at this
 exact this
end
class cC (P:Program) (s f:Nat) {β γ:outParam Type} [B5:ak β] [Ka:ak γ] (l:outParam (aP β γ)):Prop where
 fd:y0 P s f l.off
class jQ (P:Program) (t:bJ) (e:outParam bJ) (α:outParam Type) [Kb:ak α]:Prop where
 hu:P.underlying t=some (.slice e)
 e1:bU P e α
class B6 (P:Program) (t:bJ) (α:Type) [ak α] [DecidableEq α] (k:outParam Nat):Prop where
 vX:mY P t α k
 adH:P.eqGuardType P.depth t=false
 aM:Nat.ble k 10000=true
class o1 (P:Program) (t:bJ) (d:outParam TypeDesc):Prop where
 hu:P.underlying t=some d
class au9 (P:Program) (s f:Nat) (t:outParam Nat) {β γ:outParam Type} [B5:ak β] [Ka:ak γ] (l:outParam (aP β γ)):Prop where
 adw:N6 P s f t l.off
class lT (P:Program) (f:FuncId) (α ρ:outParam Type) (L:outParam (α->aE ρ)) (τ:outParam (α->J)) (mf:outParam (ρ->J)):Prop where
 cf:bH P f
 m:∀x r,L x=some r->dV P f [τ x] (mf r)
class fg (P:Program) (f:FuncId) (α β ρ:outParam Type) (L:outParam (α->β->aE ρ)) (τ:outParam (α->J)) (σ:outParam (β->J)) (mf:outParam (ρ->J)):Prop where
 cf:bH P f
 m:∀x y r,L x y=some r->dV P f [τ x,σ y] (mf r)
class uV (P:Program) (f:FuncId) (α β γ ρ:outParam Type) (L:outParam (α->β->γ->aE ρ)) (τ:outParam (α->J)) (σ:outParam (β->J)) (B7:outParam (γ->J)) (mf:outParam (ρ->J)):Prop where
 cf:bH P f
 m:∀x y z r,L x y z=some r->dV P f [τ x,σ y,B7 z] (mf r)
theorem lT.i{P:Program}{f:FuncId}{α ρ:Type}{L:α->aE ρ}{τ:α->J}{mf:ρ->J}{fn:Func}{code:Code}{n:Nat}(aW:P.funcs[f]? =some fn)(hb:fn.body=some code)(aM:fn.ntmps=n)(an:Nat.ble 1 n=true)
 (h:∀ x r,L x=some r→ ∀ W A,ay ⟨P,n,W,[],A,none,[]⟩ (bodyPost P fn (vG ⟨P,n,W,[],A,none,[]⟩ (mf r))) code (params 0 [τ x]) []) (hm:(fn.name== "runtime.NumGoroutine")=false:=by kernel_rfl):lT P f α ρ L τ mf:=
 ⟨⟨fn,aW,by rw[hb];rfl,hm⟩,λx r e=>.of aW hb aM an (h x r e)⟩
theorem fg.i{P:Program}{f:FuncId}{α β ρ:Type}{L:α->β->aE ρ}{τ:α->J}{σ:β->J}{mf:ρ->J}{fn:Func}{code:Code}{n:Nat}(aW:P.funcs[f]? =some fn)(hb:fn.body=some code)(aM:fn.ntmps=n)(an:Nat.ble 2 n=true)
 (h:∀ x y r,L x y=some r→ ∀ W A,ay ⟨P,n,W,[],A,none,[]⟩ (bodyPost P fn (vG ⟨P,n,W,[],A,none,[]⟩ (mf r))) code (params 0 [τ x,σ y]) []) (hm:(fn.name== "runtime.NumGoroutine")=false:=by kernel_rfl):fg P f α β ρ L τ σ mf:=
 ⟨⟨fn,aW,by rw[hb];rfl,hm⟩,λx y r e=>.of aW hb aM an (h x y r e)⟩
theorem uV.i{P:Program}{f:FuncId}{α β γ ρ:Type}{L:α->β->γ->aE ρ}{τ:α->J}{σ:β->J}{B7:γ->J}{mf:ρ->J}{fn:Func}{code:Code}{n:Nat}(aW:P.funcs[f]? =some fn)(hb:fn.body=some code)(aM:fn.ntmps=n)(an:Nat.ble 3 n=true)
 (h:∀ x y z r,L x y z=some r→ ∀ W A,ay ⟨P,n,W,[],A,none,[]⟩ (bodyPost P fn (vG ⟨P,n,W,[],A,none,[]⟩ (mf r))) code (params 0 [τ x,σ y,B7 z]) []) (hm:(fn.name== "runtime.NumGoroutine")=false:=by kernel_rfl):uV P f α β γ ρ L τ σ B7 mf:=
 ⟨⟨fn,aW,by rw[hb];rfl,hm⟩,λx y z r e=>.of aW hb aM an (h x y z r e)⟩
section
variable(P:Program)(f:FuncId)(τs:aa J){bM:Type}[ew bM](hp:aL bM)
abbrev hl(ρ:J)(cZ:aL bM):Prop:=bL P f τs ([]++a1 hp) (δ:=Unit) (λ_=>ρ) (λ_=>[]++a1 cZ)
abbrev lU{α:Type}[ak α](Q:α×aL bM->Prop):Prop:=bL P f τs ([]++a1 hp) (δ:= {r:α×aL bM // Q r}×Unit) (λd=>J.of d.1.1.1) (λd=>[]++a1 d.1.1.2)
abbrev Bu(Q:aL bM->Prop):Prop:=bL P f τs ([]++a1 hp) (δ:= {r:aL bM // Q r}×Unit) (λ_=>J.bW []) (λd=>[]++a1 d.1.1)
abbrev l7(p:Nat){α:Type}[ak α](x:α)(ρ:J)(y:α):Prop:=bL P f τs [aI p x] (δ:=Unit) (λ_=>ρ) (λ_=>[aI p y])
end
def Nt{q:Prop}{u:br}(hb:q):∀A W v,(J.cond q (.eq u)).holds A W v->v=u:=λ_ _ _ h=>h.1 hb
abbrev J.nd(p:Nat){β γ:Type}[ak β][ak γ](l:aP β γ):J:=.eq (.pointer (some ⟨p,l.off,none⟩))
structure B8(p:Prop):Prop where
 k:p
def dK{p q:Prop}(a:p)(b:q):p∧q:=⟨a,b⟩
def hR:True:=trivial
inductive At:List aK->Nat->aK->Prop
 |z {e r}:At (e::r) 0 e
 |s {e f r j}:At r j e->At (f::r) (j+1) e
def At.get:∀{L j e},At L j e->L[j]? =some e
 |_,_,_,.z=>rfl
 |_,_,_,.s h=>by simpa using h.get
def At.g{L:aa aK}{j:Nat}{e:aK}(h:At L j e:=by repeat (first|exact At.z|apply At.s)):L[j]? =some e:=h.get
inductive u5:List aK->aK->aK->List aK->Prop
 |z {e f r}:u5 (e::r) e f (f::r)
 |s {e f g r s}:u5 r e f s->u5 (g::r) e f (g::s)
def u5.get:∀{L e f M},u5 L e f M->∃j,L[j]? =some e∧L.set j f=M
 |_,_,_,_,.z=>⟨0,rfl,rfl⟩
 |_,_,_,_,.s h=>let⟨j,h1,ad⟩:=h.get; ⟨j+1,by simpa using h1,by simp[ad]⟩
inductive u6{bM:Type}[ew bM]:List aK->aL bM->Prop
 |z {hp}:u6 (a1 hp) hp
 |s {e r hp}:u6 r hp->u6 (e::r) hp
def u6.get{bM:Type}[ew bM]{L:aa aK}{hp:aL bM}(h:u6 L hp):∃n,L.drop n=a1 hp:=by
 induction h with
 |z=>exact⟨0,rfl⟩
 |s _ cg=>exact⟨cg.choose+1,cg.choose_spec⟩
class zp (β:Type) [ak β] {bM:outParam Type} [ew bM] (rd:outParam (aL bM->Nat->aE β)):Prop where
 ok:∀{hp p x},rd hp p=some x->∃k,pat hp p=some k∧ew.gU p k=[⟨some p,.var x⟩]
class Uy (P:Program):Prop where
 m:P.follows .mixedOrders=true
section
variable{c:cP}{E:aa (Nat×J)}{L L':aa aK}{ops:Array Oper}{Q:Exit->Act->bo->Prop}{rest:aa Oper}{o:Oper}{d:aE Tmp}{bb:Nat}
variable{ty:bJ}{pos:String}{af:Array Edge}{g:aE (Nat×Bool)}{x y:cw}{t t2:bJ}
def fact{p:Prop}(h:p:=by first|with_reducible assumption|(apply fi (hb:=hb);with_reducible assumption)):p:=h
def ahW(k:Nat)(h:Nat.blt k 18446744073709551616=true:=by rfl):aU c E L (.const (.int .u64 (Int.ofNat k))) (.of (BitVec.ofNat 64 k)):=ua _ (by simp[Nat.blt]at h⊢;omega)
def fK{σ:J}(h:aU c E L x σ:=by first|exact ck I hb|exact ck I hb.1|exact ah I|exact de _|exact iL _|exact iN _|exact ahW _|exact ck (aD _ _ I) hb|exact ck (aD _ _ I) hb.1|exact ah (aD _ _ I)):aU c E L x σ:=h
def u1{σ τ:J}(h:aU c E L x σ->bj c E L o τ)(au:aU c E L x σ:=by exact fK):bj c E L o τ:=h au
def B9{σ pz τ:J}(h:aU c E L x σ->aU c E L y pz->bj c E L o τ)(au:aU c E L x σ:=by exact fK)(aR:aU c E L y pz:=by exact fK):bj c E L o τ:=h au aR
def anQ{i:Nat}{τs:aa J}{τ:J}(au:aU c E L x (.bW τs):=by exact fK)(aq:τs[i]? =some τ:=by rfl):bj c E L ⟨d,.extract x i,ty,pos,af,g⟩ τ:=aax au aq
def aqE{p j:Nat}{β γ:Type}[ak β][ak γ]{b:β}{l:aP β γ}[k:bU c.P t γ](au:aU c E L x (.nd p l):=by exact fK)(ar:L[j]? =some ⟨some p,.var b⟩:=by first|exact At.g|exact ar _ _ At.g I):bj c E L ⟨d,.load t x,ty,pos,af,g⟩ (.of (l.get b)):=
 hv l k au ar I I
def aqF{p j:Nat}{β:Type}[ak β]{b:β}[k:bU c.P t β](au:aU c E L x (.cr p):=by exact fK)(ar:L[j]? =some ⟨some p,.var b⟩:=by first|exact At.g|exact ar _ _ At.g I):bj c E L ⟨d,.load t x,ty,pos,af,g⟩ (.of b):=
 hv (aP.id β) k au ar I I
def pm{bM β:Type}[ak β][ew bM]{rd:aL bM->Nat->aE β}{hp:aL bM}{p:Nat}{b:β}[k:zp β rd](hd:u6 L hp:=by repeat (first|exact u6.z|apply u6.s))(ag:rd hp p=some b:=by exact fact):(⟨some p,.var b⟩:aK)∈L:=by
 obtain⟨n,h1⟩:=hd.get;obtain⟨q,ad,aB⟩:=k.ok ag;exact jt h1 ad aB
class adI (β:Type) [ak β] {bM zq:outParam Type} [ew bM] (rd:outParam (aL bM->Nat->aE zq)) (q:outParam (zq->β)) (os:outParam (zq->aa (Nat×br))):Prop where
 ok:∀{hp p x},rd hp p=some x->∃k es,pat hp p=some k∧ew.gU p k=⟨some p,.cu (q x) (os x)⟩::es
def ji{bM zq β:Type}[ak β][ew bM]{rd:aL bM->Nat->aE zq}{q:zq->β}{os:zq->aa (Nat×br)}{hp:aL bM}{p:Nat}{x:zq}[k:adI β rd q os](hd:u6 L hp:=by repeat (first|exact u6.z|apply u6.s))(ag:rd hp p=some x:=by exact fact):(⟨some p,.cu (q x) (os x)⟩:aK)∈L:=by
 obtain⟨n,h1⟩:=hd.get;obtain⟨_,_,ad,aB⟩:=k.ok ag;exact anO h1 ad aB
def adJ{e:aK}{np:Nat}(bZ:L'.drop np=L.drop np)(h:e∈L.drop np):e∈L':=Cn (bZ▸h)
def aqG{p:Nat}{β γ:Type}[ak β][ak γ]{b:β}{os:aa (Nat×br)}{l:aP β γ}[k:bU c.P t γ](au:aU c E L x (.nd p l):=by exact fK)(hm:(⟨some p,.cu b os⟩:aK)∈L:=by first|exact adJ bZ ji|exact pj (λi e q=>ar i e q I) ji|exact ji)(aY:vv os l.off (ak.size γ)=true:=by rfl):bj c E L ⟨d,.load t x,ty,pos,af,g⟩ (.of (l.get b)):=
 ai0 l k au hm I I aY
def aqH{p:Nat}{β γ:Type}[ak β][ak γ]{b:β}{l:aP β γ}[k:bU c.P t γ](au:aU c E L x (.nd p l):=by exact fK)(hm:(⟨some p,.var b⟩:aK)∈L:=by first|exact adJ bZ pm|exact pj (λi e q=>ar i e q I) pm|exact pm):bj c E L ⟨d,.load t x,ty,pos,af,g⟩ (.of (l.get b)):=
 o8 l k au hm I I
def aqI{r:Ref}{a:Nat}(au:aU c E L x (.of r):=by exact fK)(aG:r=some a:=by first|with_reducible rfl|exact fact):bj c E L ⟨d,.nilCheck x,ty,pos,af,g⟩ (.cr a):=jq (j2 au aG)
def aqJ{r:Ref}{e:bJ}[k:o1 c.P t (.pointer e)](au:aU c E L x (.of r):=by exact fK):bj c E L ⟨d,.binOp .eql t x (.const (.pointer none)) t2,ty,pos,af,g⟩ (.of r.isNone):=Aw k.hu au
def aqK{r:Ref}{e:bJ}[k:o1 c.P t (.pointer e)](au:aU c E L x (.of r):=by exact fK):bj c E L ⟨d,.binOp .neq t x (.const (.pointer none)) t2,ty,pos,af,g⟩ (.of r.isSome):=ahT k.hu au
def anR{γ:Type}[ak γ]{r:γ}[k:bU c.P t γ](au:aU c E L x (.ptr r):=by exact fK):bj c E L ⟨d,.load t x,ty,pos,af,g⟩ (.of r):=kE k au
def aqL{s f:Nat}{β γ:Type}[B5:ak β][Ka:ak γ]{b:β}{l:aP β γ}[k:cC c.P s f l](au:aU c E L x (.ptr b):=by exact fK):bj c E L ⟨d,.fieldAddr s x f,ty,pos,af,g⟩ (.ptr (l.get b)):=AX l k.fd au I I
def aqM{s f p:Nat}{α β γ:Type}[ak α][B5:ak β][Ka:ak γ]{m:aP α β}{l:aP β γ}[k:cC c.P s f l](au:aU c E L x (.nd p m):=by exact fK):bj c E L ⟨d,.fieldAddr s x f,ty,pos,af,g⟩ (.nd p (m.comp l)):=bY k.fd au
def aqN{s f p:Nat}{β γ:Type}[B5:ak β][Ka:ak γ]{l:aP β γ}[k:cC c.P s f l](au:aU c E L x (.cr p):=by exact fK):bj c E L ⟨d,.fieldAddr s x f,ty,pos,af,g⟩ (.nd p l):=by
 have:=bY (d:=d) (ty:=ty) (pos:=pos) (af:=af) (g:=g) k.fd au;rwa[kR]at this
def aqO{α:Type}[Kb:ak α][Inhabited α]{xs:aa α}{e:bJ}{i:Int}{j:Nat}[k:jQ c.P t e α](au:aU c E L x (.of xs):=by exact fK)(aR:aU c E L y (.of i):=by exact fK)(hk:idx xs.length i=some j:=by exact fact):
 bj c E L ⟨d,.indexAddr t x y,ty,pos,af,g⟩ (.ptr (ax xs j)):=se k.hu k.e1 au aR (cN hk)
def anS{α:Type}[Kb:ak α]{xs:aa α}{e:bJ}[k:jQ c.P t e α](au:aU c E L x (.of xs):=by exact fK):bj c E L ⟨d,.call ⟨.builtin .len,#[x],#[t]⟩,ty,pos,af,g⟩ (.of (xs.length:Int)):=pg k.hu au
def aqP{b e:Bool}{p:Prop}(au:aU c E L x (.of b):=by exact fK)(aR:aU c E L y (.cond p (.of e)):=by first|exact ah I|exact ah (aD _ _ I))(hp:b=false->p:=by exact λh=>h):bj c E L ⟨d,.pick x (.const (.bool true)) y,ty,pos,af,g⟩ (.of (b||e)):=tp au aR hp
def anT{b e:Bool}{p:Prop}(au:aU c E L x (.of b):=by exact fK)(aR:aU c E L y (.cond p (.of e)):=by first|exact ah I|exact ah (aD _ _ I))(hp:b=true->p:=by exact λh=>h):bj c E L ⟨d,.pick x y (.const (.bool false)),ty,pos,af,g⟩ (.of (b&&e)):=wT au aR hp
def anU{α:Type}[ak α][DecidableEq α]{n:Nat}{a b:α}[k:B6 c.P t α n](au:aU c E L x (.of a):=by exact fK)(aR:aU c E L y (.of b):=by exact fK)(aY:ak.agg α=true:=by rfl):
 bj c E L ⟨d,.binOp .eql t x y t2,ty,pos,af,g⟩ (.of (decide (a=b))):=MO k.vX k.aM k.adH aY au aR
def anV{α:Type}[ak α][DecidableEq α]{n:Nat}{a b:α}[k:B6 c.P t α n](au:aU c E L x (.of a):=by exact fK)(aR:aU c E L y (.of b):=by exact fK)(aY:ak.agg α=true:=by rfl):
 bj c E L ⟨d,.binOp .neq t x y t2,ty,pos,af,g⟩ (.of (!decide (a=b))):=R1 k.vX k.aM k.adH aY au aR
inductive yq(c:cP)(E:List (Nat×J))(L:List aK)(t:TypeId)(place:Nat->Option (Nat×Nat)){β:Type}[B5:ak β]:β->List (Nat×Operand)->β->Prop
 |nil {b}:yq c E L t place b [] b
 |cons {b b':β} {γ:Type} [Ka:ak γ] {v:γ} {i:Nat} {x:Operand} {r:List (Nat×Operand)} {l:aP β γ} [k:cC c.P t i l]:place i=some (l.off,ak.size γ)->aU c E L x (.of v)->yq c E L t place (l.set b v) r b'->yq c E L t place b ((i,x)::r) b'
def yq.f{place:Nat->aE (Nat×Nat)}{β:Type}[B5:ak β]{b b':β}{r:aa (Nat×cw)}(h:yq c E L t place b r b'):uo c E L place b r b':=by
 induction h with
 |nil=>exact .nil
 |cons h1 ad _ cg=>exact .cons _ h1 ad I cg
def aqQ{β:Type}[B5:ak β]{z b:β}{ev:aa (Nat×cw)}{pl:Array (Nat×Nat)}[aJ:gF c.P t pl][bx:dH c.P t z](aW:yq c E L t (pl[·]?) z ev b:=by repeat (first|exact yq.nil|(apply yq.cons;rfl;first|exact fK|exact look_nil)))(aY:ak.agg β=true:=by rfl):
 bj c E L ⟨d,.build t ev.toArray,ty,pos,af,g⟩ (.of b):=kD aY aJ bx aW.f
inductive yJ{α:Type}:List α->Nat->α->List α->Prop
 |z {x v r}:yJ (x::r) 0 v (v::r)
 |s {x v r s i}:yJ r i v s->yJ (x::r) (i+1) v (x::s)
def yJ.ok{α:Type}{b c:aa α}{i:Nat}{v:α}(h:yJ b i v c):i<b.length∧b.set i v=c:=by
 induction h with
 |z=>simp
 |s _ cg=>exact⟨by simp only[List.length_cons];omega,by simp[cg.2]⟩
inductive yr(c:cP)(E:List (Nat×J))(L:List aK){α:Type}[ak α]:List α->List (Nat×Operand)->List α->Prop
 |nil {b}:yr c E L b [] b
 |cons {b dL b':List α} {v:α} {i:Nat} {x:Operand} {r:List (Nat×Operand)}:aU c E L x (.of v)->yJ b i v dL->yr c E L dL r b'->yr c E L b ((i,x)::r) b'
def yr.f{α:Type}[ak α]{b b':aa α}{r:aa (Nat×cw)}(h:yr c E L b r b'):qC c E L b r b':=by
 induction h with
 |nil=>exact .nil
 |cons h1 ad _ cg=>obtain⟨aB,rfl⟩:=ad.ok;exact .cons aB h1 cg
inductive yK{α:Type}(z:α):Nat->List α->Prop
 |z:yK z 0 []
 |s {n l}:yK z n l->yK z (n+1) (z::l)
def yK.ok{α:Type}{z:α}{n:Nat}{l:aa α}(h:yK z n l):List.replicate n z=l:=by
 induction h with
 |z=>rfl
 |s _ cg=>rw[List.replicate_succ,cg]
def aqR{α:Type}[Kb:ak α]{e n:Nat}{z:α}{ev:aa (Nat×cw)}{l r:aa α}[aJ:jQ c.P t e α][bx:dH c.P e z](bV:yK z n l:=by repeat (first|exact yK.z|apply yK.s))
 (aW:yr c E L l ev r:=by repeat (first|exact yr.nil|(apply yr.cons; (first|exact fK|exact look_nil); (repeat (first|exact yJ.z|apply yJ.s))))) (hs:Nat.beq (ak.size α) 0=false:=by rfl) (pw:Nat.ble (n*ak.size α) 16777216=true:=by rfl):
 bj c E L ⟨d,.buildSlice t n ev.toArray,ty,pos,af,g⟩ (.of r):=AV aJ.hu aJ.e1 bx hs pw (bV.ok▸aW.f)
def aqS{f:FuncId}{ats:Array bJ}{α ρ:Type}{zr:α->aE ρ}{τ:α->J}{mf:ρ->J}[k:lT c.P f α ρ zr τ mf]{a:α}{r:ρ}(h1:aU c E L x (τ a):=by exact fK)(h:zr a=some r:=by exact fact):
 bj c E L ⟨d,.call ⟨.value (.func f),[x].toArray,ats⟩,ty,pos,af,g⟩ (mf r):=ja k.cf (k.m _ _ h) ⟨h1,trivial⟩
def aqT{f:FuncId}{ats:Array bJ}{α β ρ:Type}{zr:α->β->aE ρ}{τ:α->J}{σ:β->J}{mf:ρ->J}[k:fg c.P f α β ρ zr τ σ mf]{a:α}{b:β}{r:ρ}(h1:aU c E L x (τ a):=by exact fK)(ad:aU c E L y (σ b):=by exact fK)(h:zr a b=some r:=by exact fact):
 bj c E L ⟨d,.call ⟨.value (.func f),[x,y].toArray,ats⟩,ty,pos,af,g⟩ (mf r):=ja k.cf (k.m _ _ _ h) ⟨h1,ad,trivial⟩
def aqU{f:FuncId}{ats:Array bJ}{α β γ ρ:Type}{zr:α->β->γ->aE ρ}{τ:α->J}{σ:β->J}{B7:γ->J}{mf:ρ->J}{cR:cw}[k:uV c.P f α β γ ρ zr τ σ B7 mf]{a:α}{b:β}{e:γ}{r:ρ}(h1:aU c E L x (τ a):=by exact fK)(ad:aU c E L y (σ b):=by exact fK)(aB:aU c E L cR (B7 e):=by exact fK)(h:zr a b e=some r:=by exact fact):
 bj c E L ⟨d,.call ⟨.value (.func f),[x,y,cR].toArray,ats⟩,ty,pos,af,g⟩ (mf r):=ja k.cf (k.m _ _ _ _ h) ⟨h1,ad,aB,trivial⟩
def Er{src dst:bJ}{e r:TypeDesc}{σ τ:J}[aJ:o1 c.P src e][bx:o1 c.P dst r](h:c.P.underlying src=some e->c.P.underlying dst=some r->aU c E L x σ->bj c E L ⟨d,.convert src dst x,ty,pos,af,g⟩ τ)(au:aU c E L x σ:=by exact fK):
 bj c E L ⟨d,.convert src dst x,ty,pos,af,g⟩ τ:=h aJ.hu bx.hu au
def ab5{r:TypeDesc}{σ pz τ:J}[aJ:o1 c.P t r](h:c.P.underlying t=some r->aU c E L x σ->aU c E L y pz->bj c E L o τ)(au:aU c E L x σ:=by exact fK)(aR:aU c E L y pz:=by exact fK):bj c E L o τ:=h aJ.hu au aR
def anW{a b r:Int}(au:aU c E L x (.of a):=by exact fK)(aR:aU c E L y (.of b):=by exact fK)(hk:vF a b=some r:=by exact fact):bj c E L ⟨d,.binOp .rem t x y t2,ty,pos,af,g⟩ (.of r):=anx au aR (ahO hk)
def anX{p n s k:Nat}{i:Int}{β α:Type}[ak β][ak α][Inhabited α]{l:aP β (Vector α n)}[JY:qi c.P t n s](au:aU c E L x (.nd p l):=by exact fK)(hs:ak.size α=s:=by rfl)(aR:aU c E L y (.of i):=by exact fK)(hk:idx n i=some k:=by exact fact):
 bj c E L ⟨d,.indexAddr t x y,ty,pos,af,g⟩ (.nd p (l.comp (aP.idx (α:=α) n k (cN hk).1))):=by subst hs;exact hz JY au aR (cN hk)
def BO(L:aa aK){β:Type}[ak β](p:Nat)(b:β):Prop:=True
def BO.m{β:Type}[ak β]{p j:Nat}{b:β}(h:L[j]? =some ⟨some p,.var b⟩):BO L p b:=trivial
def anY{p n s k:Nat}{i:Int}{α:Type}[ak α][Inhabited α]{b:Vector α n}[JY:qi c.P t n s](au:aU c E L x (.cr p):=by exact fK)(ar:BO L p b:=by first|exact BO.m At.g|exact BO.m (ar _ _ At.g I)|exact q1 _ _ At.g)(hs:ak.size α=s:=by rfl)(aR:aU c E L y (.of i):=by exact fK)(hk:idx n i=some k:=by exact fact):
 bj c E L ⟨d,.indexAddr t x y,ty,pos,af,g⟩ (.nd p (aP.idx (α:=α) n k (cN hk).1)):=by
 subst hs
 have:=hz (d:=d) (ty:=ty) (pos:=pos) (af:=af) (g:=g) JY au aR (cN hk)
 rwa[kR]at this
class my (op:BinOp) (α:Type) {β:outParam Type} [ak α] [ak β] (f:outParam (α->α->β)):Prop where
 h:∀{c:cP} {E L d ty pos af g x y t t2} {a b:α},aU c E L x (.of a)->aU c E L y (.of b)->bj c E L ⟨d,.binOp op t x y t2,ty,pos,af,g⟩ (.of (f a b))
instance:my .add Int (λa b=>bm (a+b)):=⟨jI⟩
instance:my .sub Int (λa b=>bm (a-b)):=⟨th⟩
instance:my .mul Int (λa b=>bm (a*b)):=⟨anw⟩
instance:my .lss Int (λa b=>decide (a<b)):=⟨pd⟩
instance:my .leq Int (λa b=>decide (a<=b)):=⟨Ip⟩
instance:my .gtr Int (λa b=>decide (a>b)):=⟨D0⟩
instance:my .geq Int (λa b=>decide (a>=b)):=⟨AY⟩
instance:my .eql Int (λa b=>a==b):=⟨pX⟩
instance:my .neq Int (λa b=>a !=b):=⟨wW⟩
instance:my .and (BitVec 64) (λa b=>a&&&b):=⟨Qs⟩
instance:my .or (BitVec 64) (λa b=>a|||b):=⟨AG⟩
instance:my .xor (BitVec 64) (λa b=>a ^^^ b):=⟨aj4⟩
instance:my .andNot (BitVec 64) (λa b=>a&&& ~~~b):=⟨PQ⟩
instance:my .add (BitVec 64) (λa b=>a+b):=⟨aj2⟩
instance:my .sub (BitVec 64) (λa b=>a-b):=⟨Yh⟩
instance:my .shl (BitVec 64) (λa b=>a <<< b.toNat):=⟨HU⟩
instance:my .shr (BitVec 64) (λa b=>a >>> b.toNat):=⟨aj7⟩
instance:my .eql (BitVec 64) (λa b=>a==b):=⟨aka⟩
instance:my .neq (BitVec 64) (λa b=>a !=b):=⟨akb⟩
instance:my .lss (BitVec 64) (λa b=>decide (a<b)):=⟨aj8⟩
instance:my .geq (BitVec 64) (λa b=>decide (a>=b)):=⟨aj9⟩
def anZ{op:BinOp}{α β:Type}[ak α][ak β]{f:α->α->β}{a b:α}[k:my op α f](au:aU c E L x (.of a):=by exact fK)(aR:aU c E L y (.of b):=by exact fK):bj c E L ⟨d,.binOp op t x y t2,ty,pos,af,g⟩ (.of (f a b)):=k.h au aR
def aaM{op:BinOp}{τ:J}(h:bj c E L ⟨d,.binOp op t x y t2,ty,pos,af,g⟩ τ):bj c E L ⟨d,.binOp op t x y t2,ty,pos,af,g⟩ τ:=h
def ab6{τ:J}(h:bj c E L ⟨d,.load t x,ty,pos,af,g⟩ τ):bj c E L ⟨d,.load t x,ty,pos,af,g⟩ τ:=h
def aqV{s f:Nat}{τ:J}(h:bj c E L ⟨d,.fieldAddr s x f,ty,pos,af,g⟩ τ):bj c E L ⟨d,.fieldAddr s x f,ty,pos,af,g⟩ τ:=h
def ab7{k:Call}{τ:J}(h:bj c E L ⟨d,.call k,ty,pos,af,g⟩ τ):bj c E L ⟨d,.call k,ty,pos,af,g⟩ τ:=h
def aqW{op:UnOp}{τ:J}(h:bj c E L ⟨d,.unOp op t x,ty,pos,af,g⟩ τ):bj c E L ⟨d,.unOp op t x,ty,pos,af,g⟩ τ:=h
def aqX{τ:J}(h:bj c E L ⟨d,.indexAddr t x y,ty,pos,af,g⟩ τ):bj c E L ⟨d,.indexAddr t x y,ty,pos,af,g⟩ τ:=h
def aqY{src dst:bJ}{τ:J}(h:bj c E L ⟨d,.convert src dst x,ty,pos,af,g⟩ τ):bj c E L ⟨d,.convert src dst x,ty,pos,af,g⟩ τ:=h
def ab8{τ:J}(h:bj c E L ⟨d,.nilCheck x,ty,pos,af,g⟩ τ):bj c E L ⟨d,.nilCheck x,ty,pos,af,g⟩ τ:=h
def aqZ{τ:J}(h:bj c E L ⟨d,.move x,ty,pos,af,g⟩ τ):bj c E L ⟨d,.move x,ty,pos,af,g⟩ τ:=h
def aq0{τ:J}(h:bj c E L ⟨d,.assign x,ty,pos,af,g⟩ τ):bj c E L ⟨d,.assign x,ty,pos,af,g⟩ τ:=h
def aq1{i:Nat}{τ:J}(h:bj c E L ⟨d,.extract x i,ty,pos,af,g⟩ τ):bj c E L ⟨d,.extract x i,ty,pos,af,g⟩ τ:=h
def aq2{z w:cw}{τ:J}(h:bj c E L ⟨d,.pick z x w,ty,pos,af,g⟩ τ):bj c E L ⟨d,.pick z x w,ty,pos,af,g⟩ τ:=h
def aq3{ev:Array (Nat×cw)}{τ:J}(h:bj c E L ⟨d,.build t ev,ty,pos,af,g⟩ τ):bj c E L ⟨d,.build t ev,ty,pos,af,g⟩ τ:=h
def aq4{n:Nat}{ev:Array (Nat×cw)}{τ:J}(h:bj c E L ⟨d,.buildSlice t n ev,ty,pos,af,g⟩ τ):bj c E L ⟨d,.buildSlice t n ev,ty,pos,af,g⟩ τ:=h
def aG{τ:J} (h:bj c E L o τ:=by first
 |(apply aqZ;exact cY fK)
 |(apply aq0;exact dm fK)
 |(apply ab6;first|exact aqE|exact aqF|exact anR)
 |(apply aqV;first|exact aqL|exact aqM|exact aqN)
 |(apply aaM;first|exact anZ|exact aqJ|exact aqK|exact anU|exact anV|exact ab5 at6|exact ab5 MI)
 |(apply ab7;first|exact anS|exact at1|exact B9 ZR|exact B9 ZQ|exact B9 aiT)
 |(apply aq1;exact anQ)
 |(apply aq2;first|exact aqP|exact anT)
 |(apply aqW;first|exact u1 oC|exact u1 at7)
 |(apply aq3;exact aqQ)
 |(apply aq4;exact aqR)
 |(apply aqY;first|exact Er AF|exact Er ald|exact Er anA|exact Er at8|exact Er at9|exact Er atY)
 |(apply ab8;first|exact aun|exact u1 jq|exact u1 ali)):bj c E L o τ:=h
def pB{τ:J} (h:bj c E L o τ:=by first
 |(apply aqX;first|exact aqO|exact anX|exact anY|exact aua)
 |(apply ab7;first|exact aqS|exact aqT|exact aqU|exact auo)
 |(apply ab8;exact aqI)|(apply ab6;first|exact aqH|exact aqG)
 |(apply aaM;first|exact anW|exact aub|exact auc|exact aud)):bj c E L o τ:=h
class JH (op:BinOp):Prop where
 h:True
instance:JH .quo:=⟨trivial⟩
instance:JH .rem:=⟨trivial⟩
instance:JH .shl:=⟨trivial⟩
instance:JH .shr:=⟨trivial⟩
def ab9(h:ae c ops Q (⟨d,.nilCheck x,ty,pos,af,g⟩::rest) E L):ae c ops Q (⟨d,.nilCheck x,ty,pos,af,g⟩::rest) E L:=h
def aca(h:ae c ops Q (⟨d,.load t x,ty,pos,af,g⟩::rest) E L):ae c ops Q (⟨d,.load t x,ty,pos,af,g⟩::rest) E L:=h
def aq5(h:ae c ops Q (⟨d,.indexAddr t x y,ty,pos,af,g⟩::rest) E L):ae c ops Q (⟨d,.indexAddr t x y,ty,pos,af,g⟩::rest) E L:=h
def aq6{f:FuncId}{xs:Array cw}{ats:Array bJ}(h:ae c ops Q (⟨d,.call ⟨.value (.func f),xs,ats⟩,ty,pos,af,g⟩::rest) E L):ae c ops Q (⟨d,.call ⟨.value (.func f),xs,ats⟩,ty,pos,af,g⟩::rest) E L:=h
def an0{op:BinOp}[k:JH op](h:ae c ops Q (⟨d,.binOp op t x y t2,ty,pos,af,g⟩::rest) E L):ae c ops Q (⟨d,.binOp op t x y t2,ty,pos,af,g⟩::rest) E L:=h
inductive Nm:J->J->Prop
 |i {τ}:Nm τ τ
 |n {α:Type} [ak α] {a b:α}:some a=some b->Nm (.of a) (.of b)
def Nm.aG{τ σ:J}(h:Nm τ σ)(k:bj c E L o τ):bj c E L o σ:=by
 cases h with
 |i=>exact k
 |n e=>cases e;exact k
def aq7{τ:J}{j g:Nat}{p:Prop}{b want:Bool}(k:ae c ops Q rest ((bb,.cond (p∧b=want) τ)::E) L)(bu:o.guard=some (j,want):=by rfl)(aC:(ops[j]?).bind (·.dst)=some g:=by rfl)(an:look E g=some (.cond p (.of b)):=by rfl)
 (h:p∧b=want->bj c E L o τ:=by intro hb;exact aG) (hd:o.dst=some bb:=by rfl) (aM:Nat.blt bb c.n=true:=by rfl):ae c ops Q (o::rest) E L:=.gg h bu aC an hd aM k
def aq8{fn:Func}{Lo:Unit->aa aK}(hs:(Lo ()).Sublist L:=by repeat (first|exact zL _|exact q6 _|apply List.Sublist.cons_cons|apply List.Sublist.cons))(aG:fn.results= #[]:=by rfl)(eR:c.ds=[]:=by rfl):
 al c (bodyPost c.P fn (k6 c.X c.b8 c.kc (λ_:Unit=>.bW []) Lo)) .ret E L:=.ns () hs aG I eR
def aq9{fn:Func}{r:ResultVar}{τ:J}{ρ:Unit->J}{Lo:Unit->aa aK}(hs:(Lo ()).Sublist L:=by repeat (first|exact zL _|exact q6 _|apply List.Sublist.cons_cons|apply List.Sublist.cons))(aG:fn.results= #[r]:=by rfl)(h:rM c E L r τ:=by exact TP)(sy:ρ ()=τ:=by rfl)(eR:c.ds=[]:=by rfl):
 al c (bodyPost c.P fn (k6 c.X c.b8 c.kc ρ Lo)) .ret E L:=.eC () hs aG sy h eR
def ara{fn:Func}{r hg:ResultVar}{τ pv:J}{ρ:Unit->J}{Lo:Unit->aa aK}(hs:(Lo ()).Sublist L:=by repeat (first|exact zL _|exact q6 _|apply List.Sublist.cons_cons|apply List.Sublist.cons))(aG:fn.results= #[r,hg]:=by rfl)(h:rM c E L r τ:=by exact TP)(ad:rM c E L hg pv:=by exact TP)(sy:ρ ()=.bW [τ,pv]:=by rfl)(eR:c.ds=[]:=by rfl):
 al c (bodyPost c.P fn (k6 c.X c.b8 c.kc ρ Lo)) .ret E L:=.ru () hs aG sy h ad eR
def asz{R:Type}{b:Bool}{A B:aE R}{r:R}(h:cond b A B=some r):True:=trivial
def asA{R:Type}{b:Bool}{A B:aj R}{r:R->Prop}(h:cond b A B r):True:=trivial
def arb(h:ae c ops Q (⟨some bb,.alloc t,ty,pos,af,none⟩::rest) E L):ae c ops Q (⟨some bb,.alloc t,ty,pos,af,none⟩::rest) E L:=h
def arc(h:ae c ops Q (⟨some bb,.box t x,ty,pos,af,none⟩::rest) E L):ae c ops Q (⟨some bb,.box t x,ty,pos,af,none⟩::rest) E L:=h
def ard(h:ae c ops Q (⟨none,.store t x y,ty,pos,af,none⟩::rest) E L):ae c ops Q (⟨none,.store t x y,ty,pos,af,none⟩::rest) E L:=h
def are{z:cw}{u v:Code}(h:ay c Q (.cond z u v) E L):ay c Q (.cond z u v) E L:=h
def JI{τ:J}(k:ae c ops Q rest ((bb,τ)::E) L)(bu:o.guard=none:=by rfl)(hd:o.dst=some bb:=by rfl)(h:bj c E L o τ:=by exact aG)(aM:Nat.blt bb c.n=true:=by rfl):ae c ops Q (o::rest) E L:=.v h bu hd aM k
def JJ{τ:J}{j g:Nat}{b want:Bool}(k:ae c ops Q rest ((bb,.cond (b=want) τ)::E) L)(bu:o.guard=some (j,want):=by rfl)(aC:(ops[j]?).bind (·.dst)=some g:=by rfl)(an:look E g=some (.of b):=by rfl)
 (h:b=want->bj c E L o τ:=by intro hb;exact aG) (hd:o.dst=some bb:=by rfl) (aM:Nat.blt bb c.n=true:=by rfl):ae c ops Q (o::rest) E L:=.g h bu aC an hd aM k
def arf{α:Type}[Kb:ak α]{z:α}[hS:dH c.P t z](k:∀p,ae c ops Q rest ((bb,.cr p)::E) (⟨some p,.var z⟩::L))(aM:Nat.blt bb c.n=true:=by rfl):ae c ops Q (⟨some bb,.alloc t,ty,pos,af,none⟩::rest) E L:=.alloc hS aM k
def arh{α:Type}[ak α]{z:α}(k:∀p,ae c ops Q rest ((bb,.cr p)::E) (⟨some p,.var z⟩::L))(au:aU c E L x (.of z):=by exact fK)(aM:Nat.blt bb c.n=true:=by rfl):ae c ops Q (⟨some bb,.box t x,ty,pos,af,none⟩::rest) E L:=.box au aM k
def ari{p:Nat}{β γ:Type}[ak β][ak γ]{b:β}{v:γ}{l:aP β γ}[ej:bU c.P t γ](k:ae c ops Q rest E L')(au:aU c E L x (.nd p l):=by exact fK)(aR:aU c E L y (.of v):=by first|exact fK|exact look_nil)
 (ar:u5 L ⟨some p,.var b⟩ ⟨some p,.var (l.set b v)⟩ L':=by repeat (first|exact u5.z|apply u5.s)):ae c ops Q (⟨none,.store t x y,ty,pos,af,none⟩::rest) E L:=by
 obtain⟨j,h1,rfl⟩:=ar.get
 exact .store l ej au aR h1 I I k
def arj{p:Nat}{β:Type}[ak β]{b v:β}[ej:bU c.P t β](k:ae c ops Q rest E L')(au:aU c E L x (.cr p):=by exact fK)(aR:aU c E L y (.of v):=by first|exact fK|exact look_nil)
 (ar:u5 L ⟨some p,.var b⟩ ⟨some p,.var v⟩ L':=by repeat (first|exact u5.z|apply u5.s)):ae c ops Q (⟨none,.store t x y,ty,pos,af,none⟩::rest) E L:=by
 obtain⟨j,h1,rfl⟩:=ar.get
 exact .store (aP.id β) ej au aR h1 I I k
def ark{α R:Type}{a:α}{f:α->aE R}{r:R}{G:Prop}(h:(some a).bind f=some r)(k:∀y,some a=some y->f y=some r->G):G:=k a I h
def acb{α:Type}[ak α]{a iI:α}{K:α->Prop}(k:∀y,some a=some y->K y->ae c ops Q rest ((bb,.of y)::E) L)(bu:o.guard=none:=by rfl)(hd:o.dst=some bb:=by rfl)(h:bj c E L o (.of iI):=by exact aG)(e:iI=a:=by with_reducible rfl)(aM:Nat.blt bb c.n=true:=by rfl):
 ∀y,some a=some y->K y->ae c ops Q (o::rest) E L:=λy aR hk=>by subst e;exact .v ((Nm.n aR).aG h) bu hd aM (k y aR hk)
def arl{α R:Type}{a:α}{f:α->aj R}{r:R->Prop}{G:Prop}(h:aj.bind (aj.of (some a)) f r)(k:∀y,some a=some y->f y r->G):G:=by obtain⟨y,h1,ad⟩:=h;exact k y h1 ad
def ac3{α R:Type}{m:aE α}{f:α->aE R}{r:R}(h:m.bind f=some r)(k:∀y,m=some y->f y=some r->ae c ops Q (o::rest) E L):ae c ops Q (o::rest) E L:=aA h k
def acd{α R:Type}{m:aE α}{f:α->aj R}{r:R->Prop}(h:aj.bind (aj.of m) f r)(k:∀y,m=some y->f y r->ae c ops Q (o::rest) E L):ae c ops Q (o::rest) E L:=aj.bF h k
def asB{u j p:Nat}{α:Type}[ak α]{x:α}[k:bU c.P ty α](h:look E u=some (.cr p):=by rfl)(ar:L[j]? =some ⟨some p,.var x⟩:=by first|exact At.g|exact ar _ _ At.g I):q0 c E L (.cell u ty) (.of x):=abT k h ar
def Uz{r:ResultVar}{τ:J}(h:q0 c E L r τ:=by first|exact IF I|exact asB):q0 c E L r τ:=h
def arn{u j p:Nat}{α:Type}[ak α]{x:α}[k:bU c.P ty α](h:look E u=some (.cr p):=by rfl)(ar:L[j]? =some ⟨some p,.var x⟩:=by first|exact At.g|exact ar _ _ At.g I):rM c E L (.cell u ty) (.of x):=nt k h ar
def TP{r:ResultVar}{τ:J}(h:rM c E L r τ:=by first|exact dn I|exact arn):rM c E L r τ:=h
def asC{fn:Func}{r:ResultVar}{τ:J}(aG:fn.results= #[r]:=by rfl)(h:q0 c E L r τ:=by exact Uz)(eR:c.ds=[]:=by rfl):al c (bodyPost c.P fn (vG c τ)) .ret E L:=.Sz aG h eR
def asD{fn:Func}{ky hg:ResultVar}{τ pv:J}(aG:fn.results= #[ky,hg]:=by rfl)(h:q0 c E L ky τ:=by exact Uz)(ad:q0 c E L hg pv:=by exact Uz)(eR:c.ds=[]:=by rfl):al c (bodyPost c.P fn (vG c (.bW [τ,pv]))) .ret E L:=.abA aG h ad eR
end
inductive zs(c:cP)(ops:Array Oper)(E:List (Nat×J))(L:List aK)(hs:List dU):List Oper->List (Option Nat)->List (List Nat)->List J->Prop
 |nil {os}:zs c ops E L hs os [] [] []
 |cons {o os s ga d ds τ dC}:(∀L':List aK,(∀(j:Nat) (e:aK),L[j]? =some e->vA (λ_=>false) j 0 []=true->L'[j]? =some e)->iq c ops (kL (λ_ _=>none) hs E d) L' o τ)->zs c ops E L hs os ga ds dC->zs c ops E L hs (o::os) (s::ga) (d::ds) (τ::dC)
def zs.h{c:cP}{ops:Array Oper}{E:aa (Nat×J)}{L:aa aK}{hs:aa dU}{os ga ds dC}(h:zs c ops E L hs os ga ds dC):yp c ops E L hs os ga ds dC:=by
 induction h with
 |nil=>simp[yp]
 |cons h1 _ cg=>exact⟨h1,cg⟩
def BP(l:aa Oper):aa (aa Nat):=l.map λo=>o.after.toList.filterMap λe=>match e.ground with | .data=>some e.on| .guard=>some e.on|_=>none
section
variable{c:cP}{E:aa (Nat×J)}{L:aa aK}{ops:Array Oper}{Q:Exit->Act->bo->Prop}{o:Oper}
def NC{τ σ:J}(bu:o.guard=none:=by rfl)(h:bj c E L o τ:=by first|exact aG|exact pB)(n:Nm τ σ:=by first|exact Nm.n (by with_reducible assumption)|exact Nm.i):iq c ops E L o σ:=iq.v (n.aG h) bu
def ac4{τ:J}{j g:Nat}{b want:Bool}(bu:o.guard=some (j,want):=by rfl)(aC:(ops[j]?).bind (·.dst)=some g:=by rfl)(an:look E g=some (.of b):=by rfl)(h:b=want->bj c E L o τ:=by intro hb;first|exact aG|exact pB):
 iq c ops E L o (.cond (b=want) τ):=iq.g h bu aC an
def ay.fy{kK a:Nat}{l:aa Oper}{es:aa Nat}{dC:aa J}[k:Uy c.P](n:Nat)(bD:ae c l.toArray Q (l.drop n) (w5 E (rg a n) (BP (l.take n)) dC) L)(aY:(l[0]?).bind (·.dst)=Option.some a:=by rfl)
 (bT:zs c l.toArray E L (qV (rg a n) (BP (l.take n)) dC) l (rg a n) (BP (l.take n)) dC:=by repeat (first|apply zs.nil|(apply zs.cons; (intro L' ar;first|exact NC|exact ac4))))
 (eR:l1 (qV (rg a n) (BP (l.take n)) dC)=En (rg a n) (BP (l.take n)):=by rfl) (ko:E.map (·.1)=es:=by rfl) (eu:Gv.rz l.toArray n (En (rg a n) (BP (l.take n))) es=true:=by kernel_rfl) (hs:EN (l.take n) (rg a n) c.n=true:=by rfl):ay c Q (.region kK l.toArray true) E L:=
 .kM k.m n (rg a n) (BP (l.take n)) dC bT.h bD eR ko eu hs
end
def XG{up:aa Nat}{i:Nat}{hd:Nat->Hid}{x:Hid}:iA up i (nF hd i x) i=x:=by
 unfold iA nF;simp
def qK(s:Nat)(up:aa Nat)(j i:Nat){α:Type}[ak α](z:α):dU:=⟨some s,up,[j],[j],λhd=>J.cr ((hd i 0).getD 0),λhd _=>aI ((hd i 0).getD 0) z⟩
inductive JK(c:cP)(E:List (Nat×J))(L:List aK)(t:TypeId)(x y:Operand)(j:Nat)(e:aK):Prop
 |mk {p:Nat} {β γ:Type} [ak β] [ak γ] {b:β} {v:γ} (l:aP β γ):bU c.P t γ->aU c E L x (.nd p l)->aU c E L y (.of v)->L[j]? =some ⟨some p,.var b⟩->⟨some p,.var (l.set b v)⟩=e->JK c E L t x y j e
 |z {p:Nat} {β:Type} [ak β] {b v:β}:bU c.P t β->aU c E L x (.cr p)->aU c E L y (.of v)->L[j]? =some ⟨some p,.var b⟩->⟨some p,.var v⟩=e->JK c E L t x y j e
section
variable{c:cP}{E:aa (Nat×J)}{L:aa aK}{ops:Array Oper}{Q:Exit->Act->bo->Prop}{o:Oper}{hs:aa dU}{np i bb:Nat}{up rd:aa Nat}{t ty:bJ}{pos:String}{af:Array Edge}{x y:cw}
def adK{p:Nat}{β:Type}[ak β]{a b:β}(h:some a=some b):(⟨some p,.var a⟩:aK)=⟨some p,.var b⟩:=by cases h;rfl
def atM{p j:Nat}{β γ:Type}[ak β][ak γ]{b:β}{v:γ}{l:aP β γ}{e:aK}[k:bU c.P t γ](au:aU c E L x (.nd p l):=by exact fK)(aR:aU c E L y (.of v):=by first|exact fK|exact look_nil)(h:L[j]? =some ⟨some p,.var b⟩:=by exact ar _ _ I I)(he:⟨some p,.var (l.set b v)⟩=e:=by first|rfl|exact adK (by assumption)):JK c E L t x y j e:=.mk l k au aR h he
def sz{p j:Nat}{β:Type}[ak β]{b v:β}{e:aK}[k:bU c.P t β](au:aU c E L x (.cr p):=by exact fK)(aR:aU c E L y (.of v):=by first|exact fK|exact look_nil)(h:L[j]? =some ⟨some p,.var b⟩:=by exact ar _ _ I I)(he:⟨some p,.var v⟩=e:=by first|rfl|exact adK (by assumption)):JK c E L t x y j e:=.z k au aR h he
inductive E4(c:cP)(E:List (Nat×J))(L:List aK)(o:Oper)(σ:J):Prop
 |mk {τ:J}:bj c E L o τ->Nm τ σ->E4 c E L o σ
def E4.h{σ:J}(h:E4 c E L o σ):bj c E L o σ:=by cases h with |mk h n=>exact n.aG h
def aM{τ σ:J}(h:bj c E L o τ:=by first|exact aG|exact pB)(n:Nm τ σ:=by first|exact Nm.n (by with_reducible assumption)|exact Nm.i):E4 c E L o σ:=.mk h n
def ac5{σ:J}(h:∀(hd:Nat->Hid) (E':aa (Nat×J)) (L':aa aK),(∀t τ,look (kL hd hs E up) t=some τ->look E' t=some τ)->(∀j e,(ht (λ_=>true) hd 0 (hs.take i) L)[j]? =some e->rd.contains j=true->L'[j]? =some e)->(∀{β:Type} [ak β] (p:Nat) (b:β) {j:Nat},(ht (λ_=>true) hd 0 (hs.take i) L)[j]? =some ⟨some p,.var b⟩->BO L' p b)->L'.drop np=L.drop np->E4 c E' L' o σ:=by intro hd E' L' aD ar q1 bZ;exact aM)
 (bu:o.guard=none:=by rfl) (hd:o.dst=some bb:=by rfl) (aM:Nat.blt bb c.n=true:=by rfl):yn c ops Q hs E L np i o (az bb up rd σ):=
 λa b gG d e f=>ae.v (h a b gG d e (λ_ _ _ _=>trivial) f).h bu hd aM (ae.nil (al.fin (λ_=>none) I I))
def ac6{τ:J}{j g:Nat}{b want:Bool}(bu:o.guard=some (j,want):=by rfl)(aC:(ops[j]?).bind (·.dst)=some g:=by rfl)(an:∀hd,look (kL hd hs E up) g=some (.of b):=by intro hd;rfl)
 (h:∀(hd:Nat->Hid) (E':aa (Nat×J)) (L':aa aK),(∀t τ,look (kL hd hs E up) t=some τ->look E' t=some τ)->(∀j e,(ht (λ_=>true) hd 0 (hs.take i) L)[j]? =some e->rd.contains j=true->L'[j]? =some e)->(∀{β:Type} [ak β] (p:Nat) (b:β) {j:Nat},(ht (λ_=>true) hd 0 (hs.take i) L)[j]? =some ⟨some p,.var b⟩->BO L' p b)->L'.drop np=L.drop np->b=want->E4 c E' L' o τ:=by intro hd E' L' aD ar q1 bZ hb;exact aM)
 (hd:o.dst=some bb:=by rfl) (aM:Nat.blt bb c.n=true:=by rfl):yn c ops Q hs E L np i o (az bb up rd (.cond (b=want) τ)):=
 λa b' gG d e f=>ae.g (λz=>(h a b' gG d e (λ_ _ _ _=>trivial) f z).h) bu aC (d _ _ (an a)) hd aM (ae.nil (al.fin (λ_=>none) I I))
def ac7{α:Type}[Kb:ak α]{z:α}[hS:dH c.P t z]{s j:Nat}(aC:∀hd,(ht (λ_=>true) hd 0 (hs.take i) L)[j]? =some ⟨none,.dead⟩:=by intro hd;rfl)(aM:Nat.blt s c.n=true:=by rfl):yn c ops Q hs E L np i ⟨some s,.alloc t,ty,pos,af,none⟩ (qK s up j i z):=
 λhd E' L' aD ar bZ=>.alloc hS aM λp=>.nil (.place j (ar j _ (aC hd) (by simp[qK])) (.fin (cJ [some p]) (by simp[qK,sl,XG,cJ]) (by simp[qK,p0,XG,cJ])))
def dst{j:Nat}{e:(Nat->Hid)->aK}(h:∀(hd:Nat->Hid) (E':aa (Nat×J)) (L':aa aK),(∀t τ,look (kL hd hs E up) t=some τ->look E' t=some τ)->(∀k e,(ht (λ_=>true) hd 0 (hs.take i) L)[k]? =some e->[j].contains k=true->L'[k]? =some e)->L'.drop np=L.drop np->JK c E' L' t x y j (e (iA up i (nF hd i λ_=>none))):=by intro hd E' L' aD ar bZ;first|exact atM|exact sz):
 yn c ops Q hs E L np i ⟨none,.store t x y,ty,pos,af,none⟩ (fz up [j] [j] e):=λhd E' L' aD ar bZ=>by
 cases h hd E' L' aD ar bZ with
 |mk l ej au aR h1 ad=>exact .store l ej au aR h1 I I (.nil (.fin (λ_=>none) I (eG (L'.set j) ad)))
 |z ej au aR h1 ad=>exact .store (aP.id _) ej au aR h1 I I (.nil (.fin (λ_=>none) I (eG (L'.set j) ad)))
end
inductive u7(c:cP)(ops:Array Oper)(Q:Exit->Act->World->Prop)(hs:List dU)(E:List (Nat×J))(L:List aK)(np:Nat):Nat->List Oper->List dU->Prop
 |nil {i}:u7 c ops Q hs E L np i [] []
 |cons {i o os h r}:yn c ops Q hs E L np i o h->u7 c ops Q hs E L np (i+1) os r->u7 c ops Q hs E L np i (o::os) (h::r)
def u7.h{c:cP}{ops:Array Oper}{Q:Exit->Act->bo->Prop}{hs:aa dU}{E:aa (Nat×J)}{L:aa aK}{np i:Nat}{os r}(h:u7 c ops Q hs E L np i os r):qx c ops Q hs E L np i os r:=by
 induction h with
 |nil=>simp[qx]
 |cons h1 _ cg=>exact⟨h1,cg⟩
section
variable{c:cP}{E:aa (Nat×J)}{L:aa aK}{Q:Exit->Act->bo->Prop}{kK:Nat}{l:aa Oper}{ds:aa (aE Nat×aa Nat×aa Nat×aa Nat)}{es:aa Nat}[UA:Uy c.P](np:Nat)(hs:aa dU)
include UA
def ay.rP(bD:∀hd,al c Q .normal (iU (λ_=>true) hd E 0 hs) (ht (λ_=>true) hd 0 hs L))(bT:u7 c l.toArray Q hs E L np 0 l hs:=by repeat (first|apply u7.nil|(apply u7.cons;first|exact ac7|exact dst|exact ac5|exact ac6)))
 (eR:l1 hs=ds:=by rfl) (ko:E.map (·.1)=es:=by rfl) (eu:Gv.rz l.toArray l.length ds es=true:=by kernel_rfl) (hw:(ds.all λd=>d.2.2.2.all λj=>Nat.blt j np)=true:=by kernel_rfl):ay c Q (.region kK l.toArray true) E L:=.Us np UA.m hs es bT.h bD eR ko eu hw
def ay.cf{K:Prop}(k:K)(bD:∀hd,al c Q .normal (iU (λ_=>true) hd E 0 hs) (ht (λ_=>true) hd 0 hs L))(bT:B8 K->u7 c l.toArray Q hs E L np 0 l hs:=by intro k;repeat (first|apply u7.nil|(apply u7.cons;first|exact ac7|exact dst|exact ac5|exact ac6|exact k.k.1|exact k.k.2.1|exact k.k.2.2.1|exact k.k.2.2.2.1|exact k.k.2.2.2.2.1|exact k.k.2.2.2.2.2.1|exact k.k.2.2.2.2.2.2.1|exact k.k.2.2.2.2.2.2.2.1|exact k.k.2.2.2.2.2.2.2.2.1|exact k.k.2.2.2.2.2.2.2.2.2.1|exact k.k.2.2.2.2.2.2.2.2.2.2.1|exact k.k.2.2.2.2.2.2.2.2.2.2.2.1|exact k.k.2.2.2.2.2.2.2.2.2.2.2.2.1|exact k.k.2.2.2.2.2.2.2.2.2.2.2.2.2.1)))
 (eR:l1 hs=ds:=by rfl) (ko:E.map (·.1)=es:=by rfl) (eu:Gv.rz l.toArray l.length ds es=true:=by kernel_rfl) (hw:(ds.all λd=>d.2.2.2.all λj=>Nat.blt j np)=true:=by kernel_rfl):ay c Q (.region kK l.toArray true) E L:=.Us np UA.m hs es (bT ⟨k⟩).h bD eR ko eu hw
end
section
variable{c:cP}{E:aa (Nat×J)}{L:aa aK}{l:aa Oper}{Q:Exit->Act->bo->Prop}
inductive zt(c:cP)(l:List Oper)(E:List (Nat×J))(L:List aK)(fs:List (Nat×Nat×J)):List Nat->Prop
 |nil:zt c l E L fs []
 |cons {i o τ r}:l[i]? =some o->Bj i fs=some τ->iq c l.toArray (mE (λj=>e4 j (k7 o)) E fs) L o τ->zt c l E L fs r->zt c l E L fs (i::r)
def zt.h{fs:aa (Nat×Nat×J)}{nl:aa Nat}(h:zt c l E L fs nl):zn c l E L fs nl:=by
 induction h with
 |nil=>trivial
 |cons h1 ad aB _ cg=>exact⟨by rw[h1,ad];exact aB,cg⟩
def gT.md{u3:Nat}{eA eT:aa Nat}{fs:aa (Nat×Nat×J)}{ks:aa (Nat×Nat)}{es:aa Nat}(pH nl el:aa Nat)(aD:zo c l Q eA eT fs E L el)(ar:zt c l E L fs nl:=by repeat (first|apply zt.nil|(apply zt.cons;rfl;rfl; (first|exact NC|exact ac4))))(aM:eA.all (λk=>e4 k eT)=false:=by rfl)
 (hj:fs.map (λx=>(x.1,x.2.1))=ks:=by rfl) (ko:E.map (·.1)=es:=by rfl) (BN:c.n=u3:=by rfl) (eu:NL l u3 eA eT pH nl el ks es=true:=by kernel_rfl):gT c l Q eA eT fs E L:=.mid pH nl el ar.h aD aM hj ko BN eu
end
def go{G:Prop} (h:G:=by
 repeat (first
 | (change ae _ _ _ (_::_) _ _
    first
    |((with_reducible refine ark h ?_);refine acb ?_; (try clear h);intro eB UB h;have Ca:=True.intro)|((with_reducible refine arl h ?_);refine acb ?_; (try clear h);intro eB UB h;have Ca:=True.intro)
    |(apply arb;refine arf ?_;intro eB)|(apply arc;refine arh ?_;intro eB)
    |(apply ard;first|refine ari ?_|refine arj ?_)
    |(apply ab9; (first|(with_reducible refine ac3 h ?_)|(with_reducible refine acd h ?_)); (try clear h); (intro eB UB h;have Ca:=True.intro);first|(refine JI ?_ (h:=by exact pB);change ae _ _ _ _ ((_,J.cr eB)::_) _)|(refine JJ ?_ (h:=by intro hb;exact pB);change ae _ _ _ _ ((_,J.cond _ (J.cr eB))::_) _))
    |((first|apply ab9|apply aca);first|refine JI ?_ (h:=by exact pB)|refine JJ ?_ (h:=by intro hb;exact pB))
    |((first|apply aq5|apply aq6|apply an0|apply aca); (first|(with_reducible refine ac3 h ?_)|(with_reducible refine acd h ?_)); (try clear h); (intro eB UB h;have Ca:=True.intro);first|refine JI ?_ (h:=by exact pB)|refine JJ ?_ (h:=by intro hb;exact pB))
    |refine JI ?_|refine JJ ?_|refine aq7 ?_|refine JI ?_ (h:=by exact pB)|refine JJ ?_ (h:=by intro hb;exact pB))
 | (change ae _ _ _ [] _ _
    first|apply h5|apply gW|apply ca|apply ae.nil)
 | (change ay _ _ _ _ _
    first|apply b3|(apply are;first|((with_reducible have Ca:=asz h);refine j8 h ?_ ?_ <;> ((try clear h);intro h))|((with_reducible have Ca:=asA h);refine yV h ?_ ?_ <;> ((try clear h);intro h)))|apply k9|apply ay.seq|apply ay.block|apply ay.fc|apply ay.ret|apply ay.exit|apply ay.skip)
 | (change al _ _ _ _ _
    first|apply al.next|apply al.ret|apply al.exit|apply al.j6|apply al.k5|apply al.ml|refine al.alc I ?_|(cases h;first|exact asC|exact asD|exact aq9|exact ara|exact auE|exact auF|exact aq8|exact hA () 0|exact hA () 1|exact hA () 2|exact hA () 3|exact gq () 0|exact gq () 1|exact gq () 2|exact gq () 3|exact ed 0 (hm ())|exact ed 1 (hm ())|exact ed 2 (hm ())))
 |((first|((guard_hyp Ca); (clear Ca);revert h)|skip); (repeat (revert eB));first|exact aJ.k|exact bx.k|exact cB.k|exact fo.k|exact l8.k|exact oU.k))):G:=h
def aO{G K:Prop}(k:K)(h:B8 K->G:=by intro aJ;exact go):G:=h ⟨k⟩
def go2{G K fg:Prop}(k:K)(k':fg)(h:B8 K->B8 fg->G:=by intro aJ bx;exact go):G:=h ⟨k⟩ ⟨k'⟩
def aco{G K fg uV:Prop}(k:K)(k':fg)(asE:uV)(h:B8 K->B8 fg->B8 uV->G:=by intro aJ bx cB;exact go):G:=h ⟨k⟩ ⟨k'⟩ ⟨asE⟩
theorem bU.i{P:Program}{t:bJ}{α:Type}[ak α]{d:TypeDesc}(hu:P.underlying t=some d)(aY:(match (motive:=TypeDesc->Bool) d with | .struct _| .array _ _=>true|_=>false)=ak.agg α:=by rfl)(hs:(P.info? t).map (·.size)=some (ak.size α):=by kernel_rfl):bU P t α:=bU.of aY hu hs
theorem dH.i{P:Program}{t:bJ}{α:Type}[ak α][Inhabited α][a7 α](h:(P.info? t).bind (·.zero)=some (M9 α):=by kernel_rfl):dH P t (default:α):=dH.of h
theorem cC.i{P:Program}{s f:Nat}{β γ:Type}[ak β][ak γ]{l:aP β γ}{fs:Array Field}{fd:Field}(hu:P.underlying s=some (.struct fs))(aW:fs[f]? =some fd)(ej:bU P fd.type γ)(a6:fd.offset=l.off:=by rfl)(hs:Nat.beq (ak.size γ) 0=false:=by rfl):cC P s f l:=⟨y0.of hu aW a6 ej hs⟩
def bH.i{P:Program}{f:FuncId}{fn:Func}(h:P.funcs[f]? =some fn)(ad:fn.body.isNone=false:=by rfl)(aB:(fn.name== "runtime.NumGoroutine")=false:=by kernel_rfl):bH P f:=⟨fn,h,ad,aB⟩
theorem gF.i{P:Program}{t:bJ}{pl:Array (Nat×Nat)}{fs:Array Field}(h:P.underlying t=some (.struct fs))(ad:fs.all (λf=>(P.info? f.type).isSome)=true:=by kernel_rfl)(aB:(fs.map λf=>(f.offset,P.cellsOf f.type))=pl:=by kernel_rfl):gF P t pl:=⟨fs,h,ad,aB⟩
end Gv
