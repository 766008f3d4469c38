/-
  The library of the decompiler, as far as it is needed here. Conditions: none.
-/
import Derived.Test.YtppgfphgdogpeaaGreatUl0
import Derived.Test.YtppgfphgdogpeaaGreatUl1
set_option linter.defProp false
set_option linter.unusedVariables false
set_option linter.unusedSimpArgs false
namespace Gv
open Go
def e7(n:Nat):aa Nat->Bool
 |[]=>false
 |m::r=>bif Nat.beq m n then true else e7 n r
def nt{n:Nat}:∀{l:aa Nat},e7 n l=true↔n∈l
 |[]=>by simp[e7]
 | m::r=>by
   unfold e7;cases h:Nat.beq m n with
   |true=>have:=Vt h;subst this;simp
   | false=>
     have df:n≠m:=λe=>by subst e;rw[nk]at h;cases h
     simp only[cond_false,nt,dP,df,false_or]
def mH(ls:Nat->Bool)(E:aa (Nat×J)):aa (Nat×Nat×J)->aa (Nat×J)
 |[]=>E
 |x::r=>bif ls x.1 then x.2::mH ls E r else mH ls E r
def Bu(i:Nat):aa (Nat×Nat×J)->aD J
 |[]=>none
 |x::r=>bif Nat.beq x.1 i then some x.2.2 else Bu i r
def No(i:Nat):aa (Nat×Nat×J)->aD (Nat×J)
 |[]=>none
 |x::r=>bif Nat.beq x.1 i then some x.2 else No i r
def Fc:aa Edge->aa Nat
 |[]=>[]
 |e::r=>bif Region.binds .any e then e.on::Fc r else Fc r
def H4{d:Nat}:∀{l:aa Edge},d∈Fc l↔∃e∈l,Region.binds .any e=true∧e.on=d
 |[]=>by simp[Fc]
 | e::r=>by
   unfold Fc;cases h:Region.binds .any e with
   | true=>
     simp only[cond_true,dP,H4]
     constructor
     ·rintro (rfl|⟨e',h1,ad,az⟩)
      ·exact⟨e,.inl I,h,rfl⟩
      exact⟨e',.inr h1,ad,az⟩
     rintro ⟨e',rfl|h1,ad,az⟩
     ·exact .inl az.symm
     exact .inr ⟨e',h1,ad,az⟩
   | false=>
     simp only[cond_false,H4,dP]
     constructor
     ·rintro ⟨e',h1,ad⟩;exact⟨e',.inr h1,ad⟩
     rintro ⟨e',rfl|h1,ad,az⟩
     ·rw[h]at ad;cases ad
     exact⟨e',h1,ad,az⟩
def k5(o:Oper):aa Nat:=Fc o.after.toList
def Fe(fs:aa (Nat×Nat×J)):aa Nat:=fs.map (·.2.1)
structure uV(fs:List (Nat×Nat×J))(E:List (Nat×J)):Prop where
 Od:(Fe fs).Nodup
 out:∀t∈Fe fs,look E t=none
def uV.app{fs gs:aa (Nat×Nat×J)}{M:aa (Nat×J)}(h:uV (gs++fs) M):uV fs M:=⟨by have:=h.Od;unfold Fe at this;rw[mh]at this;exact(q8.1 this).2.1,λt bD=>h.out t (by unfold Fe;rw[mh];exact cF.2 (.inr bD))⟩
def MD{α β:Type}{f:α->β}:∀{l:aa α},(l.map f).Nodup->∀{x y:α},x∈l->y∈l->f x=f y->x=y
 | z::r,h,x,y,au,aT,e=>by
   obtain⟨h1,ad⟩:=pK.1 h;rcases dP.1 au with ar|au
   ·rcases dP.1 aT with aS|aT
    ·rw[ar,aS]
    exact absurd (ig.2 ⟨y,aT,by rw[<-e,ar]⟩) h1
   rcases dP.1 aT with aS|aT
   ·exact absurd (ig.2 ⟨x,au,by rw[e,aS]⟩) h1
   exact MD ad au aT e
def nY{ls:Nat->Bool}{E:aa (Nat×J)}{t:Nat}{τ:J}:∀{fs:aa (Nat×Nat×J)},uV fs E->(look (mH ls E fs) t=some τ↔(∃i,ls i=true∧(i,t,τ)∈fs)∨look E t=some τ)
 |[],_=>by simp[mH]
 | x::r,ok=>by
   have h1:=pK.1 ok.Od;have cj:=nY (ls:=ls) (t:=t) (τ:=τ) (fs:=r) ⟨h1.2,λt bD=>ok.out t (gA _ bD)⟩;have aF:look E t=some τ->x.2.1≠t:=λh e=>by rw[<-e,ok.out _ jC]at h;cases h
   have aG:∀i,(i,t,τ)∈r->x.2.1≠t:=λi h e=>h1.1 (by show x.2.1∈_;rw[e];exact ig.2 ⟨_,h,rfl⟩);unfold mH;cases al:ls x.1 with
   | false=>
     simp only[cond_false,cj]
     refine or_congr ⟨λ⟨i,h1,ad⟩=>⟨i,h1,gA _ ad⟩,λ⟨i,h1,ad⟩=>?_⟩ Iff.rfl
     rcases dP.1 ad with e|ad
     ·rw[<-e,h1]at al;cases al
     exact⟨i,h1,ad⟩
   | true=>
     simp only[cond_true,look]
     cases hb:Nat.beq x.2.1 t with
     | true=>
       have e:=ff.1 hb
       simp only[cond_true,gk]
       constructor
       ·intro h;exact .inl ⟨x.1,al,by rw[<-e,<-h];exact jC⟩
       rintro (⟨i,_,ad⟩|h)
       ·rcases dP.1 ad with aS|ad
        ·rw[<-aS]
        exact absurd e (aG i ad)
       exact absurd e (aF h)
     | false=>
       have e:x.2.1≠t:=λe=>by rw[e,nk]at hb;cases hb
       simp only[cond_false,cj]
       refine or_congr ⟨λ⟨i,h1,ad⟩=>⟨i,h1,gA _ ad⟩,λ⟨i,h1,ad⟩=>?_⟩ Iff.rfl
       rcases dP.1 ad with aS|ad
       ·exact absurd (by rw[<-aS]) e
       exact⟨i,h1,ad⟩
def SD{us ls:Nat->Bool}{E:aa (Nat×J)}{t:Nat}{τ:J}{fs:aa (Nat×Nat×J)}(hu:∀i,us i=true->ls i=true)(ok:uV fs E)(h:look (mH us E fs) t=some τ):look (mH ls E fs) t=some τ:=
 (nY ok).2 (((nY ok).1 h).imp (λ⟨i,h1,ad⟩=>⟨i,hu i h1,ad⟩) id)
def ajC{ls ls':Nat->Bool}{E:aa (Nat×J)}{i t u:Nat}{τ σ:J}{fs:aa (Nat×Nat×J)}(BO:∀j,ls' j=true->ls j=true∨j=i)(ok:uV fs E)(hm:(i,t,τ)∈fs)(lU:(fs.map (·.1)).Nodup)(h:look (mH ls' E fs) u=some σ):look ((t,τ)::mH ls E fs) u=some σ:=by
 simp only[look];cases hb:Nat.beq t u with
 | true=>
   have e:=ff.1 hb
   subst e
   rcases (nY ok).1 h with⟨j,_,ad⟩|ad
   ·have:=MD ok.Od hm ad I
    cases this;rfl
   rw[ok.out t (ig.2 ⟨_,hm,rfl⟩)]at ad;cases ad
 | false=>
   refine(nY ok).2 (((nY ok).1 h).imp (λ⟨j,h1,ad⟩=>⟨j,?_,ad⟩) id)
   rcases BO j h1 with az|az
   ·exact az
   subst az
   have:=MD lU hm ad I
   cases this
   rw[nk]at hb;cases hb
def DW{t:Nat}{B:aa (Nat×J)}:∀{A:aa (Nat×J)},look (A++B) t=match look A t with |some τ=>some τ|none=>look B t
 |[]=>rfl
 | x::r=>by
   simp only[List.cons_append,look];cases Nat.beq x.1 t with
   |true=>rfl
   |false=>exact DW
def al5{ls:Nat->Bool}{E M:aa (Nat×J)}{t:Nat}{τ:J}{fs:aa (Nat×Nat×J)}(ok:uV fs (M++E))(h:look (mH ls (M++E) fs) t=some τ):look (M++mH ls E fs) t=some τ:=by
 have out:∀t∈Fe fs,look M t=none∧look E t=none:=λt bD=>by
  have h:=ok.out t bD;rw[DW]at h;cases oU:look M t with
  |some τ=>rw[oU]at h;cases h
  |none=>rw[oU]at h;exact⟨rfl,h⟩
 have adz:uV fs E:=⟨ok.Od,λt bD=>(out t bD).2⟩;rw[DW];rcases (nY ok).1 h with⟨i,h1,ad⟩|h1
 ·rw[(out t (ig.2 ⟨_,ad,rfl⟩)).1];exact(nY adz).2 (.inl ⟨i,h1,ad⟩)
 rw[DW]at h1;cases oU:look M t with
 |some σ=>rw[oU]at h1;exact h1
 |none=>rw[oU]at h1;exact(nY adz).2 (.inr h1)
section
variable{c:cM}{E:aa (Nat×J)}{L:aa aK}{l:aa Oper}{Q:Exit->Act->bn->Prop}
structure Cg(l:List Oper)(ew eS:List Nat)(ls:Array Bool):Prop where
 size:ls.size=l.length
 eq:∀i,i∈ew->ls.getD i false=e7 i eS
 xH:∀i o,l[i]? =some o->ls.getD i false=true->∀d∈k5 o,ls.getD d false=true
def zg(l:aa Oper)(ls:Array Bool):Nat:=((List.range l.length).filter λj=> !ls.getD j false).length
def gQ(c:cM)(l:aa Oper)(Q:Exit->Act->bn->Prop)(ew eS:aa Nat)(fs:aa (Nat×Nat×J))(E:aa (Nat×J))(L:aa aK):Prop:=
 (uV fs E∧∀x∈fs,e7 x.1 ew=false)∧∀m ls a W,Cg l ew eS ls->zg l ls<=m->bO c (mH (λi=>ls.getD i false) E fs) L a W->wpAnyIn c.F 9 c.P .any l.toArray Q m ls a W
def zt(c:cM)(l:aa Oper)(E:aa (Nat×J))(L:aa aK)(fs:aa (Nat×Nat×J)):aa Nat->Prop
 |[]=>True
 |i::r=>(match l[i]?,Bu i fs with |some o,some τ=>ia c l.toArray (mH (λj=>e7 j (k5 o)) E fs) L o τ|_,_=>False)∧zt c l E L fs r
def zt.get{fs:aa (Nat×Nat×J)}:∀{nl:aa Nat},zt c l E L fs nl->∀{i:Nat},i∈nl->∃o τ,l[i]? =some o∧Bu i fs=some τ∧ia c l.toArray (mH (λj=>e7 j (k5 o)) E fs) L o τ
 | j::r,h,i,aq=>by
   rcases dP.1 aq with rfl|aq
   ·have h1:=h.1;cases ad:l[i]? with
    |none=>rw[ad]at h1;exact h1.elim
    | some o=>
      cases az:Bu i fs with
      |none=>rw[ad,az]at h1;exact h1.elim
      |some τ=>rw[ad,az]at h1;exact⟨o,τ,rfl,rfl,h1⟩
   exact zt.get h.2 aq
def ir(c:cM)(l:aa Oper)(Q:Exit->Act->bn->Prop)(ew eS:aa Nat)(fs:aa (Nat×Nat×J))(E:aa (Nat×J))(L:aa aK)(k:Nat):Prop:=
 uV fs E->∀m ls o,l[k]? =some o->Cg l ew eS ls->ls.getD k false=false->(∀d∈k5 o,ls.getD d false=true)->zg l (ls.setIfInBounds k true)<=m->
  ag c l.toArray (qk (wpAnyIn c.F 9 c.P .any l.toArray Q m (ls.setIfInBounds k true)) Q) [o] (mH (λi=>ls.getD i false) E fs) L
def zu(c:cM)(l:aa Oper)(Q:Exit->Act->bn->Prop)(ew eS:aa Nat)(fs:aa (Nat×Nat×J))(E:aa (Nat×J))(L:aa aK):aa Nat->Prop
 |[]=>True
 |k::r=>ir c l Q ew eS fs E L k∧zu c l Q ew eS fs E L r
def zu.get{ew eS:aa Nat}{fs:aa (Nat×Nat×J)}:∀{el:aa Nat},zu c l Q ew eS fs E L el->∀{k:Nat},k∈el->ir c l Q ew eS fs E L k
 | _::_,h,k,hk=>by
   rcases dP.1 hk with rfl|hk
   ·exact h.1
   exact zu.get h.2 hk
def JK(l:aa Oper):aa Nat->aa Nat->Bool
 |_,[]=>true
 |acc,i::r=>(acc.any λk=>match l[k]? with |some o=>e7 i (k5 o)|none=>false)&&JK l (i::acc) r
def P4{ls:Array Bool}(hd:∀i o,l[i]? =some o->ls.getD i false=true->∀d∈k5 o,ls.getD d false=true):∀{pD acc:aa Nat},JK l acc pD=true->(∀k∈acc,ls.getD k false=true)->∀i∈pD,ls.getD i false=true
 | i::r,acc,h,aY,j,aB=>by
   simp only[JK,gl,ot]at h;obtain⟨⟨k,hk,h1⟩,ad⟩:=h;have aq:ls.getD i false=true:=by
    cases a6:l[k]? with
    |none=>rw[a6]at h1;cases h1
    |some o=>rw[a6]at h1;exact hd k o a6 (aY k hk) i (nt.1 h1)
   rcases dP.1 aB with rfl|aB
   ·exact aq
   exact P4 hd ad (λk hk=>by rcases dP.1 hk with rfl|hk;exact aq;exact aY k hk) j aB
def Ff(l:aa Oper):aa Nat->aa Nat->Bool
 |_,[]=>true
 |acc,i::r=>(match l[i]? with |some o=>acc.any λk=>e7 k (k5 o)|none=>false)&&Ff l (i::acc) r
def Mh{ls:Array Bool}(hd:∀i o,l[i]? =some o->ls.getD i false=true->∀d∈k5 o,ls.getD d false=true):∀{va acc:aa Nat},Ff l acc va=true->(∀k∈acc,ls.getD k false=false)->∀i∈va,ls.getD i false=false
 | i::r,acc,h,aY,j,aB=>by
   simp only[Ff,gl]at h;obtain⟨h1,ad⟩:=h;have aq:ls.getD i false=false:=by
    cases a6:l[i]? with
    |none=>rw[a6]at h1;cases h1
    | some o=>
      rw[a6,ot]at h1
      obtain⟨k,hk,az⟩:=h1
      cases al:ls.getD i false with
      |false=>rfl
      |true=>have:=hd i o a6 al k (nt.1 az);rw[aY k hk]at this;cases this
   rcases dP.1 aB with rfl|aB
   ·exact aq
   exact Mh hd ad (λk hk=>by rcases dP.1 hk with rfl|hk;exact aq;exact aY k hk) j aB
def yP(l:aa Oper)(ew eS:aa Nat):aa Nat->aa Nat->aa Nat
 |[],acc=>acc
 |i::r,acc=>yP l ew eS r (match l[i]? with |some o=>(bif (e7 i ew&& !e7 i eS)||(k5 o).any (λd=>e7 d acc)then i::acc else acc)|none=>acc)
def X0{l:aa Oper}{ew eS:aa Nat}{ls:Array Bool}(he:∀i,i∈ew->ls.getD i false=e7 i eS)(hd:∀i o,l[i]? =some o->ls.getD i false=true->∀d∈k5 o,ls.getD d false=true):∀{is acc:aa Nat},(∀k∈acc,ls.getD k false=false)->∀k∈yP l ew eS is acc,ls.getD k false=false
 |[],acc,aY,k,hk=>aY k hk
 | i::r,acc,aY,k,hk=>by
   rw[yP]at hk;revert hk;generalize ard:(match l[i]? with |some o=>(bif (e7 i ew&& !e7 i eS)||(k5 o).any (λd=>e7 d acc)then i::acc else acc)|none=>acc)=auP;intro hk;refine X0 he hd (λj aB=>?_) k hk;rw[<-ard]at aB;cases a6:l[i]? with
   |none=>rw[a6]at aB;exact aY j aB
   | some o=>
     rw[a6]at aB
     simp only at aB
     cases ae:(e7 i ew&& !e7 i eS)||(k5 o).any (λd=>e7 d acc)with
     |false=>rw[ae]at aB;exact aY j aB
     | true=>
       rw[ae]at aB
       rcases dP.1 aB with rfl|aB
       ·rcases Bool.or_eq_true_iff.1 ae with h|h
        ·simp only[gl,r7]at h
         rw[he j (nt.1 h.1),h.2]
        obtain⟨d,E9,asY⟩:=ot.1 h
        cases mA:ls.getD j false with
        |false=>rfl
        |true=>have:=hd j o a6 mA d E9;rw[aY d (nt.1 asY)]at this;cases this
       exact aY j aB
def NQ(l:aa Oper)(vb:Nat)(ew eS pD nl el:aa Nat)(ks:aa (Nat×Nat))(es:aa Nat):Bool:=
 (List.range l.length).all (λi=>match l[i]? with
  |none=>false
  | some o=>(k5 o).all (λd=>Nat.blt d i)&&(bif e7 i ew then e7 i eS||e7 i el||(k5 o).any (λd=>e7 d (yP l ew eS (List.range l.length) []))
    else e7 i pD||(k5 o).any (λd=>e7 d (yP l ew eS (List.range l.length) []))||(e7 i nl&&ks.any λx=>Nat.beq x.1 i&&(match o.dst with |some t=>Nat.beq t x.2|none=>false))))&&
 JK l eS pD&&ew.all (λi=>Nat.blt i l.length)&&eS.all (λi=>e7 i ew)&&ks.all (λx=>Nat.blt x.1 l.length)&&decide (ks.map (·.2)).Nodup&&(ks.map (·.1)).all (λi=> !e7 i ew)&&ks.all (λx=>Nat.blt x.2 vb&& !e7 x.2 es)&&decide (ks.map (·.1)).Nodup
def Qb{t:Nat}:∀{E:aa (Nat×J)},e7 t (E.map (·.1))=false->look E t=none
 |[],_=>rfl
 | x::r,h=>by
   simp only[nT,e7]at h;cases hb:Nat.beq x.1 t with
   |true=>rw[hb]at h;cases h
   |false=>rw[hb]at h;simp only[look,hb,cond_false];exact Qb h
def X1{i:Nat}{τ:J}:∀{fs:aa (Nat×Nat×J)},Bu i fs=some τ->∃t,(i,t,τ)∈fs
 | x::r,h=>by
   unfold Bu at h;cases hb:Nat.beq x.1 i with
   | true=>
     rw[hb]at h
     have e:x.2.2=τ:=by simpa using h
     have:=ff.1 hb
     subst this e
     exact⟨x.2.1,jC⟩
   |false=>rw[hb]at h;obtain⟨t,bD⟩:=X1 h;exact⟨t,gA _ bD⟩
def bO.EM{E':aa (Nat×J)}{a:Act}{W:bn}(s:bO c E L a W)(h:∀t τ,look E' t=some τ->look E t=some τ):bO c E' L a W:=s.less λt τ al=>⟨τ,h t τ al,λ_ _ _ h=>h⟩
def gQ.core{vb:Nat}{ew eS:aa Nat}{fs:aa (Nat×Nat×J)}{ks:aa (Nat×Nat)}{es:aa Nat}(pD nl el:aa Nat)(av:zt c l E L fs nl)(aF:zu c l Q ew eS fs E L el)
 (oK:(∀k∈ew,k∈eS)->an c Q .normal (mH (λ_=>true) E fs) L) (ho:fs.map (λx=>(x.1,x.2.1))=ks) (kV:E.map (·.1)=es) (B0:c.n=vb) (eB:NQ l vb ew eS pD nl el ks es=true):gQ c l Q ew eS fs E L:=by
 subst ho kV B0
 simp only[NQ,gl,lj,e5,sV]at eB
 obtain⟨⟨⟨⟨⟨⟨⟨⟨n3,T5⟩,sy⟩,sE⟩,tL⟩,lU⟩,df⟩,qW⟩,E6⟩:=eB
 have ok:uV fs E:=⟨by simpa[Fe,Function.comp_def]using lU,λt bD=>by
  obtain⟨x,au,rfl⟩:=ig.1 bD;have:=qW (x.1,x.2.1) (ig.2 ⟨x,au,rfl⟩);exact Qb (by simpa using this.2)⟩
 have E6:(fs.map (·.1)).Nodup:=by simpa[Function.comp_def]using E6
 have BU:∀i,i<l.length->∃o,l[i]? =some o∧(∀d∈k5 o,d<i)∧((bif e7 i ew then e7 i eS||e7 i el||(k5 o).any (λd=>e7 d (yP l ew eS (List.range l.length) []))
  else e7 i pD||(k5 o).any (λd=>e7 d (yP l ew eS (List.range l.length) []))||(e7 i nl&&(fs.map λx=>(x.1,x.2.1)).any λx=>Nat.beq x.1 i&&(match o.dst with |some t=>Nat.beq t x.2|none=>false)))=true):=λi aq=>by
  have h:=n3 i (lH.2 aq)
  cases a6:l[i]? with
  |none=>rw[a6]at h;cases h
  | some o=>
    rw[a6]at h
    simp only[gl,lj]at h
    exact⟨o,rfl,λd hd=>by simpa using h.1 d hd,h.2⟩
 have fK:∀(ls:Array Bool),Cg l ew eS ls->∀(o:Oper),(∀d∈k5 o,ls.getD d false=true)->(k5 o).any (λd=>e7 d (yP l ew eS (List.range l.length) []))=false:=λls inv o hd=>by
  rw[wk];intro d E9 h;have:=X0 inv.eq inv.xH (by simp) d (nt.1 h);rw[hd d E9]at this;cases this
 have ca:∀(ls:Array Bool),Cg l ew eS ls->∀i,ls.getD i false=true->i<l.length:=λls inv i h=>by
  rw[<-inv.size];rcases sW i ls.size with cW|cW
  ·exact cW
  simp[Vg cW]at h
 have sk:∀(ls:Array Bool) (a:Act) (W:bn),Cg l ew eS ls->(∀i,i<l.length->ls.getD i false=true)->bO c (mH (λi=>ls.getD i false) E fs) L a W->Region.ready .any l.toArray ls=[]∧Q .normal a W:=λls a W inv h st=>by
  refine⟨?_,oK (λk hk=>?_) a W (st.EM λt τ al=>(nY ok).2 (((nY ok).1 al).imp (λ⟨i,_,ad⟩=>⟨i,?_,ad⟩) id))⟩
  ·rw[List.eq_nil_iff_forall_not_mem];intro j aB;obtain⟨h1,o,a6,_⟩:=x5.1 aB;have JH:j<l.length:=by simpa using (sP.1 a6).1
   have:=getD_both h1;rw[h j JH]at this;cases this
  ·have:=inv.eq k hk;rw[h k (by simpa using sy k hk)]at this;exact nt.1 this.symm
  have:=tL (i,t) (ig.2 ⟨_,ad,rfl⟩);exact h i (by simpa using this)
 have Iz:∀(ls:Array Bool),Cg l ew eS ls->(∀i,i<l.length->ls.getD i false=true)∨∃i,i<l.length∧ls.getD i false=false:=λls inv=>by
  by_cases h:∃i,i<l.length∧ls.getD i false=false
  ·exact .inr h
  refine .inl λi aq=>?_;cases al:ls.getD i false with
  |true=>rfl
  |false=>exact absurd ⟨i,aq,al⟩ h
 refine⟨⟨ok,λx au=>?_⟩,λm=>?_⟩
 ·have:=df x.1 (ig.2 ⟨x,au,rfl⟩)
  simpa using this
 induction m with
 | zero=>
   intro ls a W inv hm st
   rcases Iz ls inv with h|⟨i,aq,h⟩
   ·exact sk ls a W inv h st
   have:i∈(List.range l.length).filter λj=> !ls.getD j false:=tZ.2 ⟨lH.2 aq,by rw[h];rfl⟩
   unfold zg at hm
   rw[FD.1 (Nat.le_zero.1 hm)]at this;cases this
 | succ m cj=>
   intro ls a W inv hm st
   refine⟨λbC=>?_,λi aq=>?_⟩
   ·rcases Iz ls inv with h|⟨i,aq,h⟩
    ·exact(sk ls a W inv h st).2
    exfalso
    have key:∀d i,i<=d->i<l.length->ls.getD i false=true:=by
     intro d;induction d with
     | zero=>
       intro i zd aq
       cases al:ls.getD i false with
       |true=>rfl
       | false=>
         obtain⟨o,a6,hd,_⟩:=BU i aq
         have:i∈Region.ready .any l.toArray ls:=x5.2 ⟨getD_in (by rw[inv.size];exact aq) al,o,by simpa using a6,λe he hb=>by
          have:=hd e.on (H4.2 ⟨e,by simpa using he,hb,rfl⟩);omega⟩
         rw[bC]at this;cases this
     | succ d TZ=>
       intro i zd aq
       cases al:ls.getD i false with
       |true=>rfl
       | false=>
         obtain⟨o,a6,hd,_⟩:=BU i aq
         have:i∈Region.ready .any l.toArray ls:=x5.2 ⟨getD_in (by rw[inv.size];exact aq) al,o,by simpa using a6,λe he hb=>by
          have h1:=hd e.on (H4.2 ⟨e,by simpa using he,hb,rfl⟩);exact TZ e.on (by omega) (by omega)⟩
         rw[bC]at this;cases this
    rw[key i i (iV _) aq]at h;cases h
   obtain⟨my,o,a6,QS⟩:=x5.1 aq
   have my:=getD_both my
   have qS:l[i]? =some o:=by simpa using a6
   have iG:i<l.length:=(iu.1 qS).1
   have rP:∀d∈k5 o,ls.getD d false=true:=λd hd=>by
    obtain⟨e,h1,ad,rfl⟩:=H4.1 hd;exact QS e (by simpa using h1) ad
   have iW:∀j,(ls.setIfInBounds i true).getD j false=true->ls.getD j false=true∨j=i:=λj aB=>by
    by_cases e:i=j
    ·exact .inr e.symm
    rw[getD_set_ne false e]at aB;exact .inl aB
   have vN:zg l (ls.setIfInBounds i true)<=m:=by
    have:zg l (ls.setIfInBounds i true)<zg l ls:=by
     refine Zz (λj=> !ls.getD j false) (λj=> !(ls.setIfInBounds i true).getD j false) i (by simp only[my];rfl) (by simp[inv.size,iG]) (λj aB=>?_) l.length iG;cases mA:ls.getD j false with
     |false=>rfl
     |true=>simp only[getD_set_true mA]at aB;cases aB
    omega
   obtain⟨cC,e9,_,Ev⟩:=BU i iG
   rw[qS]at e9;cases e9
   cases en:e7 i ew with
   | true=>
     rw[en]at Ev
     simp only[cond_true,qn]at Ev
     rcases Ev with(h1|h1)|h1
     ·have:=inv.eq i (nt.1 en)
      rw[my,h1]at this;cases this
     ·exact PQ a6 (zu.get aF (nt.1 h1) ok m ls o qS inv my rP vN a W st)
     rw[fK ls inv o rP]at h1;cases h1
   | false=>
     rw[en]at Ev
     simp only[cond_false,qn]at Ev
     rcases Ev with(h1|h1)|h1
     ·have:=P4 inv.xH T5 (λk hk=>by rw[inv.eq k (nt.1 (sE k hk))];exact nt.2 hk) i (nt.1 h1)
      rw[my]at this;cases this
     ·rw[fK ls inv o rP]at h1;cases h1
     simp only[gl,ot]at h1
     obtain⟨h1,⟨x,au,iE,oe⟩⟩:=h1
     obtain⟨y,aT,rfl⟩:=ig.1 au
     obtain⟨gH,τ,p5,aW,hH⟩:=zt.get av (nt.1 h1)
     rw[qS]at p5;cases p5
     obtain⟨t,bD⟩:=X1 aW
     have asZ:=ff.1 iE
     have:=MD E6 aT bD asZ
     subst this
     have acu:o.dst=some t:=by
      cases hd:o.dst with
      |none=>rw[hd]at oe;cases oe
      |some z=>rw[hd]at oe;rw[ff.1 oe]
     have aM:Nat.blt t c.n=true:=by
      have:=qW (i,t) au;simp only[gl]at this;exact this.1
     have st2:bO c (mH (λj=>e7 j (k5 o)) E fs) L a W:=st.EM λu σ h=>SD (λj aB=>rP j (nt.1 aB)) ok h
     have inv2:Cg l ew eS (ls.setIfInBounds i true):=⟨by rw[Ov];exact inv.size,λk hk=>(by
      rw[getD_set_ne false (λe=>by subst e;rw[nt.2 hk]at en;cases en)];exact inv.eq k hk),λk as0 iF hk d hd=>(by
      rcases iW k hk with h|rfl
      ·exact getD_set_true (inv.xH k as0 iF h d hd)
      rw[qS]at iF;cases iF;exact getD_set_true (rP d hd))⟩
     have fin:∀v W',Fr [] W W'->τ.holds (ks L++c.b8) W' v->wpAnyIn c.F 9 c.P .any l.toArray Q m (ls.setIfInBounds i true) (a.put o.dst v) W':=λv W' f bb=>by
      refine cj _ _ _ inv2 vN ?_;rw[acu];exact((st.world f).put (by simpa using aM) bb).EM λu σ h=>ajC iW ok bD E6 h
     have adA:=hH a W st2
     unfold wpOpIn
     simp only[a6]
     split
     ·rename_i hw
      exact h4.wpIn (adA.1 hw) λv W' ⟨f,bb⟩=>fin v W' f bb
     rename_i hw
     exact⟨λ_ _=>trivial,fin undef W (.refl _ _) (adA.2 (by simpa using hw))⟩
def ir.of{ew eS:aa Nat}{fs:aa (Nat×Nat×J)}{k:Nat}{γ:Type}(va:γ->aa (Nat×J))(aef:γ->aa (Nat×Nat×J))(L':γ->aa aK){ks:aa Nat}(S:∀g,gQ c l Q ew (k::eS) (aef g++fs) (va g++E) (L' g))
 (h:∀o,l[k]? =some o->∀(dW:Exit->Act->bn->Prop) (ji:aa (Nat×J)),(∀{t τ},look (mH (λj=>e7 j (k5 o)) E fs) t=some τ->look ji t=some τ)->(∀g,an c dW .normal (va g++ji) (L' g))->ag c l.toArray dW [o] ji L)
 (hk:e7 k ew=true:=by rfl) (ho:∀g,(aef g).map (·.1)=ks:=by exact λ_=>rfl) (eB:Ff l [k] ks=true:=by kernel_rfl):ir c l Q ew eS fs E L k:=λok m ls o a6 inv my rP vN=>by
 refine h o a6 _ _ (λh=>SD (λj aB=>rP j (nt.1 aB)) ok h) λg a W st=>?_
 obtain⟨⟨JL,T6⟩,cL⟩:=S g
 have tL:k<ls.size:=by rw[inv.size];exact(iu.1 a6).1
 have iW:∀j,(ls.setIfInBounds k true).getD j false=true->ls.getD j false=true∨j=k:=λj aB=>by
  by_cases e:k=j
  ·exact .inr e.symm
  rw[getD_set_ne false e]at aB;exact .inl aB
 refine cL m _ a W ⟨by rw[Ov];exact inv.size,λj aB=>?_,λj wg od aB d hd=>?_⟩ vN (st.EM λt τ al=>al5 JL.app ((nY JL.app).2 (((nY JL).1 al).imp (λ⟨i,h1,ad⟩=>?_) id)))
 ·by_cases e:k=j
  ·subst e
   simp[tL,e7]
  rw[getD_set_ne false e,inv.eq j aB]
  show _=bif Nat.beq k j then true else e7 j eS
  cases hb:Nat.beq k j with
  |false=>rfl
  |true=>exact absurd (ff.1 hb) e
 ·rcases iW j aB with h|rfl
  ·exact getD_set_true (inv.xH j wg od h d hd)
  rw[a6]at od;cases od;exact getD_set_true (rP d hd)
 have mZ:i≠k:=λe=>by have:=T6 _ ad;rw[e,hk]at this;cases this
 have ze:=(iW i h1).resolve_right mZ
 rcases cF.1 ad with az|az
 ·have:=Mh inv.xH eB (λj aB=>by rw[hx.1 aB];exact my) i (by rw[<-ho g];exact ig.2 ⟨_,az,rfl⟩)
  rw[ze]at this;cases this
 exact⟨i,ze,az⟩
inductive vc(fs:List (Nat×Nat×J))(ks:List Nat):List (Nat×Nat×J)->Prop
 |nil:vc fs ks []
 |new {i t:Nat} {τ:J} {r:List (Nat×Nat×J)}:e7 i ks=true->vc fs ks r->vc fs ks ((i,t,τ)::r)
 |fi {i t:Nat} {τ:J} {r:List (Nat×Nat×J)}:No i fs=some (t,τ)->vc fs ks r->vc fs ks ((i,t,τ)::r)
def X2{i t:Nat}{τ:J}:∀{fs:aa (Nat×Nat×J)},No i fs=some (t,τ)->(i,t,τ)∈fs
 | x::r,h=>by
   unfold No at h;cases hb:Nat.beq x.1 i with
   | true=>
     rw[hb]at h
     have e:x.2=(t,τ):=by simpa using h
     have:=ff.1 hb
     subst this
     rw[<-e];exact jC
   |false=>rw[hb]at h;exact gA _ (X2 h)
def vc.mem{fs:aa (Nat×Nat×J)}{ks:aa Nat}{i t:Nat}{τ:J}:∀{gs:aa (Nat×Nat×J)},vc fs ks gs->(i,t,τ)∈gs->i∈ks∨(i,t,τ)∈fs
 | _,.new h1 ad,hm=>by
   rcases dP.1 hm with e|hm
   ·cases e;exact .inl (nt.1 h1)
   exact ad.mem hm
 | _,.fi h1 ad,hm=>by
   rcases dP.1 hm with e|hm
   ·cases e;exact .inr (X2 h1)
   exact ad.mem hm
def ir.to{ew eS T7:aa Nat}{fs:aa (Nat×Nat×J)}{k:Nat}{γ:Type}{T8:γ->aa (Nat×Nat×J)}{ji:γ->aa (Nat×J)}{L2:γ->aa aK}(ks:aa Nat)(va:γ->aa (Nat×J))(S:∀g,gQ c l Q ew T7 (T8 g) (ji g) (L2 g))
 (h:∀o,l[k]? =some o->∀(dW:Exit->Act->bn->Prop) (US:aa (Nat×J)),(∀{t τ},look (mH (λj=>e7 j (k5 o)) E fs) t=some τ->look US t=some τ)->(∀g,an c dW .normal (va g++US) (L2 g))->ag c l.toArray dW [o] US L)
 (hk:e7 k ew=true:=by rfl) (sE:(ew.all λi=>e7 i T7==e7 i (k::eS))=true:=by rfl) (ku:∀g,vc fs ks (T8 g):=by intro _;repeat (first|exact vc.nil|refine vc.fi I ?_|refine vc.new I ?_)) (aF:∀g,fP (va g++E) (ji g):=by intro _;repeat (first|exact fP.nil|refine fP.same I ?_))
 (hd:∀g,((T8 g).all λx=> !e7 x.2.1 ((va g).map (·.1)))=true:=by exact λ_=>rfl) (eB:Ff l [k] ks=true:=by kernel_rfl):ir c l Q ew eS fs E L k:=λok m ls o a6 inv my rP vN=>by
 refine h o a6 _ _ (λh=>SD (λj aB=>rP j (nt.1 aB)) ok h) λg a W st=>?_
 obtain⟨⟨JL,T6⟩,cL⟩:=S g
 have tL:k<ls.size:=by rw[inv.size];exact(iu.1 a6).1
 have iW:∀j,(ls.setIfInBounds k true).getD j false=true->ls.getD j false=true∨j=k:=λj aB=>by
  by_cases e:k=j
  ·exact .inr e.symm
  rw[getD_set_ne false e]at aB;exact .inl aB
 refine cL m _ a W ⟨by rw[Ov];exact inv.size,λj aB=>?_,λj wg od aB d hd=>?_⟩ vN (st.less λt τ al=>?_)
 ·have ad:e7 j T7=e7 j (k::eS):=by simpa using List.all_eq_true.1 sE j aB
  rw[ad]
  by_cases e:k=j
  ·subst e
   simp[tL,e7]
  rw[getD_set_ne false e,inv.eq j aB]
  show _=bif Nat.beq k j then true else e7 j eS
  cases hb:Nat.beq k j with
  |false=>rfl
  |true=>exact absurd (ff.1 hb) e
 ·rcases iW j aB with h|rfl
  ·exact getD_set_true (inv.xH j wg od h d hd)
  rw[a6]at od;cases od;exact getD_set_true (rP d hd)
 rcases (nY JL).1 al with⟨i,h1,ad⟩|ad
 ·have mZ:i≠k:=λe=>by have:=T6 _ ad;rw[e,hk]at this;cases this
  have ze:=(iW i h1).resolve_right mZ
  have NR:look (va g) t=none:=Qb (by simpa using List.all_eq_true.1 (hd g) _ ad)
  refine⟨τ,?_,λ_ _ _ h=>h⟩
  rw[DW,NR]
  rcases (ku g).mem ad with az|az
  ·have:=Mh inv.xH eB (λj aB=>by rw[hx.1 aB];exact my) i az
   rw[ze]at this;cases this
  exact(nY ok).2 (.inl ⟨i,ze,az⟩)
 obtain⟨oN,az,aV⟩:=(aF g).look t τ ad
 refine⟨oN,?_,aV⟩
 rw[DW]at az⊢
 cases aM:look (va g) t with
 |some σ=>rw[aM]at az;exact az
 |none=>rw[aM]at az;exact(nY ok).2 (.inr az)
def gQ.cut{γ:Type}{ew eS pe':aa Nat}{fs:aa (Nat×Nat×J)}(adB:γ->aa (Nat×Nat×J))(E':γ->aa (Nat×J))(L':γ->aa aK)(h1:∀g,gQ c l Q ew pe' (adB g) (E' g) (L' g))
 (ad:(∀g,gQ c l Q ew pe' (adB g) (E' g) (L' g))->gQ c l Q ew eS fs E L):gQ c l Q ew eS fs E L:=ad h1
def gQ.mid{vb:Nat}{ew eS:aa Nat}{fs:aa (Nat×Nat×J)}{ks:aa (Nat×Nat)}{es:aa Nat}(pD nl el:aa Nat)(av:zt c l E L fs nl)(aF:zu c l Q ew eS fs E L el)(aM:ew.all (λk=>e7 k eS)=false:=by rfl)
 (ho:fs.map (λx=>(x.1,x.2.1))=ks:=by rfl) (kV:E.map (·.1)=es:=by rfl) (B0:c.n=vb:=by rfl) (eB:NQ l vb ew eS pD nl el ks es=true:=by kernel_rfl):gQ c l Q ew eS fs E L:=
 .core pD nl el av aF (λh=>absurd (show ew.all (λk=>e7 k eS)=true from lj.2 λk hk=>nt.2 (h k hk)) (by rw[aM];simp)) ho kV B0 eB
def ay.xl{la:Nat}(hm:c.P.follows .mixedOrders=true)(ew:aa Nat)(fs:aa (Nat×Nat×J))(h:gQ c l Q ew [] fs E L):ay c Q (.region la l.toArray true) E L:=λa W s=>by
 refine wpIn_region_any hm ?_;have bU:∀i,(Array.replicate l.toArray.size false).getD i false=false:=λi=>by
  rcases sW i l.length with h|h <;> simp[h]
 have:=h.2 l.toArray.size (Array.replicate l.toArray.size false) a W.drew ⟨by simp,λi _=>bU i,λi o _ h=>by rw[bU]at h;cases h⟩ ?_ ((s.world (Fr.drew W)).EM λt τ al=>?_)
 ·simpa using this
 ·unfold zg;exact mi (vj _ _) (by simp)
 rcases (nY h.1.1).1 al with⟨i,h1,_⟩|h1
 ·rw[bU]at h1;cases h1
 exact h1
def aix{F:Fence}{n:Nat}{P:Program}{o:Oper}{a:Act}{next:Act->bn->Prop}{K:Act->bn->Prop}{Q:Exit->Act->bn->Prop}:∀{r:Result Next},o.uponIn F n P a next Q r->o.uponIn F n P a next (qk K Q) r:=λ{r} h=>by
 cases r with
 | ok x w=>
   cases x <;> simp only[Oper.uponIn]at h⊢ <;> first
    |exact h
    |exact⟨h.1,CallsIn.mono h.2 (λe vV he=>by cases e <;> exact he)⟩
    |exact⟨h.1,RoundIn.mono h.2 (λe vV he=>by cases e <;> exact he)⟩
 |halt x w=>cases x <;> simp only[Oper.uponIn]at h⊢ <;> exact h
def al6{F:Fence}{n:Nat}{P:Program}{ops:Array Oper}{Q:Exit->Act->bn->Prop}{o:Oper}{rest:aa Oper}{a:Act}{w:bn}{K:Act->bn->Prop}(tT:∀a w,wpListIn F n P ops Q rest a w->K a w)(h:wpListIn F n P ops Q (o::rest) a w):wpListIn F n P ops (qk K Q) [o] a w:=by
 unfold wpListIn at h⊢;split
 ·rename_i hw;rw[bh hw]at h;have h:=Oper.wpIn_mono tT h;exact⟨h.1,aix h.2⟩
 rename_i hw;rw[bf hw]at h;exact⟨h.1,tT _ _ h.2⟩
def WJ{F:Fence}{n:Nat}{P:Program}{md:Region.Mode}{ops:Array Oper}{u2:Exit->Act->bn->Prop}:∀(l:aa Oper) (k m:Nat) (cv:Array Bool) (a:Act) (w:bn),(∀j,l[j]? =ops[k+j]?)->
 Region.seqB md ops l.length k cv=true->l.length<=m->wpListIn F n P ops u2 l a w->wpAnyIn F n P md ops u2 m cv a w
 |[],_,0,_,_,_,_,eB,_,h=>⟨by simpa[Region.seqB]using eB,h⟩
 |[],_,m+1,_,_,_,_,eB,_,h=>⟨λ_=>h,λi aq=>by rw[show Region.ready md ops _=[] by simpa[Region.seqB]using eB]at aq;cases aq⟩
 | o::l,k,m+1,cv,a,w,al,eB,hm,h=>by
   have bC:ops[k]? =some o:=by simpa using (al 0).symm
   simp only[List.length_cons,Region.seqB,gl,e5]at eB;refine⟨λh1=>(by rw[eB.1]at h1;cases h1),λi aq=>?_⟩;rw[eB.1]at aq;have mZ:i=k:=by simpa using aq
   subst mZ;have hw:wpOpIn F n P ops u2 i (wpListIn F n P ops u2 l) a w:=by unfold wpOpIn;simp only[bC];exact h
   exact wpOpIn_mono (λiI rV cW=>WJ l (i+1) m _ iI rV (λj=>by have:=al (j+1);simpa[Lb,Py 1 j]using this) eB.2 (by simpa using hm) cW) hw
def zh(k n:Nat):Array Bool:=((List.range n).map λi=>Nat.blt i k).toArray
def ir.tail{ew eS:aa Nat}{fs:aa (Nat×Nat×J)}{k:Nat}(pD:aa Nat)(h:ag c l.toArray Q (l.drop k) (mH (λ_=>true) E fs) L)(as1:(fs.all λx=>Nat.blt x.1 k)=true:=by rfl)
 (eB:(JK l [k] pD&&(List.range k).all (λi=>e7 i pD)&&Ff l [k] ((List.range (l.length-(k+1))).map (· +(k+1))))=true:=by kernel_rfl) (hs:Region.seqB .any l.toArray (l.length-(k+1)) (k+1) (zh (k+1) l.length)=true:=by kernel_rfl):ir c l Q ew eS fs E L k:=λok m ls o a6 inv my rP vN=>by
 simp only[gl,lj]at eB
 obtain⟨⟨T5,n3⟩,as2⟩:=eB
 have tL:k<l.length:=(iu.1 a6).1
 have as3:∀i o',l[i]? =some o'->(ls.setIfInBounds k true).getD i false=true->∀d∈k5 o',(ls.setIfInBounds k true).getD d false=true:=λi o' aq aB d hd=>by
  by_cases e:k=i
  ·subst e;rw[a6]at aq;cases aq;exact getD_set_true (rP d hd)
  rw[getD_set_ne false e]at aB;exact getD_set_true (inv.xH i o' aq aB d hd)
 have EN:∀i,i<k->(ls.setIfInBounds k true).getD i false=true:=λi aq=>P4 as3 T5 (λj aB=>by rw[hx.1 aB];simp[inv.size,tL]) i (nt.1 (n3 i (lH.2 aq)))
 have iW:ls.setIfInBounds k true=zh (k+1) l.length:=by
  apply Array.ext
  ·simp[zh,inv.size]
  intro i h1 ad;have iG:i<l.length:=by simpa[zh]using ad
  have bz:(ls.setIfInBounds k true)[i]=(ls.setIfInBounds k true).getD i false:=by
   rw[U5,Kr h1];rfl
  rw[bz];simp only[zh,List.getElem_toArray,o4,OS];rcases OX i k with ca|rfl|T9
  ·rw[EN i ca];exact(Vr (by omega:i+1<=k+1)).symm
  ·have:Nat.blt i (i+1)=true:=Vr (iV _);rw[this];simp[inv.size,iG]
  rw[getD_set_ne false (Pz T9),Mh inv.xH as2 (λj aB=>by rw[hx.1 aB];exact my) i (ig.2 ⟨i-(k+1),lH.2 (by omega),by omega⟩)];cases hb:Nat.blt i (k+1)with
  |false=>rfl
  |true=>have:=pI hb;omega
 have aoq:(l.drop (k+1)).length<=m:=by
  refine mi ?_ vN;rw[iW];unfold zg;have aG:List.range l.length=List.range (k+1)++(List.range (l.length-(k+1))).map ((k+1)+ ·):=by
   rw[<-List.range_add];congr 1;omega
  have aW:((List.range (l.length-(k+1))).map ((k+1)+ ·)).filter (λj=> !(zh (k+1) l.length).getD j false)=(List.range (l.length-(k+1))).map ((k+1)+ ·):=by
   refine sQ.2 λx au=>?_;obtain⟨y,aT,rfl⟩:=ig.1 au;have aT:=lH.1 aT;rw[U5,Kr (by simp[zh];omega)];simp only[zh,List.getElem_toArray,o4,OS,Option.getD_some];cases hb:Nat.blt (k+1+y) (k+1)with
   |false=>rfl
   |true=>have:=pI hb;omega
  rw[aG,mJ,gJ,aW];simp
 have hd:l.drop k=o::l.drop (k+1):=by rw[q7 tL];congr 1;exact(iu.1 a6).2
 rw[hd]at h
 intro a W st
 refine al6 (λiI W' cW=>?_) (show c.sx l.toArray Q (o::l.drop (k+1)) a W from h a W (st.EM λt τ al=>(nY ok).2 (((nY ok).1 al).imp (λ⟨i,_,ad⟩=>⟨i,?_,ad⟩) id)))
 ·rw[iW]
  exact WJ (l.drop (k+1)) (k+1) m _ iI W' (λj=>by simp) (by simpa using hs) aoq cW
 have mZ:i<k:=by have:=lj.1 as1 _ ad;exact pI this
 have:=EN i mZ
 rw[getD_set_ne false (by omega)]at this
 exact this
end
class cD (P:Program) (s f:Nat) {β γ:outParam Type} [Ch:ak β] [Kg:ak γ] (l:outParam (aQ β γ)):Prop where
 fd:xo P s f l.off
class jN (P:Program) (t:bK) (e:outParam bK) (α:outParam Type) [Kh:ak α]:Prop where
 hu:P.underlying t=some (.slice e)
 e4:bS P e α
class Ci (P:Program) (t:bK) (α:Type) [ak α] [DecidableEq α] (k:outParam Nat):Prop where
 wc:na P t α k
 aeg:P.eqGuardType P.depth t=false
 aM:Nat.ble k 10000=true
class oZ (P:Program) (t:bK) (d:outParam TypeDesc):Prop where
 hu:P.underlying t=some d
class avD (P:Program) (s f:Nat) (t:outParam Nat) {β γ:outParam Type} [Ch:ak β] [Kg:ak γ] (l:outParam (aQ β γ)):Prop where
 ad4:Ob P s f t l.off
class lW (P:Program) (f:FuncId) (α ρ:outParam Type) (L:outParam (α->aD ρ)) (τ:outParam (α->J)) (mg:outParam (ρ->J)):Prop where
 ck:bJ P f
 m:∀x r,L x=some r->dz P f [τ x] (mg r)
class fk (P:Program) (f:FuncId) (α β ρ:outParam Type) (L:outParam (α->β->aD ρ)) (τ:outParam (α->J)) (σ:outParam (β->J)) (mg:outParam (ρ->J)):Prop where
 ck:bJ P f
 m:∀x y r,L x y=some r->dz P f [τ x,σ y] (mg r)
class u1 (P:Program) (f:FuncId) (α β γ ρ:outParam Type) (L:outParam (α->β->γ->aD ρ)) (τ:outParam (α->J)) (σ:outParam (β->J)) (Cj:outParam (γ->J)) (mg:outParam (ρ->J)):Prop where
 ck:bJ P f
 m:∀x y z r,L x y z=some r->dz P f [τ x,σ y,Cj z] (mg r)
theorem lW.i{P:Program}{f:FuncId}{α ρ:Type}{L:α->aD ρ}{τ:α->J}{mg:ρ->J}{fn:Func}{code:Code}{n:Nat}(aW:P.funcs[f]? =some fn)(hb:fn.body=some code)(aM:fn.ntmps=n)(al:Nat.ble 1 n=true)
 (h:∀ x r,L x=some r→ ∀ W A,ay ⟨P,n,W,[],A,none,[]⟩ (bodyPost P fn (vM ⟨P,n,W,[],A,none,[]⟩ (mg r))) code (params 0 [τ x]) []) (hm:(fn.name== "runtime.NumGoroutine")=false:=by kernel_rfl):lW P f α ρ L τ mg:=
 ⟨⟨fn,aW,by rw[hb];rfl,hm⟩,λx r e=>.of aW hb aM al (h x r e)⟩
theorem fk.i{P:Program}{f:FuncId}{α β ρ:Type}{L:α->β->aD ρ}{τ:α->J}{σ:β->J}{mg:ρ->J}{fn:Func}{code:Code}{n:Nat}(aW:P.funcs[f]? =some fn)(hb:fn.body=some code)(aM:fn.ntmps=n)(al:Nat.ble 2 n=true)
 (h:∀ x y r,L x y=some r→ ∀ W A,ay ⟨P,n,W,[],A,none,[]⟩ (bodyPost P fn (vM ⟨P,n,W,[],A,none,[]⟩ (mg r))) code (params 0 [τ x,σ y]) []) (hm:(fn.name== "runtime.NumGoroutine")=false:=by kernel_rfl):fk P f α β ρ L τ σ mg:=
 ⟨⟨fn,aW,by rw[hb];rfl,hm⟩,λx y r e=>.of aW hb aM al (h x y r e)⟩
theorem u1.i{P:Program}{f:FuncId}{α β γ ρ:Type}{L:α->β->γ->aD ρ}{τ:α->J}{σ:β->J}{Cj:γ->J}{mg:ρ->J}{fn:Func}{code:Code}{n:Nat}(aW:P.funcs[f]? =some fn)(hb:fn.body=some code)(aM:fn.ntmps=n)(al:Nat.ble 3 n=true)
 (h:∀ x y z r,L x y z=some r→ ∀ W A,ay ⟨P,n,W,[],A,none,[]⟩ (bodyPost P fn (vM ⟨P,n,W,[],A,none,[]⟩ (mg r))) code (params 0 [τ x,σ y,Cj z]) []) (hm:(fn.name== "runtime.NumGoroutine")=false:=by kernel_rfl):u1 P f α β γ ρ L τ σ Cj mg:=
 ⟨⟨fn,aW,by rw[hb];rfl,hm⟩,λx y z r e=>.of aW hb aM al (h x y z r e)⟩
section
variable(P:Program)(f:FuncId)(τs:aa J){bM:Type}[eu bM](hp:aL bM)
abbrev hr(ρ:J)(cZ:aL bM):Prop:=bN P f τs ([]++a1 hp) (δ:=Unit) (λ_=>ρ) (λ_=>[]++a1 cZ)
abbrev lB{α:Type}[ak α](Q:α×aL bM->Prop):Prop:=bN P f τs ([]++a1 hp) (δ:= {r:α×aL bM // Q r}×Unit) (λd=>J.of d.1.1.1) (λd=>[]++a1 d.1.1.2)
abbrev BF(Q:aL bM->Prop):Prop:=bN P f τs ([]++a1 hp) (δ:= {r:aL bM // Q r}×Unit) (λ_=>J.bT []) (λd=>[]++a1 d.1.1)
abbrev nL(p:Nat){α:Type}[ak α](x:α)(ρ:J)(y:α):Prop:=bN P f τs [aJ p x] (δ:=Unit) (λ_=>ρ) (λ_=>[aJ p y])
end
def Ty{q:Prop}{u:bs}(hb:q):∀A W v,(J.cond q (.eq u)).holds A W v->v=u:=λ_ _ _ h=>h.1 hb
abbrev J.nh(p:Nat){β γ:Type}[ak β][ak γ](l:aQ β γ):J:=.eq (.pointer (some ⟨p,l.off,none⟩))
structure Ck(p:Prop):Prop where
 k:p
def dO{p q:Prop}(a:p)(b:q):p∧q:=⟨a,b⟩
def h9:True:=trivial
inductive At:List aK->Nat->aK->Prop
 |z {e r}:At (e::r) 0 e
 |s {e f r j}:At r j e->At (f::r) (j+1) e
def At.get:∀{L j e},At L j e->L[j]? =some e
 |_,_,_,.z=>rfl
 |_,_,_,.s h=>by simpa using h.get
def At.g{L:aa aK}{j:Nat}{e:aK}(h:At L j e:=by repeat (first|exact At.z|apply At.s)):L[j]? =some e:=h.get
inductive vd:List aK->aK->aK->List aK->Prop
 |z {e f r}:vd (e::r) e f (f::r)
 |s {e f g r s}:vd r e f s->vd (g::r) e f (g::s)
def vd.get:∀{L e f M},vd L e f M->∃j,L[j]? =some e∧L.set j f=M
 |_,_,_,_,.z=>⟨0,rfl,rfl⟩
 |_,_,_,_,.s h=>let⟨j,h1,ad⟩:=h.get; ⟨j+1,by simpa using h1,by simp[ad]⟩
inductive ve{bM:Type}[eu bM]:List aK->aL bM->Prop
 |z {hp}:ve (a1 hp) hp
 |s {e r hp}:ve r hp->ve (e::r) hp
def ve.get{bM:Type}[eu bM]{L:aa aK}{hp:aL bM}(h:ve L hp):∃n,L.drop n=a1 hp:=by
 induction h with
 |z=>exact⟨0,rfl⟩
 |s _ cj=>exact⟨cj.choose+1,cj.choose_spec⟩
class zv (β:Type) [ak β] {bM:outParam Type} [eu bM] (rd:outParam (aL bM->Nat->aD β)):Prop where
 ok:∀{hp p x},rd hp p=some x->∃k,pat hp p=some k∧eu.gR p k=[⟨some p,.var x⟩]
class UT (P:Program):Prop where
 m:P.follows .mixedOrders=true
section
variable{c:cM}{E:aa (Nat×J)}{L L':aa aK}{ops:Array Oper}{Q:Exit->Act->bn->Prop}{rest:aa Oper}{o:Oper}{d:aD Tmp}{a7:Nat}
variable{ty:bK}{pos:String}{af:Array Edge}{g:aD (Nat×Bool)}{x y:cu}{t t2:bK}
def fact{p:Prop}(h:p:=by first|with_reducible assumption|(apply fe (hb:=hb);with_reducible assumption)):p:=h
def aiy(k:Nat)(h:Nat.blt k 18446744073709551616=true:=by rfl):aU c E L (.const (.int .u64 (Int.ofNat k))) (.of (BitVec.ofNat 64 k)):=uf _ (by simp[Nat.blt]at h⊢;omega)
def fL{σ:J}(h:aU c E L x σ:=by first|exact cf I hb|exact cf I hb.1|exact ah I|exact dd _|exact iL _|exact iN _|exact aiy _|exact cf (aF _ _ I) hb|exact cf (aF _ _ I) hb.1|exact ah (aF _ _ I)):aU c E L x σ:=h
def u9{σ τ:J}(h:aU c E L x σ->bj c E L o τ)(au:aU c E L x σ:=by exact fL):bj c E L o τ:=h au
def Cl{σ pv τ:J}(h:aU c E L x σ->aU c E L y pv->bj c E L o τ)(au:aU c E L x σ:=by exact fL)(aT:aU c E L y pv:=by exact fL):bj c E L o τ:=h au aT
def aor{i:Nat}{τs:aa J}{τ:J}(au:aU c E L x (.bT τs):=by exact fL)(aq:τs[i]? =some τ:=by rfl):bj c E L ⟨d,.extract x i,ty,pos,af,g⟩ τ:=Sx au aq
def are{p j:Nat}{β γ:Type}[ak β][ak γ]{b:β}{l:aQ β γ}[k:bS c.P t γ](au:aU c E L x (.nh p l):=by exact fL)(av:L[j]? =some ⟨some p,.var b⟩:=by first|exact At.g|exact av _ _ At.g I):bj c E L ⟨d,.load t x,ty,pos,af,g⟩ (.of (l.get b)):=
 jb l k au av I I
def arf{p j:Nat}{β:Type}[ak β]{b:β}[k:bS c.P t β](au:aU c E L x (.cN p):=by exact fL)(av:L[j]? =some ⟨some p,.var b⟩:=by first|exact At.g|exact av _ _ At.g I):bj c E L ⟨d,.load t x,ty,pos,af,g⟩ (.of b):=
 jb (aQ.id β) k au av I I
def pm{bM β:Type}[ak β][eu bM]{rd:aL bM->Nat->aD β}{hp:aL bM}{p:Nat}{b:β}[k:zv β rd](hd:ve L hp:=by repeat (first|exact ve.z|apply ve.s))(ae:rd hp p=some b:=by exact fact):(⟨some p,.var b⟩:aK)∈L:=by
 obtain⟨n,h1⟩:=hd.get;obtain⟨q,ad,az⟩:=k.ok ae;exact jt h1 ad az
class aeh (β:Type) [ak β] {bM zw:outParam Type} [eu bM] (rd:outParam (aL bM->Nat->aD zw)) (q:outParam (zw->β)) (os:outParam (zw->aa (Nat×bs))):Prop where
 ok:∀{hp p x},rd hp p=some x->∃k es,pat hp p=some k∧eu.gR p k=⟨some p,.cw (q x) (os x)⟩::es
def jj{bM zw β:Type}[ak β][eu bM]{rd:aL bM->Nat->aD zw}{q:zw->β}{os:zw->aa (Nat×bs)}{hp:aL bM}{p:Nat}{x:zw}[k:aeh β rd q os](hd:ve L hp:=by repeat (first|exact ve.z|apply ve.s))(ae:rd hp p=some x:=by exact fact):(⟨some p,.cw (q x) (os x)⟩:aK)∈L:=by
 obtain⟨n,h1⟩:=hd.get;obtain⟨_,_,ad,az⟩:=k.ok ae;exact aop h1 ad az
def aei{e:aK}{np:Nat}(cc:L'.drop np=L.drop np)(h:e∈L.drop np):e∈L':=CA (cc▸h)
def arh{p:Nat}{β γ:Type}[ak β][ak γ]{b:β}{os:aa (Nat×bs)}{l:aQ β γ}[k:bS c.P t γ](au:aU c E L x (.nh p l):=by exact fL)(hm:(⟨some p,.cw b os⟩:aK)∈L:=by first|exact aei cc jj|exact pf (λi e q=>av i e q I) jj|exact jj)(aY:vC os l.off (ak.size γ)=true:=by rfl):bj c E L ⟨d,.load t x,ty,pos,af,g⟩ (.of (l.get b)):=
 ajB l k au hm I I aY
def ari{p:Nat}{β γ:Type}[ak β][ak γ]{b:β}{l:aQ β γ}[k:bS c.P t γ](au:aU c E L x (.nh p l):=by exact fL)(hm:(⟨some p,.var b⟩:aK)∈L:=by first|exact aei cc pm|exact pf (λi e q=>av i e q I) pm|exact pm):bj c E L ⟨d,.load t x,ty,pos,af,g⟩ (.of (l.get b)):=
 o8 l k au hm I I
def arj{r:Ref}{a:Nat}(au:aU c E L x (.of r):=by exact fL)(aG:r=some a:=by first|with_reducible rfl|exact fact):bj c E L ⟨d,.nilCheck x,ty,pos,af,g⟩ (.cN a):=l0 (j2 au aG)
def ark{r:Ref}{e:bK}[k:oZ c.P t (.pointer e)](au:aU c E L x (.of r):=by exact fL):bj c E L ⟨d,.binOp .eql t x (.const (.pointer none)) t2,ty,pos,af,g⟩ (.of r.isNone):=AJ k.hu au
def arl{r:Ref}{e:bK}[k:oZ c.P t (.pointer e)](au:aU c E L x (.of r):=by exact fL):bj c E L ⟨d,.binOp .neq t x (.const (.pointer none)) t2,ty,pos,af,g⟩ (.of r.isSome):=aiv k.hu au
def aos{γ:Type}[ak γ]{r:γ}[k:bS c.P t γ](au:aU c E L x (.ptr r):=by exact fL):bj c E L ⟨d,.load t x,ty,pos,af,g⟩ (.of r):=iw k au
def arn{s f:Nat}{β γ:Type}[Ch:ak β][Kg:ak γ]{b:β}{l:aQ β γ}[k:cD c.P s f l](au:aU c E L x (.ptr b):=by exact fL):bj c E L ⟨d,.fieldAddr s x f,ty,pos,af,g⟩ (.ptr (l.get b)):=tm l k.fd au I I
def aro{s f p:Nat}{α β γ:Type}[ak α][Ch:ak β][Kg:ak γ]{m:aQ α β}{l:aQ β γ}[k:cD c.P s f l](au:aU c E L x (.nh p m):=by exact fL):bj c E L ⟨d,.fieldAddr s x f,ty,pos,af,g⟩ (.nh p (m.comp l)):=cg k.fd au
def arp{s f p:Nat}{β γ:Type}[Ch:ak β][Kg:ak γ]{l:aQ β γ}[k:cD c.P s f l](au:aU c E L x (.cN p):=by exact fL):bj c E L ⟨d,.fieldAddr s x f,ty,pos,af,g⟩ (.nh p l):=by
 have:=cg (d:=d) (ty:=ty) (pos:=pos) (af:=af) (g:=g) k.fd au;rwa[kR]at this
def arq{α:Type}[Kh:ak α][Inhabited α]{xs:aa α}{e:bK}{i:Int}{j:Nat}[k:jN c.P t e α](au:aU c E L x (.of xs):=by exact fL)(aT:aU c E L y (.of i):=by exact fL)(hk:idx xs.length i=some j:=by exact fact):
 bj c E L ⟨d,.indexAddr t x y,ty,pos,af,g⟩ (.ptr (ax xs j)):=tl k.hu k.e4 au aT (cK hk)
def aot{α:Type}[Kh:ak α]{xs:aa α}{e:bK}[k:jN c.P t e α](au:aU c E L x (.of xs):=by exact fL):bj c E L ⟨d,.call ⟨.builtin .len,#[x],#[t]⟩,ty,pos,af,g⟩ (.of (xs.length:Int)):=pT k.hu au
def ars{b e:Bool}{p:Prop}(au:aU c E L x (.of b):=by exact fL)(aT:aU c E L y (.cond p (.of e)):=by first|exact ah I|exact ah (aF _ _ I))(hp:b=false->p:=by exact λh=>h):bj c E L ⟨d,.pick x (.const (.bool true)) y,ty,pos,af,g⟩ (.of (b||e)):=tu au aT hp
def aou{b e:Bool}{p:Prop}(au:aU c E L x (.of b):=by exact fL)(aT:aU c E L y (.cond p (.of e)):=by first|exact ah I|exact ah (aF _ _ I))(hp:b=true->p:=by exact λh=>h):bj c E L ⟨d,.pick x y (.const (.bool false)),ty,pos,af,g⟩ (.of (b&&e)):=wV au aT hp
def aov{α:Type}[ak α][DecidableEq α]{n:Nat}{a b:α}[k:Ci c.P t α n](au:aU c E L x (.of a):=by exact fL)(aT:aU c E L y (.of b):=by exact fL)(aY:ak.agg α=true:=by rfl):
 bj c E L ⟨d,.binOp .eql t x y t2,ty,pos,af,g⟩ (.of (decide (a=b))):=MZ k.wc k.aM k.aeg aY au aT
def aow{α:Type}[ak α][DecidableEq α]{n:Nat}{a b:α}[k:Ci c.P t α n](au:aU c E L x (.of a):=by exact fL)(aT:aU c E L y (.of b):=by exact fL)(aY:ak.agg α=true:=by rfl):
 bj c E L ⟨d,.binOp .neq t x y t2,ty,pos,af,g⟩ (.of (!decide (a=b))):=Sd k.wc k.aM k.aeg aY au aT
inductive yx(c:cM)(E:List (Nat×J))(L:List aK)(t:TypeId)(place:Nat->Option (Nat×Nat)){β:Type}[Ch:ak β]:β->List (Nat×Operand)->β->Prop
 |nil {b}:yx c E L t place b [] b
 |cons {b b':β} {γ:Type} [Kg:ak γ] {v:γ} {i:Nat} {x:Operand} {r:List (Nat×Operand)} {l:aQ β γ} [k:cD c.P t i l]:place i=some (l.off,ak.size γ)->aU c E L x (.of v)->yx c E L t place (l.set b v) r b'->yx c E L t place b ((i,x)::r) b'
def yx.f{place:Nat->aD (Nat×Nat)}{β:Type}[Ch:ak β]{b b':β}{r:aa (Nat×cu)}(h:yx c E L t place b r b'):uw c E L place b r b':=by
 induction h with
 |nil=>exact .nil
 |cons h1 ad _ cj=>exact .cons _ h1 ad I cj
def art{β:Type}[Ch:ak β]{z b:β}{et:aa (Nat×cu)}{pl:Array (Nat×Nat)}[aI:gF c.P t pl][bu:dE c.P t z](aW:yx c E L t (pl[·]?) z et b:=by repeat (first|exact yx.nil|(apply yx.cons;rfl;first|exact fL|exact look_nil)))(aY:ak.agg β=true:=by rfl):
 bj c E L ⟨d,.build t et.toArray,ty,pos,af,g⟩ (.of b):=kC aY aI bu aW.f
inductive yQ{α:Type}:List α->Nat->α->List α->Prop
 |z {x v r}:yQ (x::r) 0 v (v::r)
 |s {x v r s i}:yQ r i v s->yQ (x::r) (i+1) v (x::s)
def yQ.ok{α:Type}{b c:aa α}{i:Nat}{v:α}(h:yQ b i v c):i<b.length∧b.set i v=c:=by
 induction h with
 |z=>simp
 |s _ cj=>exact⟨by simp only[List.length_cons];omega,by simp[cj.2]⟩
inductive yy(c:cM)(E:List (Nat×J))(L:List aK){α:Type}[ak α]:List α->List (Nat×Operand)->List α->Prop
 |nil {b}:yy c E L b [] b
 |cons {b dM b':List α} {v:α} {i:Nat} {x:Operand} {r:List (Nat×Operand)}:aU c E L x (.of v)->yQ b i v dM->yy c E L dM r b'->yy c E L b ((i,x)::r) b'
def yy.f{α:Type}[ak α]{b b':aa α}{r:aa (Nat×cu)}(h:yy c E L b r b'):qC c E L b r b':=by
 induction h with
 |nil=>exact .nil
 |cons h1 ad _ cj=>obtain⟨az,rfl⟩:=ad.ok;exact .cons az h1 cj
inductive yR{α:Type}(z:α):Nat->List α->Prop
 |z:yR z 0 []
 |s {n l}:yR z n l->yR z (n+1) (z::l)
def yR.ok{α:Type}{z:α}{n:Nat}{l:aa α}(h:yR z n l):List.replicate n z=l:=by
 induction h with
 |z=>rfl
 |s _ cj=>rw[List.replicate_succ,cj]
def aru{α:Type}[Kh:ak α]{e n:Nat}{z:α}{et:aa (Nat×cu)}{l r:aa α}[aI:jN c.P t e α][bu:dE c.P e z](bU:yR z n l:=by repeat (first|exact yR.z|apply yR.s))
 (aW:yy c E L l et r:=by repeat (first|exact yy.nil|(apply yy.cons; (first|exact fL|exact look_nil); (repeat (first|exact yQ.z|apply yQ.s))))) (hs:Nat.beq (ak.size α) 0=false:=by rfl) (pr:Nat.ble (n*ak.size α) 16777216=true:=by rfl):
 bj c E L ⟨d,.buildSlice t n et.toArray,ty,pos,af,g⟩ (.of r):=yz aI.hu aI.e4 bu hs pr (bU.ok▸aW.f)
def arv{f:FuncId}{ats:Array bK}{α ρ:Type}{zx:α->aD ρ}{τ:α->J}{mg:ρ->J}[k:lW c.P f α ρ zx τ mg]{a:α}{r:ρ}(h1:aU c E L x (τ a):=by exact fL)(h:zx a=some r:=by exact fact):
 bj c E L ⟨d,.call ⟨.value (.func f),[x].toArray,ats⟩,ty,pos,af,g⟩ (mg r):=j4 k.ck (k.m _ _ h) ⟨h1,trivial⟩
def arw{f:FuncId}{ats:Array bK}{α β ρ:Type}{zx:α->β->aD ρ}{τ:α->J}{σ:β->J}{mg:ρ->J}[k:fk c.P f α β ρ zx τ σ mg]{a:α}{b:β}{r:ρ}(h1:aU c E L x (τ a):=by exact fL)(ad:aU c E L y (σ b):=by exact fL)(h:zx a b=some r:=by exact fact):
 bj c E L ⟨d,.call ⟨.value (.func f),[x,y].toArray,ats⟩,ty,pos,af,g⟩ (mg r):=j4 k.ck (k.m _ _ _ h) ⟨h1,ad,trivial⟩
def arx{f:FuncId}{ats:Array bK}{α β γ ρ:Type}{zx:α->β->γ->aD ρ}{τ:α->J}{σ:β->J}{Cj:γ->J}{mg:ρ->J}{cT:cu}[k:u1 c.P f α β γ ρ zx τ σ Cj mg]{a:α}{b:β}{e:γ}{r:ρ}(h1:aU c E L x (τ a):=by exact fL)(ad:aU c E L y (σ b):=by exact fL)(az:aU c E L cT (Cj e):=by exact fL)(h:zx a b e=some r:=by exact fact):
 bj c E L ⟨d,.call ⟨.value (.func f),[x,y,cT].toArray,ats⟩,ty,pos,af,g⟩ (mg r):=j4 k.ck (k.m _ _ _ _ h) ⟨h1,ad,az,trivial⟩
def EO{src dst:bK}{e r:TypeDesc}{σ τ:J}[aI:oZ c.P src e][bu:oZ c.P dst r](h:c.P.underlying src=some e->c.P.underlying dst=some r->aU c E L x σ->bj c E L ⟨d,.convert src dst x,ty,pos,af,g⟩ τ)(au:aU c E L x σ:=by exact fL):
 bj c E L ⟨d,.convert src dst x,ty,pos,af,g⟩ τ:=h aI.hu bu.hu au
def acz{r:TypeDesc}{σ pv τ:J}[aI:oZ c.P t r](h:c.P.underlying t=some r->aU c E L x σ->aU c E L y pv->bj c E L o τ)(au:aU c E L x σ:=by exact fL)(aT:aU c E L y pv:=by exact fL):bj c E L o τ:=h aI.hu au aT
def aox{a b r:Int}(au:aU c E L x (.of a):=by exact fL)(aT:aU c E L y (.of b):=by exact fL)(hk:so a b=some r:=by exact fact):bj c E L ⟨d,.binOp .rem t x y t2,ty,pos,af,g⟩ (.of r):=an9 au aT (aiq hk)
def aoy{p n s k:Nat}{i:Int}{β α:Type}[ak β][ak α][Inhabited α]{l:aQ β (Vector α n)}[J4:qi c.P t n s](au:aU c E L x (.nh p l):=by exact fL)(hs:ak.size α=s:=by rfl)(aT:aU c E L y (.of i):=by exact fL)(hk:idx n i=some k:=by exact fact):
 bj c E L ⟨d,.indexAddr t x y,ty,pos,af,g⟩ (.nh p (l.comp (aQ.idx (α:=α) n k (cK hk).1))):=by subst hs;exact hB J4 au aT (cK hk)
def B1(L:aa aK){β:Type}[ak β](p:Nat)(b:β):Prop:=True
def B1.m{β:Type}[ak β]{p j:Nat}{b:β}(h:L[j]? =some ⟨some p,.var b⟩):B1 L p b:=trivial
def aoz{p n s k:Nat}{i:Int}{α:Type}[ak α][Inhabited α]{b:Vector α n}[J4:qi c.P t n s](au:aU c E L x (.cN p):=by exact fL)(av:B1 L p b:=by first|exact B1.m At.g|exact B1.m (av _ _ At.g I)|exact q4 _ _ At.g)(hs:ak.size α=s:=by rfl)(aT:aU c E L y (.of i):=by exact fL)(hk:idx n i=some k:=by exact fact):
 bj c E L ⟨d,.indexAddr t x y,ty,pos,af,g⟩ (.nh p (aQ.idx (α:=α) n k (cK hk).1)):=by
 subst hs
 have:=hB (d:=d) (ty:=ty) (pos:=pos) (af:=af) (g:=g) J4 au aT (cK hk)
 rwa[kR]at this
class mB (op:BinOp) (α:Type) {β:outParam Type} [ak α] [ak β] (f:outParam (α->α->β)):Prop where
 h:∀{c:cM} {E L d ty pos af g x y t t2} {a b:α},aU c E L x (.of a)->aU c E L y (.of b)->bj c E L ⟨d,.binOp op t x y t2,ty,pos,af,g⟩ (.of (f a b))
instance:mB .add Int (λa b=>bm (a+b)):=⟨jS⟩
instance:mB .sub Int (λa b=>bm (a-b)):=⟨tj⟩
instance:mB .mul Int (λa b=>bm (a*b)):=⟨an8⟩
instance:mB .lss Int (λa b=>decide (a<b)):=⟨pR⟩
instance:mB .leq Int (λa b=>decide (a<=b)):=⟨Iu⟩
instance:mB .gtr Int (λa b=>decide (a>b)):=⟨Em⟩
instance:mB .geq Int (λa b=>decide (a>=b)):=⟨A8⟩
instance:mB .eql Int (λa b=>a==b):=⟨pS⟩
instance:mB .neq Int (λa b=>a !=b):=⟨wY⟩
instance:mB .and (BitVec 64) (λa b=>a&&&b):=⟨QD⟩
instance:mB .or (BitVec 64) (λa b=>a|||b):=⟨AS⟩
instance:mB .xor (BitVec 64) (λa b=>a ^^^ b):=⟨akG⟩
instance:mB .andNot (BitVec 64) (λa b=>a&&& ~~~b):=⟨P0⟩
instance:mB .add (BitVec 64) (λa b=>a+b):=⟨akE⟩
instance:mB .sub (BitVec 64) (λa b=>a-b):=⟨YE⟩
instance:mB .shl (BitVec 64) (λa b=>a <<< b.toNat):=⟨HY⟩
instance:mB .shr (BitVec 64) (λa b=>a >>> b.toNat):=⟨akJ⟩
instance:mB .eql (BitVec 64) (λa b=>a==b):=⟨akM⟩
instance:mB .neq (BitVec 64) (λa b=>a !=b):=⟨akN⟩
instance:mB .lss (BitVec 64) (λa b=>decide (a<b)):=⟨akK⟩
instance:mB .geq (BitVec 64) (λa b=>decide (a>=b)):=⟨akL⟩
def aoA{op:BinOp}{α β:Type}[ak α][ak β]{f:α->α->β}{a b:α}[k:mB op α f](au:aU c E L x (.of a):=by exact fL)(aT:aU c E L y (.of b):=by exact fL):bj c E L ⟨d,.binOp op t x y t2,ty,pos,af,g⟩ (.of (f a b)):=k.h au aT
def abd{op:BinOp}{τ:J}(h:bj c E L ⟨d,.binOp op t x y t2,ty,pos,af,g⟩ τ):bj c E L ⟨d,.binOp op t x y t2,ty,pos,af,g⟩ τ:=h
def acA{τ:J}(h:bj c E L ⟨d,.load t x,ty,pos,af,g⟩ τ):bj c E L ⟨d,.load t x,ty,pos,af,g⟩ τ:=h
def ary{s f:Nat}{τ:J}(h:bj c E L ⟨d,.fieldAddr s x f,ty,pos,af,g⟩ τ):bj c E L ⟨d,.fieldAddr s x f,ty,pos,af,g⟩ τ:=h
def acB{k:Call}{τ:J}(h:bj c E L ⟨d,.call k,ty,pos,af,g⟩ τ):bj c E L ⟨d,.call k,ty,pos,af,g⟩ τ:=h
def arz{op:UnOp}{τ:J}(h:bj c E L ⟨d,.unOp op t x,ty,pos,af,g⟩ τ):bj c E L ⟨d,.unOp op t x,ty,pos,af,g⟩ τ:=h
def arA{τ:J}(h:bj c E L ⟨d,.indexAddr t x y,ty,pos,af,g⟩ τ):bj c E L ⟨d,.indexAddr t x y,ty,pos,af,g⟩ τ:=h
def arB{src dst:bK}{τ:J}(h:bj c E L ⟨d,.convert src dst x,ty,pos,af,g⟩ τ):bj c E L ⟨d,.convert src dst x,ty,pos,af,g⟩ τ:=h
def acC{τ:J}(h:bj c E L ⟨d,.nilCheck x,ty,pos,af,g⟩ τ):bj c E L ⟨d,.nilCheck x,ty,pos,af,g⟩ τ:=h
def arC{τ:J}(h:bj c E L ⟨d,.move x,ty,pos,af,g⟩ τ):bj c E L ⟨d,.move x,ty,pos,af,g⟩ τ:=h
def arD{τ:J}(h:bj c E L ⟨d,.assign x,ty,pos,af,g⟩ τ):bj c E L ⟨d,.assign x,ty,pos,af,g⟩ τ:=h
def arE{i:Nat}{τ:J}(h:bj c E L ⟨d,.extract x i,ty,pos,af,g⟩ τ):bj c E L ⟨d,.extract x i,ty,pos,af,g⟩ τ:=h
def arF{z w:cu}{τ:J}(h:bj c E L ⟨d,.pick z x w,ty,pos,af,g⟩ τ):bj c E L ⟨d,.pick z x w,ty,pos,af,g⟩ τ:=h
def arG{et:Array (Nat×cu)}{τ:J}(h:bj c E L ⟨d,.build t et,ty,pos,af,g⟩ τ):bj c E L ⟨d,.build t et,ty,pos,af,g⟩ τ:=h
def arH{n:Nat}{et:Array (Nat×cu)}{τ:J}(h:bj c E L ⟨d,.buildSlice t n et,ty,pos,af,g⟩ τ):bj c E L ⟨d,.buildSlice t n et,ty,pos,af,g⟩ τ:=h
def aG{τ:J} (h:bj c E L o τ:=by first
 |(apply arC;exact cY fL)
 |(apply arD;exact dk fL)
 |(apply acA;first|exact are|exact arf|exact aos)
 |(apply ary;first|exact arn|exact aro|exact arp)
 |(apply abd;first|exact aoA|exact ark|exact arl|exact aov|exact aow|exact acz auz|exact acz Sa)
 |(apply acB;first|exact aot|exact aut|exact Cl aai|exact Cl aah|exact Cl aju)
 |(apply arE;exact aor)
 |(apply arF;first|exact ars|exact aou)
 |(apply arz;first|exact u9 qD|exact u9 auA)
 |(apply arG;exact art)
 |(apply arH;exact aru)
 |(apply arB;first|exact EO AR|exact EO alS|exact EO aob|exact EO auB|exact EO auC|exact EO auq)
 |(apply acC;first|exact auQ|exact u9 l0|exact u9 ta)):bj c E L o τ:=h
def px{τ:J} (h:bj c E L o τ:=by first
 |(apply arA;first|exact arq|exact aoy|exact aoz|exact auD)
 |(apply acB;first|exact arv|exact arw|exact arx|exact auR)
 |(apply acC;exact arj)|(apply acA;first|exact ari|exact arh)
 |(apply abd;first|exact aox|exact auE|exact auF|exact auG)):bj c E L o τ:=h
class JM (op:BinOp):Prop where
 h:True
instance:JM .quo:=⟨trivial⟩
instance:JM .rem:=⟨trivial⟩
instance:JM .shl:=⟨trivial⟩
instance:JM .shr:=⟨trivial⟩
def acD(h:ag c ops Q (⟨d,.nilCheck x,ty,pos,af,g⟩::rest) E L):ag c ops Q (⟨d,.nilCheck x,ty,pos,af,g⟩::rest) E L:=h
def acE(h:ag c ops Q (⟨d,.load t x,ty,pos,af,g⟩::rest) E L):ag c ops Q (⟨d,.load t x,ty,pos,af,g⟩::rest) E L:=h
def arI(h:ag c ops Q (⟨d,.indexAddr t x y,ty,pos,af,g⟩::rest) E L):ag c ops Q (⟨d,.indexAddr t x y,ty,pos,af,g⟩::rest) E L:=h
def arJ{f:FuncId}{xs:Array cu}{ats:Array bK}(h:ag c ops Q (⟨d,.call ⟨.value (.func f),xs,ats⟩,ty,pos,af,g⟩::rest) E L):ag c ops Q (⟨d,.call ⟨.value (.func f),xs,ats⟩,ty,pos,af,g⟩::rest) E L:=h
def aoB{op:BinOp}[k:JM op](h:ag c ops Q (⟨d,.binOp op t x y t2,ty,pos,af,g⟩::rest) E L):ag c ops Q (⟨d,.binOp op t x y t2,ty,pos,af,g⟩::rest) E L:=h
inductive Nm:J->J->Prop
 |i {τ}:Nm τ τ
 |n {α:Type} [ak α] {a b:α}:some a=some b->Nm (.of a) (.of b)
def Nm.aG{τ σ:J}(h:Nm τ σ)(k:bj c E L o τ):bj c E L o σ:=by
 cases h with
 |i=>exact k
 |n e=>cases e;exact k
def arK{τ:J}{j g:Nat}{p:Prop}{b want:Bool}(k:ag c ops Q rest ((a7,.cond (p∧b=want) τ)::E) L)(bz:o.guard=some (j,want):=by rfl)(aB:(ops[j]?).bind (·.dst)=some g:=by rfl)(al:look E g=some (.cond p (.of b)):=by rfl)
 (h:p∧b=want->bj c E L o τ:=by intro hb;exact aG) (hd:o.dst=some a7:=by rfl) (aM:Nat.blt a7 c.n=true:=by rfl):ag c ops Q (o::rest) E L:=.gg h bz aB al hd aM k
def arL{fn:Func}{Lo:Unit->aa aK}(hs:(Lo ()).Sublist L:=by repeat (first|exact zU _|exact q9 _|apply List.Sublist.cons_cons|apply List.Sublist.cons))(aG:fn.results= #[]:=by rfl)(e1:c.ds=[]:=by rfl):
 an c (bodyPost c.P fn (k3 c.X c.b8 c.kc (λ_:Unit=>.bT []) Lo)) .ret E L:=.nu () hs aG I e1
def arM{fn:Func}{r:ResultVar}{τ:J}{ρ:Unit->J}{Lo:Unit->aa aK}(hs:(Lo ()).Sublist L:=by repeat (first|exact zU _|exact q9 _|apply List.Sublist.cons_cons|apply List.Sublist.cons))(aG:fn.results= #[r]:=by rfl)(h:rQ c E L r τ:=by exact Ua)(sA:ρ ()=τ:=by rfl)(e1:c.ds=[]:=by rfl):
 an c (bodyPost c.P fn (k3 c.X c.b8 c.kc ρ Lo)) .ret E L:=.eG () hs aG sA h e1
def arN{fn:Func}{r hf:ResultVar}{τ pq:J}{ρ:Unit->J}{Lo:Unit->aa aK}(hs:(Lo ()).Sublist L:=by repeat (first|exact zU _|exact q9 _|apply List.Sublist.cons_cons|apply List.Sublist.cons))(aG:fn.results= #[r,hf]:=by rfl)(h:rQ c E L r τ:=by exact Ua)(ad:rQ c E L hf pq:=by exact Ua)(sA:ρ ()=.bT [τ,pq]:=by rfl)(e1:c.ds=[]:=by rfl):
 an c (bodyPost c.P fn (k3 c.X c.b8 c.kc ρ Lo)) .ret E L:=.rz () hs aG sA h ad e1
def as4{R:Type}{b:Bool}{A B:aD R}{r:R}(h:cond b A B=some r):True:=trivial
def as5{R:Type}{b:Bool}{A B:aj R}{r:R->Prop}(h:cond b A B r):True:=trivial
def arO(h:ag c ops Q (⟨some a7,.alloc t,ty,pos,af,none⟩::rest) E L):ag c ops Q (⟨some a7,.alloc t,ty,pos,af,none⟩::rest) E L:=h
def arP(h:ag c ops Q (⟨some a7,.box t x,ty,pos,af,none⟩::rest) E L):ag c ops Q (⟨some a7,.box t x,ty,pos,af,none⟩::rest) E L:=h
def arQ(h:ag c ops Q (⟨none,.store t x y,ty,pos,af,none⟩::rest) E L):ag c ops Q (⟨none,.store t x y,ty,pos,af,none⟩::rest) E L:=h
def arR{z:cu}{u v:Code}(h:ay c Q (.cond z u v) E L):ay c Q (.cond z u v) E L:=h
def JN{τ:J}(k:ag c ops Q rest ((a7,τ)::E) L)(bz:o.guard=none:=by rfl)(hd:o.dst=some a7:=by rfl)(h:bj c E L o τ:=by exact aG)(aM:Nat.blt a7 c.n=true:=by rfl):ag c ops Q (o::rest) E L:=.v h bz hd aM k
def JO{τ:J}{j g:Nat}{b want:Bool}(k:ag c ops Q rest ((a7,.cond (b=want) τ)::E) L)(bz:o.guard=some (j,want):=by rfl)(aB:(ops[j]?).bind (·.dst)=some g:=by rfl)(al:look E g=some (.of b):=by rfl)
 (h:b=want->bj c E L o τ:=by intro hb;exact aG) (hd:o.dst=some a7:=by rfl) (aM:Nat.blt a7 c.n=true:=by rfl):ag c ops Q (o::rest) E L:=.g h bz aB al hd aM k
def arS{α:Type}[Kh:ak α]{z:α}[hV:dE c.P t z](k:∀p,ag c ops Q rest ((a7,.cN p)::E) (⟨some p,.var z⟩::L))(aM:Nat.blt a7 c.n=true:=by rfl):ag c ops Q (⟨some a7,.alloc t,ty,pos,af,none⟩::rest) E L:=.alloc hV aM k
def arT{α:Type}[ak α]{z:α}(k:∀p,ag c ops Q rest ((a7,.cN p)::E) (⟨some p,.var z⟩::L))(au:aU c E L x (.of z):=by exact fL)(aM:Nat.blt a7 c.n=true:=by rfl):ag c ops Q (⟨some a7,.box t x,ty,pos,af,none⟩::rest) E L:=.box au aM k
def arU{p:Nat}{β γ:Type}[ak β][ak γ]{b:β}{v:γ}{l:aQ β γ}[ej:bS c.P t γ](k:ag c ops Q rest E L')(au:aU c E L x (.nh p l):=by exact fL)(aT:aU c E L y (.of v):=by first|exact fL|exact look_nil)
 (av:vd L ⟨some p,.var b⟩ ⟨some p,.var (l.set b v)⟩ L':=by repeat (first|exact vd.z|apply vd.s)):ag c ops Q (⟨none,.store t x y,ty,pos,af,none⟩::rest) E L:=by
 obtain⟨j,h1,rfl⟩:=av.get
 exact .store l ej au aT h1 I I k
def arV{p:Nat}{β:Type}[ak β]{b v:β}[ej:bS c.P t β](k:ag c ops Q rest E L')(au:aU c E L x (.cN p):=by exact fL)(aT:aU c E L y (.of v):=by first|exact fL|exact look_nil)
 (av:vd L ⟨some p,.var b⟩ ⟨some p,.var v⟩ L':=by repeat (first|exact vd.z|apply vd.s)):ag c ops Q (⟨none,.store t x y,ty,pos,af,none⟩::rest) E L:=by
 obtain⟨j,h1,rfl⟩:=av.get
 exact .store (aQ.id β) ej au aT h1 I I k
def arW{α R:Type}{a:α}{f:α->aD R}{r:R}{G:Prop}(h:(some a).bind f=some r)(k:∀y,some a=some y->f y=some r->G):G:=k a I h
def acF{α:Type}[ak α]{a iI:α}{K:α->Prop}(k:∀y,some a=some y->K y->ag c ops Q rest ((a7,.of y)::E) L)(bz:o.guard=none:=by rfl)(hd:o.dst=some a7:=by rfl)(h:bj c E L o (.of iI):=by exact aG)(e:iI=a:=by with_reducible rfl)(aM:Nat.blt a7 c.n=true:=by rfl):
 ∀y,some a=some y->K y->ag c ops Q (o::rest) E L:=λy aT hk=>by subst e;exact .v ((Nm.n aT).aG h) bz hd aM (k y aT hk)
def arX{α R:Type}{a:α}{f:α->aj R}{r:R->Prop}{G:Prop}(h:aj.bind (aj.of (some a)) f r)(k:∀y,some a=some y->f y r->G):G:=by obtain⟨y,h1,ad⟩:=h;exact k y h1 ad
def adC{α R:Type}{m:aD α}{f:α->aD R}{r:R}(h:m.bind f=some r)(k:∀y,m=some y->f y=some r->ag c ops Q (o::rest) E L):ag c ops Q (o::rest) E L:=aA h k
def acG{α R:Type}{m:aD α}{f:α->aj R}{r:R->Prop}(h:aj.bind (aj.of m) f r)(k:∀y,m=some y->f y r->ag c ops Q (o::rest) E L):ag c ops Q (o::rest) E L:=aj.bH h k
def as6{u j p:Nat}{α:Type}[ak α]{x:α}[k:bS c.P ty α](h:look E u=some (.cN p):=by rfl)(av:L[j]? =some ⟨some p,.var x⟩:=by first|exact At.g|exact av _ _ At.g I):q3 c E L (.cell u ty) (.of x):=acm k h av
def UU{r:ResultVar}{τ:J}(h:q3 c E L r τ:=by first|exact IK I|exact as6):q3 c E L r τ:=h
def arY{u j p:Nat}{α:Type}[ak α]{x:α}[k:bS c.P ty α](h:look E u=some (.cN p):=by rfl)(av:L[j]? =some ⟨some p,.var x⟩:=by first|exact At.g|exact av _ _ At.g I):rQ c E L (.cell u ty) (.of x):=nv k h av
def Ua{r:ResultVar}{τ:J}(h:rQ c E L r τ:=by first|exact du I|exact arY):rQ c E L r τ:=h
def as7{fn:Func}{r:ResultVar}{τ:J}(aG:fn.results= #[r]:=by rfl)(h:q3 c E L r τ:=by exact UU)(e1:c.ds=[]:=by rfl):an c (bodyPost c.P fn (vM c τ)) .ret E L:=.SN aG h e1
def as8{fn:Func}{ky hf:ResultVar}{τ pq:J}(aG:fn.results= #[ky,hf]:=by rfl)(h:q3 c E L ky τ:=by exact UU)(ad:q3 c E L hf pq:=by exact UU)(e1:c.ds=[]:=by rfl):an c (bodyPost c.P fn (vM c (.bT [τ,pq]))) .ret E L:=.ab0 aG h ad e1
end
inductive zy(c:cM)(ops:Array Oper)(E:List (Nat×J))(L:List aK)(hs:List dX):List Oper->List (Option Nat)->List (List Nat)->List J->Prop
 |nil {os}:zy c ops E L hs os [] [] []
 |cons {o os s ga d ds τ dB}:(∀L':List aK,(∀(j:Nat) (e:aK),L[j]? =some e->vH (λ_=>false) j 0 []=true->L'[j]? =some e)->ia c ops (kL (λ_ _=>none) hs E d) L' o τ)->zy c ops E L hs os ga ds dB->zy c ops E L hs (o::os) (s::ga) (d::ds) (τ::dB)
def zy.h{c:cM}{ops:Array Oper}{E:aa (Nat×J)}{L:aa aK}{hs:aa dX}{os ga ds dB}(h:zy c ops E L hs os ga ds dB):yw c ops E L hs os ga ds dB:=by
 induction h with
 |nil=>simp[yw]
 |cons h1 _ cj=>exact⟨h1,cj⟩
def B2(l:aa Oper):aa (aa Nat):=l.map λo=>o.after.toList.filterMap λe=>match e.ground with | .data=>some e.on| .guard=>some e.on|_=>none
section
variable{c:cM}{E:aa (Nat×J)}{L:aa aK}{ops:Array Oper}{Q:Exit->Act->bn->Prop}{o:Oper}
def NK{τ σ:J}(bz:o.guard=none:=by rfl)(h:bj c E L o τ:=by first|exact aG|exact px)(n:Nm τ σ:=by first|exact Nm.n (by with_reducible assumption)|exact Nm.i):ia c ops E L o σ:=ia.v (n.aG h) bz
def adD{τ:J}{j g:Nat}{b want:Bool}(bz:o.guard=some (j,want):=by rfl)(aB:(ops[j]?).bind (·.dst)=some g:=by rfl)(al:look E g=some (.of b):=by rfl)(h:b=want->bj c E L o τ:=by intro hb;first|exact aG|exact px):
 ia c ops E L o (.cond (b=want) τ):=ia.g h bz aB al
def ay.fy{la a:Nat}{l:aa Oper}{es:aa Nat}{dB:aa J}[k:UT c.P](n:Nat)(bD:ag c l.toArray Q (l.drop n) (w8 E (rg a n) (B2 (l.take n)) dB) L)(aY:(l[0]?).bind (·.dst)=Option.some a:=by rfl)
 (bW:zy c l.toArray E L (qX (rg a n) (B2 (l.take n)) dB) l (rg a n) (B2 (l.take n)) dB:=by repeat (first|apply zy.nil|(apply zy.cons; (intro L' av;first|exact NK|exact adD))))
 (e1:mx (qX (rg a n) (B2 (l.take n)) dB)=EL (rg a n) (B2 (l.take n)):=by rfl) (kV:E.map (·.1)=es:=by rfl) (eB:Gv.sl l.toArray n (EL (rg a n) (B2 (l.take n))) es=true:=by kernel_rfl) (hs:Fb (l.take n) (rg a n) c.n=true:=by rfl):ay c Q (.region la l.toArray true) E L:=
 .jM k.m n (rg a n) (B2 (l.take n)) dB bW.h bD e1 kV eB hs
end
def X3{up:aa Nat}{i:Nat}{hd:Nat->Hid}{x:Hid}:iA up i (nF hd i x) i=x:=by
 unfold iA nF;simp
def p2(s:Nat)(up:aa Nat)(j i:Nat){α:Type}[ak α](z:α):dX:=⟨some s,up,[j],[j],λhd=>J.cN ((hd i 0).getD 0),λhd _=>aJ ((hd i 0).getD 0) z⟩
inductive JP(c:cM)(E:List (Nat×J))(L:List aK)(t:TypeId)(x y:Operand)(j:Nat)(e:aK):Prop
 |mk {p:Nat} {β γ:Type} [ak β] [ak γ] {b:β} {v:γ} (l:aQ β γ):bS c.P t γ->aU c E L x (.nh p l)->aU c E L y (.of v)->L[j]? =some ⟨some p,.var b⟩->⟨some p,.var (l.set b v)⟩=e->JP c E L t x y j e
 |z {p:Nat} {β:Type} [ak β] {b v:β}:bS c.P t β->aU c E L x (.cN p)->aU c E L y (.of v)->L[j]? =some ⟨some p,.var b⟩->⟨some p,.var v⟩=e->JP c E L t x y j e
section
variable{c:cM}{E:aa (Nat×J)}{L:aa aK}{ops:Array Oper}{Q:Exit->Act->bn->Prop}{o:Oper}{hs:aa dX}{np i a7:Nat}{up rd:aa Nat}{t ty:bK}{pos:String}{af:Array Edge}{x y:cu}
def aej{p:Nat}{β:Type}[ak β]{a b:β}(h:some a=some b):(⟨some p,.var a⟩:aK)=⟨some p,.var b⟩:=by cases h;rfl
def aue{p j:Nat}{β γ:Type}[ak β][ak γ]{b:β}{v:γ}{l:aQ β γ}{e:aK}[k:bS c.P t γ](au:aU c E L x (.nh p l):=by exact fL)(aT:aU c E L y (.of v):=by first|exact fL|exact look_nil)(h:L[j]? =some ⟨some p,.var b⟩:=by exact av _ _ I I)(he:⟨some p,.var (l.set b v)⟩=e:=by first|rfl|exact aej (by assumption)):JP c E L t x y j e:=.mk l k au aT h he
def sz{p j:Nat}{β:Type}[ak β]{b v:β}{e:aK}[k:bS c.P t β](au:aU c E L x (.cN p):=by exact fL)(aT:aU c E L y (.of v):=by first|exact fL|exact look_nil)(h:L[j]? =some ⟨some p,.var b⟩:=by exact av _ _ I I)(he:⟨some p,.var v⟩=e:=by first|rfl|exact aej (by assumption)):JP c E L t x y j e:=.z k au aT h he
inductive Fu(c:cM)(E:List (Nat×J))(L:List aK)(o:Oper)(σ:J):Prop
 |mk {τ:J}:bj c E L o τ->Nm τ σ->Fu c E L o σ
def Fu.h{σ:J}(h:Fu c E L o σ):bj c E L o σ:=by cases h with |mk h n=>exact n.aG h
def aM{τ σ:J}(h:bj c E L o τ:=by first|exact aG|exact px)(n:Nm τ σ:=by first|exact Nm.n (by with_reducible assumption)|exact Nm.i):Fu c E L o σ:=.mk h n
def adE{σ:J}(h:∀(hd:Nat->Hid) (E':aa (Nat×J)) (L':aa aK),(∀t τ,look (kL hd hs E up) t=some τ->look E' t=some τ)->(∀j e,(hI (λ_=>true) hd 0 (hs.take i) L)[j]? =some e->rd.contains j=true->L'[j]? =some e)->(∀{β:Type} [ak β] (p:Nat) (b:β) {j:Nat},(hI (λ_=>true) hd 0 (hs.take i) L)[j]? =some ⟨some p,.var b⟩->B1 L' p b)->L'.drop np=L.drop np->Fu c E' L' o σ:=by intro hd E' L' aF av q4 cc;exact aM)
 (bz:o.guard=none:=by rfl) (hd:o.dst=some a7:=by rfl) (aM:Nat.blt a7 c.n=true:=by rfl):yu c ops Q hs E L np i o (aC a7 up rd σ):=
 λa b gy d e f=>ag.v (h a b gy d e (λ_ _ _ _=>trivial) f).h bz hd aM (ag.nil (an.fin (λ_=>none) I I))
def adF{τ:J}{j g:Nat}{b want:Bool}(bz:o.guard=some (j,want):=by rfl)(aB:(ops[j]?).bind (·.dst)=some g:=by rfl)(al:∀hd,look (kL hd hs E up) g=some (.of b):=by intro hd;rfl)
 (h:∀(hd:Nat->Hid) (E':aa (Nat×J)) (L':aa aK),(∀t τ,look (kL hd hs E up) t=some τ->look E' t=some τ)->(∀j e,(hI (λ_=>true) hd 0 (hs.take i) L)[j]? =some e->rd.contains j=true->L'[j]? =some e)->(∀{β:Type} [ak β] (p:Nat) (b:β) {j:Nat},(hI (λ_=>true) hd 0 (hs.take i) L)[j]? =some ⟨some p,.var b⟩->B1 L' p b)->L'.drop np=L.drop np->b=want->Fu c E' L' o τ:=by intro hd E' L' aF av q4 cc hb;exact aM)
 (hd:o.dst=some a7:=by rfl) (aM:Nat.blt a7 c.n=true:=by rfl):yu c ops Q hs E L np i o (aC a7 up rd (.cond (b=want) τ)):=
 λa b' gy d e f=>ag.g (λz=>(h a b' gy d e (λ_ _ _ _=>trivial) f z).h) bz aB (d _ _ (al a)) hd aM (ag.nil (an.fin (λ_=>none) I I))
def adG{α:Type}[Kh:ak α]{z:α}[hV:dE c.P t z]{s j:Nat}(aB:∀hd,(hI (λ_=>true) hd 0 (hs.take i) L)[j]? =some ⟨none,.dead⟩:=by intro hd;rfl)(aM:Nat.blt s c.n=true:=by rfl):yu c ops Q hs E L np i ⟨some s,.alloc t,ty,pos,af,none⟩ (p2 s up j i z):=
 λhd E' L' aF av cc=>.alloc hV aM λp=>.nil (.place j (av j _ (aB hd) (by simp[p2])) (.fin (cX [some p]) (by simp[p2,sq,X3,cX]) (by simp[p2,pZ,X3,cX])))
def dst{j:Nat}{e:(Nat->Hid)->aK}(h:∀(hd:Nat->Hid) (E':aa (Nat×J)) (L':aa aK),(∀t τ,look (kL hd hs E up) t=some τ->look E' t=some τ)->(∀k e,(hI (λ_=>true) hd 0 (hs.take i) L)[k]? =some e->[j].contains k=true->L'[k]? =some e)->L'.drop np=L.drop np->JP c E' L' t x y j (e (iA up i (nF hd i λ_=>none))):=by intro hd E' L' aF av cc;first|exact aue|exact sz):
 yu c ops Q hs E L np i ⟨none,.store t x y,ty,pos,af,none⟩ (fz up [j] [j] e):=λhd E' L' aF av cc=>by
 cases h hd E' L' aF av cc with
 |mk l ej au aT h1 ad=>exact .store l ej au aT h1 I I (.nil (.fin (λ_=>none) I (eI (L'.set j) ad)))
 |z ej au aT h1 ad=>exact .store (aQ.id _) ej au aT h1 I I (.nil (.fin (λ_=>none) I (eI (L'.set j) ad)))
end
inductive vf(c:cM)(ops:Array Oper)(Q:Exit->Act->World->Prop)(hs:List dX)(E:List (Nat×J))(L:List aK)(np:Nat):Nat->List Oper->List dX->Prop
 |nil {i}:vf c ops Q hs E L np i [] []
 |cons {i o os h r}:yu c ops Q hs E L np i o h->vf c ops Q hs E L np (i+1) os r->vf c ops Q hs E L np i (o::os) (h::r)
def vf.h{c:cM}{ops:Array Oper}{Q:Exit->Act->bn->Prop}{hs:aa dX}{E:aa (Nat×J)}{L:aa aK}{np i:Nat}{os r}(h:vf c ops Q hs E L np i os r):ru c ops Q hs E L np i os r:=by
 induction h with
 |nil=>simp[ru]
 |cons h1 _ cj=>exact⟨h1,cj⟩
section
variable{c:cM}{E:aa (Nat×J)}{L:aa aK}{Q:Exit->Act->bn->Prop}{la:Nat}{l:aa Oper}{ds:aa (aD Nat×aa Nat×aa Nat×aa Nat)}{es:aa Nat}[UW:UT c.P](np:Nat)(hs:aa dX)
include UW
def ay.rT(bD:∀hd,an c Q .normal (jf (λ_=>true) hd E 0 hs) (hI (λ_=>true) hd 0 hs L))(bW:vf c l.toArray Q hs E L np 0 l hs:=by repeat (first|apply vf.nil|(apply vf.cons;first|exact adG|exact dst|exact adE|exact adF)))
 (e1:mx hs=ds:=by rfl) (kV:E.map (·.1)=es:=by rfl) (eB:Gv.sl l.toArray l.length ds es=true:=by kernel_rfl) (hw:(ds.all λd=>d.2.2.2.all λj=>Nat.blt j np)=true:=by kernel_rfl):ay c Q (.region la l.toArray true) E L:=.aee np UW.m hs es bW.h bD e1 kV eB hw
def ay.ck{K:Prop}(k:K)(bD:∀hd,an c Q .normal (jf (λ_=>true) hd E 0 hs) (hI (λ_=>true) hd 0 hs L))(bW:Ck K->vf c l.toArray Q hs E L np 0 l hs:=by intro k;repeat (first|apply vf.nil|(apply vf.cons;first|exact adG|exact dst|exact adE|exact adF|exact k.k.1|exact k.k.2.1|exact k.k.2.2.1|exact k.k.2.2.2.1|exact k.k.2.2.2.2.1|exact k.k.2.2.2.2.2.1|exact k.k.2.2.2.2.2.2.1|exact k.k.2.2.2.2.2.2.2.1|exact k.k.2.2.2.2.2.2.2.2.1|exact k.k.2.2.2.2.2.2.2.2.2.1|exact k.k.2.2.2.2.2.2.2.2.2.2.1|exact k.k.2.2.2.2.2.2.2.2.2.2.2.1|exact k.k.2.2.2.2.2.2.2.2.2.2.2.2.1|exact k.k.2.2.2.2.2.2.2.2.2.2.2.2.2.1)))
 (e1:mx hs=ds:=by rfl) (kV:E.map (·.1)=es:=by rfl) (eB:Gv.sl l.toArray l.length ds es=true:=by kernel_rfl) (hw:(ds.all λd=>d.2.2.2.all λj=>Nat.blt j np)=true:=by kernel_rfl):ay c Q (.region la l.toArray true) E L:=.aee np UW.m hs es (bW ⟨k⟩).h bD e1 kV eB hw
end
section
variable{c:cM}{E:aa (Nat×J)}{L:aa aK}{l:aa Oper}{Q:Exit->Act->bn->Prop}
inductive zz(c:cM)(l:List Oper)(E:List (Nat×J))(L:List aK)(fs:List (Nat×Nat×J)):List Nat->Prop
 |nil:zz c l E L fs []
 |cons {i o τ r}:l[i]? =some o->Bu i fs=some τ->ia c l.toArray (mH (λj=>e7 j (k5 o)) E fs) L o τ->zz c l E L fs r->zz c l E L fs (i::r)
def zz.h{fs:aa (Nat×Nat×J)}{nl:aa Nat}(h:zz c l E L fs nl):zt c l E L fs nl:=by
 induction h with
 |nil=>trivial
 |cons h1 ad az _ cj=>exact⟨by rw[h1,ad];exact az,cj⟩
def gQ.md{vb:Nat}{ew eS:aa Nat}{fs:aa (Nat×Nat×J)}{ks:aa (Nat×Nat)}{es:aa Nat}(pD nl el:aa Nat)(aF:zu c l Q ew eS fs E L el)(av:zz c l E L fs nl:=by repeat (first|apply zz.nil|(apply zz.cons;rfl;rfl; (first|exact NK|exact adD))))(aM:ew.all (λk=>e7 k eS)=false:=by rfl)
 (ho:fs.map (λx=>(x.1,x.2.1))=ks:=by rfl) (kV:E.map (·.1)=es:=by rfl) (B0:c.n=vb:=by rfl) (eB:NQ l vb ew eS pD nl el ks es=true:=by kernel_rfl):gQ c l Q ew eS fs E L:=.mid pD nl el av.h aF aM ho kV B0 eB
end
def go{G:Prop} (h:G:=by
 repeat (first
 | (change ag _ _ _ (_::_) _ _
    first
    |((with_reducible refine arW h ?_);refine acF ?_; (try clear h);intro ez UX h;have Cm:=True.intro)|((with_reducible refine arX h ?_);refine acF ?_; (try clear h);intro ez UX h;have Cm:=True.intro)
    |(apply arO;refine arS ?_;intro ez)|(apply arP;refine arT ?_;intro ez)
    |(apply arQ;first|refine arU ?_|refine arV ?_)
    |(apply acD; (first|(with_reducible refine adC h ?_)|(with_reducible refine acG h ?_)); (try clear h); (intro ez UX h;have Cm:=True.intro);first|(refine JN ?_ (h:=by exact px);change ag _ _ _ _ ((_,J.cN ez)::_) _)|(refine JO ?_ (h:=by intro hb;exact px);change ag _ _ _ _ ((_,J.cond _ (J.cN ez))::_) _))
    |((first|apply acD|apply acE);first|refine JN ?_ (h:=by exact px)|refine JO ?_ (h:=by intro hb;exact px))
    |((first|apply arI|apply arJ|apply aoB|apply acE); (first|(with_reducible refine adC h ?_)|(with_reducible refine acG h ?_)); (try clear h); (intro ez UX h;have Cm:=True.intro);first|refine JN ?_ (h:=by exact px)|refine JO ?_ (h:=by intro hb;exact px))
    |refine JN ?_|refine JO ?_|refine arK ?_|refine JN ?_ (h:=by exact px)|refine JO ?_ (h:=by intro hb;exact px))
 | (change ag _ _ _ [] _ _
    first|apply iy|apply hh|apply ch|apply ag.nil)
 | (change ay _ _ _ _ _
    first|apply b5|(apply arR;first|((with_reducible have Cm:=as4 h);refine kI h ?_ ?_ <;> ((try clear h);intro h))|((with_reducible have Cm:=as5 h);refine y1 h ?_ ?_ <;> ((try clear h);intro h)))|apply ly|apply ay.seq|apply ay.block|apply ay.fm|apply ay.ret|apply ay.exit|apply ay.skip)
 | (change an _ _ _ _ _
    first|apply an.next|apply an.ret|apply an.exit|apply an.kF|apply an.lu|apply an.mT|refine an.alR I ?_|(cases h;first|exact as7|exact as8|exact arM|exact arN|exact au6|exact au7|exact arL|exact hi () 0|exact hi () 1|exact hi () 2|exact hi () 3|exact gu () 0|exact gu () 1|exact gu () 2|exact gu () 3|exact dU 0 (hm ())|exact dU 1 (hm ())|exact dU 2 (hm ())))
 |((first|((guard_hyp Cm); (clear Cm);revert h)|skip); (repeat (revert ez));first|exact aI.k|exact bu.k|exact cB.k|exact e2.k|exact kW.k|exact ng.k))):G:=h
def aO{G K:Prop}(k:K)(h:Ck K->G:=by intro aI;exact go):G:=h ⟨k⟩
def go2{G K fk:Prop}(k:K)(k':fk)(h:Ck K->Ck fk->G:=by intro aI bu;exact go):G:=h ⟨k⟩ ⟨k'⟩
def acR{G K fk u1:Prop}(k:K)(k':fk)(as9:u1)(h:Ck K->Ck fk->Ck u1->G:=by intro aI bu cB;exact go):G:=h ⟨k⟩ ⟨k'⟩ ⟨as9⟩
theorem bS.i{P:Program}{t:bK}{α:Type}[ak α]{d:TypeDesc}(hu:P.underlying t=some d)(aY:(match (motive:=TypeDesc->Bool) d with | .struct _| .array _ _=>true|_=>false)=ak.agg α:=by rfl)(hs:(P.info? t).map (·.size)=some (ak.size α):=by kernel_rfl):bS P t α:=bS.of aY hu hs
theorem dE.i{P:Program}{t:bK}{α:Type}[ak α][Inhabited α][a8 α](h:(P.info? t).bind (·.zero)=some (Nk α):=by kernel_rfl):dE P t (default:α):=dE.of h
theorem cD.i{P:Program}{s f:Nat}{β γ:Type}[ak β][ak γ]{l:aQ β γ}{fs:Array Field}{fd:Field}(hu:P.underlying s=some (.struct fs))(aW:fs[f]? =some fd)(ej:bS P fd.type γ)(a6:fd.offset=l.off:=by rfl)(hs:Nat.beq (ak.size γ) 0=false:=by rfl):cD P s f l:=⟨xo.of hu aW a6 ej hs⟩
def bJ.i{P:Program}{f:FuncId}{fn:Func}(h:P.funcs[f]? =some fn)(ad:fn.body.isNone=false:=by rfl)(az:(fn.name== "runtime.NumGoroutine")=false:=by kernel_rfl):bJ P f:=⟨fn,h,ad,az⟩
theorem gF.i{P:Program}{t:bK}{pl:Array (Nat×Nat)}{fs:Array Field}(h:P.underlying t=some (.struct fs))(ad:fs.all (λf=>(P.info? f.type).isSome)=true:=by kernel_rfl)(az:(fs.map λf=>(f.offset,P.cellsOf f.type))=pl:=by kernel_rfl):gF P t pl:=⟨fs,h,ad,az⟩
end Gv
