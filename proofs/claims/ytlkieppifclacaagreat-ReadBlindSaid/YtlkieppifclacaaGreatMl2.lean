/-
  The library of the decompiler, as far as it is needed here. Conditions: none.
-/
import Derived.Lib.ConvBytes
import Derived.Laws.Externs
import Derived.RecoverIn
import Derived.Laws.Pointers
import Derived.Test.YtlkieppifclacaaGreatMl0
import Derived.Test.YtlkieppifclacaaGreatMl1
set_option linter.defProp false
set_option linter.unusedVariables false
set_option linter.unusedSimpArgs false
namespace Gv
open Go
def eO(n:Nat):aa Nat->Bool
 |[]=>false
 |m::r=>bif Nat.beq m n then true else eO n r
def mS{n:Nat}:∀{l:aa Nat},eO n l=true↔n∈l
 |[]=>by simp[eO]
 | m::r=>by
   unfold eO;cases h:Nat.beq m n with
   |true=>have:=Vf h;subst this;simp
   | false=>
     have dm:n≠m:=λe=>by subst e;rw[nZ]at h;cases h
     simp only[cond_false,mS,dW,dm,false_or]
def lu(ls:Nat->Bool)(E:aa (Nat×J)):aa (Nat×Nat×J)->aa (Nat×J)
 |[]=>E
 |x::r=>bif ls x.1 then x.2::lu ls E r else lu ls E r
def BU(i:Nat):aa (Nat×Nat×J)->aA J
 |[]=>none
 |x::r=>bif Nat.beq x.1 i then some x.2.2 else BU i r
def NQ(i:Nat):aa (Nat×Nat×J)->aA (Nat×J)
 |[]=>none
 |x::r=>bif Nat.beq x.1 i then some x.2 else NQ i r
def E2:aa Edge->aa Nat
 |[]=>[]
 |e::r=>bif Region.binds .any e then e.on::E2 r else E2 r
def HT{d:Nat}:∀{l:aa Edge},d∈E2 l↔∃e∈l,Region.binds .any e=true∧e.on=d
 |[]=>by simp[E2]
 | e::r=>by
   unfold E2;cases h:Region.binds .any e with
   | true=>
     simp only[cond_true,dW,HT]
     constructor
     ·rintro (rfl|⟨e',h1,ae,az⟩)
      ·exact⟨e,.inl I,h,rfl⟩
      exact⟨e',.inr h1,ae,az⟩
     rintro ⟨e',rfl|h1,ae,az⟩
     ·exact .inl az.symm
     exact .inr ⟨e',h1,ae,az⟩
   | false=>
     simp only[cond_false,HT,dW]
     constructor
     ·rintro ⟨e',h1,ae⟩;exact⟨e',.inr h1,ae⟩
     rintro ⟨e',rfl|h1,ae,az⟩
     ·rw[h]at ae;cases ae
     exact⟨e',h1,ae,az⟩
def kI(o:Oper):aa Nat:=E2 o.after.toList
def E3(fs:aa (Nat×Nat×J)):aa Nat:=fs.map (·.2.1)
structure tT(fs:List (Nat×Nat×J))(E:List (Nat×J)):Prop where
 OH:(E3 fs).Nodup
 out:∀t∈E3 fs,look E t=none
def tT.app{fs gs:aa (Nat×Nat×J)}{M:aa (Nat×J)}(h:tT (gs++fs) M):tT fs M:=⟨by have:=h.OH;unfold E3 at this;rw[pT]at this;exact(pS.1 this).2.1,λt bE=>h.out t (by unfold E3;rw[pT];exact cz.2 (.inr bE))⟩
def MM{α β:Type}{f:α->β}:∀{l:aa α},(l.map f).Nodup->∀{x y:α},x∈l->y∈l->f x=f y->x=y
 | z::r,h,x,y,an,hy,e=>by
   obtain⟨h1,ae⟩:=pf.1 h;rcases dW.1 an with ar|an
   ·rcases dW.1 hy with aK|hy
    ·rw[ar,aK]
    exact absurd (gJ.2 ⟨y,hy,by rw[<-e,ar]⟩) h1
   rcases dW.1 hy with aK|hy
   ·exact absurd (gJ.2 ⟨x,an,by rw[e,aK]⟩) h1
   exact MM ae an hy e
def ny{ls:Nat->Bool}{E:aa (Nat×J)}{t:Nat}{τ:J}:∀{fs:aa (Nat×Nat×J)},tT fs E->(look (lu ls E fs) t=some τ↔(∃i,ls i=true∧(i,t,τ)∈fs)∨look E t=some τ)
 |[],_=>by simp[lu]
 | x::r,ok=>by
   have h1:=pf.1 ok.OH;have b6:=ny (ls:=ls) (t:=t) (τ:=τ) (fs:=r) ⟨h1.2,λt bE=>ok.out t (fM _ bE)⟩;have aJ:look E t=some τ->x.2.1≠t:=λh e=>by rw[<-e,ok.out _ kt]at h;cases h
   have aE:∀i,(i,t,τ)∈r->x.2.1≠t:=λi h e=>h1.1 (by show x.2.1∈_;rw[e];exact gJ.2 ⟨_,h,rfl⟩);unfold lu;cases ao:ls x.1 with
   | false=>
     simp only[cond_false,b6]
     refine or_congr ⟨λ⟨i,h1,ae⟩=>⟨i,h1,fM _ ae⟩,λ⟨i,h1,ae⟩=>?_⟩ Iff.rfl
     rcases dW.1 ae with e|ae
     ·rw[<-e,h1]at ao;cases ao
     exact⟨i,h1,ae⟩
   | true=>
     simp only[cond_true,look]
     cases hb:Nat.beq x.2.1 t with
     | true=>
       have e:=fx.1 hb
       simp only[cond_true,gy]
       constructor
       ·intro h;exact .inl ⟨x.1,ao,by rw[<-e,<-h];exact kt⟩
       rintro (⟨i,_,ae⟩|h)
       ·rcases dW.1 ae with aK|ae
        ·rw[<-aK]
        exact absurd e (aE i ae)
       exact absurd e (aJ h)
     | false=>
       have e:x.2.1≠t:=λe=>by rw[e,nZ]at hb;cases hb
       simp only[cond_false,b6]
       refine or_congr ⟨λ⟨i,h1,ae⟩=>⟨i,h1,fM _ ae⟩,λ⟨i,h1,ae⟩=>?_⟩ Iff.rfl
       rcases dW.1 ae with aK|ae
       ·exact absurd (by rw[<-aK]) e
       exact⟨i,h1,ae⟩
def SB{us ls:Nat->Bool}{E:aa (Nat×J)}{t:Nat}{τ:J}{fs:aa (Nat×Nat×J)}(hu:∀i,us i=true->ls i=true)(ok:tT fs E)(h:look (lu us E fs) t=some τ):look (lu ls E fs) t=some τ:=
 (ny ok).2 (((ny ok).1 h).imp (λ⟨i,h1,ae⟩=>⟨i,hu i h1,ae⟩) id)
def ai2{ls ls':Nat->Bool}{E:aa (Nat×J)}{i t u:Nat}{τ σ:J}{fs:aa (Nat×Nat×J)}(Jx:∀j,ls' j=true->ls j=true∨j=i)(ok:tT fs E)(hm:(i,t,τ)∈fs)(kQ:(fs.map (·.1)).Nodup)(h:look (lu ls' E fs) u=some σ):look ((t,τ)::lu ls E fs) u=some σ:=by
 simp only[look];cases hb:Nat.beq t u with
 | true=>
   have e:=fx.1 hb
   subst e
   rcases (ny ok).1 h with⟨j,_,ae⟩|ae
   ·have:=MM ok.OH hm ae I
    cases this;rfl
   rw[ok.out t (gJ.2 ⟨_,hm,rfl⟩)]at ae;cases ae
 | false=>
   refine(ny ok).2 (((ny ok).1 h).imp (λ⟨j,h1,ae⟩=>⟨j,?_,ae⟩) id)
   rcases Jx j h1 with az|az
   ·exact az
   subst az
   have:=MM kQ hm ae I
   cases this
   rw[nZ]at hb;cases hb
def DR{t:Nat}{B:aa (Nat×J)}:∀{A:aa (Nat×J)},look (A++B) t=match look A t with |some τ=>some τ|none=>look B t
 |[]=>rfl
 | x::r=>by
   simp only[List.cons_append,look];cases Nat.beq x.1 t with
   |true=>rfl
   |false=>exact DR
def alB{ls:Nat->Bool}{E M:aa (Nat×J)}{t:Nat}{τ:J}{fs:aa (Nat×Nat×J)}(ok:tT fs (M++E))(h:look (lu ls (M++E) fs) t=some τ):look (M++lu ls E fs) t=some τ:=by
 have out:∀t∈E3 fs,look M t=none∧look E t=none:=λt bE=>by
  have h:=ok.out t bE;rw[DR]at h;cases ow:look M t with
  |some τ=>rw[ow]at h;cases h
  |none=>rw[ow]at h;exact⟨rfl,h⟩
 have acT:tT fs E:=⟨ok.OH,λt bE=>(out t bE).2⟩;rw[DR];rcases (ny ok).1 h with⟨i,h1,ae⟩|h1
 ·rw[(out t (gJ.2 ⟨_,ae,rfl⟩)).1];exact(ny acT).2 (.inl ⟨i,h1,ae⟩)
 rw[DR]at h1;cases ow:look M t with
 |some σ=>rw[ow]at h1;exact h1
 |none=>rw[ow]at h1;exact(ny acT).2 (.inr h1)
section
variable{c:cC}{E:aa (Nat×J)}{L:aa aI}{l:aa Oper}{Q:Exit->Act->bq->Prop}
structure CC(l:List Oper)(dQ ek:List Nat)(ls:Array Bool):Prop where
 size:ls.size=l.length
 eq:∀i,i∈dQ->ls.getD i false=eO i ek
 xg:∀i o,l[i]? =some o->ls.getD i false=true->∀d∈kI o,ls.getD d false=true
def yR(l:aa Oper)(ls:Array Bool):Nat:=((List.range l.length).filter λj=> !ls.getD j false).length
def fF(c:cC)(l:aa Oper)(Q:Exit->Act->bq->Prop)(dQ ek:aa Nat)(fs:aa (Nat×Nat×J))(E:aa (Nat×J))(L:aa aI):Prop:=
 (tT fs E∧∀x∈fs,eO x.1 dQ=false)∧∀m ls a W,CC l dQ ek ls->yR l ls<=m->bP c (lu (λi=>ls.getD i false) E fs) L a W->wpAnyIn c.F 9 c.P .any l.toArray Q m ls a W
def xh(c:cC)(l:aa Oper)(E:aa (Nat×J))(L:aa aI)(fs:aa (Nat×Nat×J)):aa Nat->Prop
 |[]=>True
 |i::r=>(match l[i]?,BU i fs with |some o,some τ=>k0 c l.toArray (lu (λj=>eO j (kI o)) E fs) L o τ|_,_=>False)∧xh c l E L fs r
def xh.get{fs:aa (Nat×Nat×J)}:∀{nl:aa Nat},xh c l E L fs nl->∀{i:Nat},i∈nl->∃o τ,l[i]? =some o∧BU i fs=some τ∧k0 c l.toArray (lu (λj=>eO j (kI o)) E fs) L o τ
 | j::r,h,i,au=>by
   rcases dW.1 au with rfl|au
   ·have h1:=h.1;cases ae:l[i]? with
    |none=>rw[ae]at h1;exact h1.elim
    | some o=>
      cases az:BU i fs with
      |none=>rw[ae,az]at h1;exact h1.elim
      |some τ=>rw[ae,az]at h1;exact⟨o,τ,rfl,rfl,h1⟩
   exact xh.get h.2 au
def hU(c:cC)(l:aa Oper)(Q:Exit->Act->bq->Prop)(dQ ek:aa Nat)(fs:aa (Nat×Nat×J))(E:aa (Nat×J))(L:aa aI)(k:Nat):Prop:=
 tT fs E->∀m ls o,l[k]? =some o->CC l dQ ek ls->ls.getD k false=false->(∀d∈kI o,ls.getD d false=true)->yR l (ls.setIfInBounds k true)<=m->
  ad c l.toArray (pQ (wpAnyIn c.F 9 c.P .any l.toArray Q m (ls.setIfInBounds k true)) Q) [o] (lu (λi=>ls.getD i false) E fs) L
def y6(c:cC)(l:aa Oper)(Q:Exit->Act->bq->Prop)(dQ ek:aa Nat)(fs:aa (Nat×Nat×J))(E:aa (Nat×J))(L:aa aI):aa Nat->Prop
 |[]=>True
 |k::r=>hU c l Q dQ ek fs E L k∧y6 c l Q dQ ek fs E L r
def y6.get{dQ ek:aa Nat}{fs:aa (Nat×Nat×J)}:∀{el:aa Nat},y6 c l Q dQ ek fs E L el->∀{k:Nat},k∈el->hU c l Q dQ ek fs E L k
 | _::_,h,k,hk=>by
   rcases dW.1 hk with rfl|hk
   ·exact h.1
   exact y6.get h.2 hk
def JX(l:aa Oper):aa Nat->aa Nat->Bool
 |_,[]=>true
 |acc,i::r=>(acc.any λk=>match l[k]? with |some o=>eO i (kI o)|none=>false)&&JX l (i::acc) r
def Qk{ls:Array Bool}(hd:∀i o,l[i]? =some o->ls.getD i false=true->∀d∈kI o,ls.getD d false=true):∀{lS acc:aa Nat},JX l acc lS=true->(∀k∈acc,ls.getD k false=true)->∀i∈lS,ls.getD i false=true
 | i::r,acc,h,aY,j,aC=>by
   simp only[JX,gq,pc]at h;obtain⟨⟨k,hk,h1⟩,ae⟩:=h;have au:ls.getD i false=true:=by
    cases a8:l[k]? with
    |none=>rw[a8]at h1;cases h1
    |some o=>rw[a8]at h1;exact hd k o a8 (aY k hk) i (mS.1 h1)
   rcases dW.1 aC with rfl|aC
   ·exact au
   exact Qk hd ae (λk hk=>by rcases dW.1 hk with rfl|hk;exact au;exact aY k hk) j aC
def E4(l:aa Oper):aa Nat->aa Nat->Bool
 |_,[]=>true
 |acc,i::r=>(match l[i]? with |some o=>acc.any λk=>eO k (kI o)|none=>false)&&E4 l (i::acc) r
def Mq{ls:Array Bool}(hd:∀i o,l[i]? =some o->ls.getD i false=true->∀d∈kI o,ls.getD d false=true):∀{ug acc:aa Nat},E4 l acc ug=true->(∀k∈acc,ls.getD k false=false)->∀i∈ug,ls.getD i false=false
 | i::r,acc,h,aY,j,aC=>by
   simp only[E4,gq]at h;obtain⟨h1,ae⟩:=h;have au:ls.getD i false=false:=by
    cases a8:l[i]? with
    |none=>rw[a8]at h1;cases h1
    | some o=>
      rw[a8,pc]at h1
      obtain⟨k,hk,az⟩:=h1
      cases ao:ls.getD i false with
      |false=>rfl
      |true=>have:=hd i o a8 ao k (mS.1 az);rw[aY k hk]at this;cases this
   rcases dW.1 aC with rfl|aC
   ·exact au
   exact Mq hd ae (λk hk=>by rcases dW.1 hk with rfl|hk;exact au;exact aY k hk) j aC
def yq(l:aa Oper)(dQ ek:aa Nat):aa Nat->aa Nat->aa Nat
 |[],acc=>acc
 |i::r,acc=>yq l dQ ek r (match l[i]? with |some o=>(bif (eO i dQ&& !eO i ek)||(kI o).any (λd=>eO d acc)then i::acc else acc)|none=>acc)
def XY{l:aa Oper}{dQ ek:aa Nat}{ls:Array Bool}(he:∀i,i∈dQ->ls.getD i false=eO i ek)(hd:∀i o,l[i]? =some o->ls.getD i false=true->∀d∈kI o,ls.getD d false=true):∀{is acc:aa Nat},(∀k∈acc,ls.getD k false=false)->∀k∈yq l dQ ek is acc,ls.getD k false=false
 |[],acc,aY,k,hk=>aY k hk
 | i::r,acc,aY,k,hk=>by
   rw[yq]at hk;revert hk;generalize aqL:(match l[i]? with |some o=>(bif (eO i dQ&& !eO i ek)||(kI o).any (λd=>eO d acc)then i::acc else acc)|none=>acc)=auz;intro hk;refine XY he hd (λj aC=>?_) k hk;rw[<-aqL]at aC;cases a8:l[i]? with
   |none=>rw[a8]at aC;exact aY j aC
   | some o=>
     rw[a8]at aC
     simp only at aC
     cases ak:(eO i dQ&& !eO i ek)||(kI o).any (λd=>eO d acc)with
     |false=>rw[ak]at aC;exact aY j aC
     | true=>
       rw[ak]at aC
       rcases dW.1 aC with rfl|aC
       ·rcases Bool.or_eq_true_iff.1 ak with h|h
        ·simp only[gq,zq]at h
         rw[he j (mS.1 h.1),h.2]
        obtain⟨d,EZ,asJ⟩:=pc.1 h
        cases nM:ls.getD j false with
        |false=>rfl
        |true=>have:=hd j o a8 nM d EZ;rw[aY d (mS.1 asJ)]at this;cases this
       exact aY j aC
def E5(l:aa Oper)(o6:Nat)(dQ ek lS nl el:aa Nat)(ks:aa (Nat×Nat))(es:aa Nat):Bool:=
 (List.range l.length).all (λi=>match l[i]? with
  |none=>false
  | some o=>(kI o).all (λd=>Nat.blt d i)&&(bif eO i dQ then eO i ek||eO i el||(kI o).any (λd=>eO d (yq l dQ ek (List.range l.length) []))
    else eO i lS||(kI o).any (λd=>eO d (yq l dQ ek (List.range l.length) []))||(eO i nl&&ks.any λx=>Nat.beq x.1 i&&(match o.dst with |some t=>Nat.beq t x.2|none=>false))))&&
 JX l ek lS&&dQ.all (λi=>Nat.blt i l.length)&&ek.all (λi=>eO i dQ)&&ks.all (λx=>Nat.blt x.1 l.length)&&decide (ks.map (·.2)).Nodup&&(ks.map (·.1)).all (λi=> !eO i dQ)&&ks.all (λx=>Nat.blt x.2 o6&& !eO x.2 es)&&decide (ks.map (·.1)).Nodup
def Qy{t:Nat}:∀{E:aa (Nat×J)},eO t (E.map (·.1))=false->look E t=none
 |[],_=>rfl
 | x::r,h=>by
   simp only[oH,eO]at h;cases hb:Nat.beq x.1 t with
   |true=>rw[hb]at h;cases h
   |false=>rw[hb]at h;simp only[look,hb,cond_false];exact Qy h
def XZ{i:Nat}{τ:J}:∀{fs:aa (Nat×Nat×J)},BU i fs=some τ->∃t,(i,t,τ)∈fs
 | x::r,h=>by
   unfold BU at h;cases hb:Nat.beq x.1 i with
   | true=>
     rw[hb]at h
     have e:x.2.2=τ:=by simpa using h
     have:=fx.1 hb
     subst this e
     exact⟨x.2.1,kt⟩
   |false=>rw[hb]at h;obtain⟨t,bE⟩:=XZ h;exact⟨t,fM _ bE⟩
def bP.EA{E':aa (Nat×J)}{a:Act}{W:bq}(s:bP c E L a W)(h:∀t τ,look E' t=some τ->look E t=some τ):bP c E' L a W:=s.less λt τ ao=>⟨τ,h t τ ao,λ_ _ _ h=>h⟩
def fF.core{o6:Nat}{dQ ek:aa Nat}{fs:aa (Nat×Nat×J)}{ks:aa (Nat×Nat)}{es:aa Nat}(lS nl el:aa Nat)(ax:xh c l E L fs nl)(aJ:y6 c l Q dQ ek fs E L el)
 (nb:(∀k∈dQ,k∈ek)->aq c Q .normal (lu (λ_=>true) E fs) L) (fP:fs.map (λx=>(x.1,x.2.1))=ks) (iT:E.map (·.1)=es) (tU:c.n=o6) (cI:E5 l o6 dQ ek lS nl el ks es=true):fF c l Q dQ ek fs E L:=by
 subst fP iT tU
 simp only[E5,gq,ns,fk,uy]at cI
 obtain⟨⟨⟨⟨⟨⟨⟨⟨qi,TQ⟩,tL⟩,TR⟩,mb⟩,kQ⟩,dm⟩,qt⟩,EW⟩:=cI
 have ok:tT fs E:=⟨by simpa[E3,Function.comp_def]using kQ,λt bE=>by
  obtain⟨x,an,rfl⟩:=gJ.1 bE;have:=qt (x.1,x.2.1) (gJ.2 ⟨x,an,rfl⟩);exact Qy (by simpa using this.2)⟩
 have EW:(fs.map (·.1)).Nodup:=by simpa[Function.comp_def]using EW
 have sI:∀i,i<l.length->∃o,l[i]? =some o∧(∀d∈kI o,d<i)∧((bif eO i dQ then eO i ek||eO i el||(kI o).any (λd=>eO d (yq l dQ ek (List.range l.length) []))
  else eO i lS||(kI o).any (λd=>eO d (yq l dQ ek (List.range l.length) []))||(eO i nl&&(fs.map λx=>(x.1,x.2.1)).any λx=>Nat.beq x.1 i&&(match o.dst with |some t=>Nat.beq t x.2|none=>false)))=true):=λi au=>by
  have h:=qi i (nX.2 au)
  cases a8:l[i]? with
  |none=>rw[a8]at h;cases h
  | some o=>
    rw[a8]at h
    simp only[gq,ns]at h
    exact⟨o,rfl,λd hd=>by simpa using h.1 d hd,h.2⟩
 have fb:∀(ls:Array Bool),CC l dQ ek ls->∀(o:Oper),(∀d∈kI o,ls.getD d false=true)->(kI o).any (λd=>eO d (yq l dQ ek (List.range l.length) []))=false:=λls inv o hd=>by
  rw[xp];intro d EZ h;have:=XY inv.eq inv.xg (by simp) d (mS.1 h);rw[hd d EZ]at this;cases this
 have ch:∀(ls:Array Bool),CC l dQ ek ls->∀i,ls.getD i false=true->i<l.length:=λls inv i h=>by
  rw[<-inv.size];rcases uz i ls.size with c8|c8
  ·exact c8
  simp[U3 c8]at h
 have tn:∀(ls:Array Bool) (a:Act) (W:bq),CC l dQ ek ls->(∀i,i<l.length->ls.getD i false=true)->bP c (lu (λi=>ls.getD i false) E fs) L a W->Region.ready .any l.toArray ls=[]∧Q .normal a W:=λls a W inv h st=>by
  refine⟨?_,nb (λk hk=>?_) a W (st.EA λt τ ao=>(ny ok).2 (((ny ok).1 ao).imp (λ⟨i,_,ae⟩=>⟨i,?_,ae⟩) id))⟩
  ·rw[List.eq_nil_iff_forall_not_mem];intro j aC;obtain⟨h1,o,a8,_⟩:=xz.1 aC;have E0:j<l.length:=by simpa using (s5.1 a8).1
   have:=getD_both h1;rw[h j E0]at this;cases this
  ·have:=inv.eq k hk;rw[h k (by simpa using tL k hk)]at this;exact mS.1 this.symm
  have:=mb (i,t) (gJ.2 ⟨_,ae,rfl⟩);exact h i (by simpa using this)
 have IA:∀(ls:Array Bool),CC l dQ ek ls->(∀i,i<l.length->ls.getD i false=true)∨∃i,i<l.length∧ls.getD i false=false:=λls inv=>by
  by_cases h:∃i,i<l.length∧ls.getD i false=false
  ·exact .inr h
  refine .inl λi au=>?_;cases ao:ls.getD i false with
  |true=>rfl
  |false=>exact absurd ⟨i,au,ao⟩ h
 refine⟨⟨ok,λx an=>?_⟩,λm=>?_⟩
 ·have:=dm x.1 (gJ.2 ⟨x,an,rfl⟩)
  simpa using this
 induction m with
 | zero=>
   intro ls a W inv hm st
   rcases IA ls inv with h|⟨i,au,h⟩
   ·exact tn ls a W inv h st
   have:i∈(List.range l.length).filter λj=> !ls.getD j false:=uw.2 ⟨nX.2 au,by rw[h];rfl⟩
   unfold yR at hm
   rw[KJ.1 (Nat.le_zero.1 hm)]at this;cases this
 | succ m b6=>
   intro ls a W inv hm st
   refine⟨λbJ=>?_,λi au=>?_⟩
   ·rcases IA ls inv with h|⟨i,au,h⟩
    ·exact(tn ls a W inv h st).2
    exfalso
    have key:∀d i,i<=d->i<l.length->ls.getD i false=true:=by
     intro d;induction d with
     | zero=>
       intro i JT au
       cases ao:ls.getD i false with
       |true=>rfl
       | false=>
         obtain⟨o,a8,hd,_⟩:=sI i au
         have:i∈Region.ready .any l.toArray ls:=xz.2 ⟨getD_in (by rw[inv.size];exact au) ao,o,by simpa using a8,λe he hb=>by
          have:=hd e.on (HT.2 ⟨e,by simpa using he,hb,rfl⟩);omega⟩
         rw[bJ]at this;cases this
     | succ d TI=>
       intro i JT au
       cases ao:ls.getD i false with
       |true=>rfl
       | false=>
         obtain⟨o,a8,hd,_⟩:=sI i au
         have:i∈Region.ready .any l.toArray ls:=xz.2 ⟨getD_in (by rw[inv.size];exact au) ao,o,by simpa using a8,λe he hb=>by
          have h1:=hd e.on (HT.2 ⟨e,by simpa using he,hb,rfl⟩);exact TI e.on (by omega) (by omega)⟩
         rw[bJ]at this;cases this
    rw[key i i (jF _) au]at h;cases h
   obtain⟨l9,o,a8,Rc⟩:=xz.1 au
   have l9:=getD_both l9
   have qo:l[i]? =some o:=by simpa using a8
   have tQ:i<l.length:=(hh.1 qo).1
   have q4:∀d∈kI o,ls.getD d false=true:=λd hd=>by
    obtain⟨e,h1,ae,rfl⟩:=HT.1 hd;exact Rc e (by simpa using h1) ae
   have h2:∀j,(ls.setIfInBounds i true).getD j false=true->ls.getD j false=true∨j=i:=λj aC=>by
    by_cases e:i=j
    ·exact .inr e.symm
    rw[getD_set_ne false e]at aC;exact .inl aC
   have vd:yR l (ls.setIfInBounds i true)<=m:=by
    have:yR l (ls.setIfInBounds i true)<yR l ls:=by
     refine Zi (λj=> !ls.getD j false) (λj=> !(ls.setIfInBounds i true).getD j false) i (by simp only[l9];rfl) (by simp[inv.size,tQ]) (λj aC=>?_) l.length tQ;cases nM:ls.getD j false with
     |false=>rfl
     |true=>simp only[getD_set_true nM]at aC;cases aC
    omega
   obtain⟨cL,fg,_,Eo⟩:=sI i tQ
   rw[qo]at fg;cases fg
   cases eo:eO i dQ with
   | true=>
     rw[eo]at Eo
     simp only[cond_true,nW]at Eo
     rcases Eo with(h1|h1)|h1
     ·have:=inv.eq i (mS.1 eo)
      rw[l9,h1]at this;cases this
     ·exact Qa a8 (y6.get aJ (mS.1 h1) ok m ls o qo inv l9 q4 vd a W st)
     rw[fb ls inv o q4]at h1;cases h1
   | false=>
     rw[eo]at Eo
     simp only[cond_false,nW]at Eo
     rcases Eo with(h1|h1)|h1
     ·have:=Qk inv.xg TQ (λk hk=>by rw[inv.eq k (mS.1 (TR k hk))];exact mS.2 hk) i (mS.1 h1)
      rw[l9]at this;cases this
     ·rw[fb ls inv o q4]at h1;cases h1
     simp only[gq,pc]at h1
     obtain⟨h1,⟨x,an,gR,mc⟩⟩:=h1
     obtain⟨y,hy,rfl⟩:=gJ.1 an
     obtain⟨hf,τ,rT,aW,hH⟩:=xh.get ax (mS.1 h1)
     rw[qo]at rT;cases rT
     obtain⟨t,bE⟩:=XZ aW
     have asK:=fx.1 gR
     have:=MM EW hy bE asK
     subst this
     have abS:o.dst=some t:=by
      cases hd:o.dst with
      |none=>rw[hd]at mc;cases mc
      |some z=>rw[hd]at mc;rw[fx.1 mc]
     have aM:Nat.blt t c.n=true:=by
      have:=qt (i,t) an;simp only[gq]at this;exact this.1
     have st2:bP c (lu (λj=>eO j (kI o)) E fs) L a W:=st.EA λu σ h=>SB (λj aC=>q4 j (mS.1 aC)) ok h
     have inv2:CC l dQ ek (ls.setIfInBounds i true):=⟨by rw[OU];exact inv.size,λk hk=>(by
      rw[getD_set_ne false (λe=>by subst e;rw[mS.2 hk]at eo;cases eo)];exact inv.eq k hk),λk asL hA hk d hd=>(by
      rcases h2 k hk with h|rfl
      ·exact getD_set_true (inv.xg k asL hA h d hd)
      rw[qo]at hA;cases hA;exact getD_set_true (q4 d hd))⟩
     have fin:∀v W',Fr [] W W'->τ.holds (ks L++c.b3) W' v->wpAnyIn c.F 9 c.P .any l.toArray Q m (ls.setIfInBounds i true) (a.put o.dst v) W':=λv W' f ba=>by
      refine b6 _ _ _ inv2 vd ?_;rw[abS];exact((st.world f).put (by simpa using aM) ba).EA λu σ h=>ai2 h2 ok bE EW h
     have acU:=hH a W st2
     unfold wpOpIn
     simp only[a8]
     split
     ·rename_i hw
      exact h0.wpIn (acU.1 hw) λv W' ⟨f,ba⟩=>fin v W' f ba
     rename_i hw
     exact⟨λ_ _=>trivial,fin undef W (.refl _ _) (acU.2 (by simpa using hw))⟩
def hU.of{dQ ek:aa Nat}{fs:aa (Nat×Nat×J)}{k:Nat}{γ:Type}(ug:γ->aa (Nat×J))(ady:γ->aa (Nat×Nat×J))(L':γ->aa aI){ks:aa Nat}(S:∀g,fF c l Q dQ (k::ek) (ady g++fs) (ug g++E) (L' g))
 (h:∀o,l[k]? =some o->∀(dA:Exit->Act->bq->Prop) (iv:aa (Nat×J)),(∀{t τ},look (lu (λj=>eO j (kI o)) E fs) t=some τ->look iv t=some τ)->(∀g,aq c dA .normal (ug g++iv) (L' g))->ad c l.toArray dA [o] iv L)
 (hk:eO k dQ=true:=by rfl) (fP:∀g,(ady g).map (·.1)=ks:=by exact λ_=>rfl) (cI:E4 l [k] ks=true:=by kernel_rfl):hU c l Q dQ ek fs E L k:=λok m ls o a8 inv l9 q4 vd=>by
 refine h o a8 _ _ (λh=>SB (λj aC=>q4 j (mS.1 aC)) ok h) λg a W st=>?_
 obtain⟨⟨JY,TS⟩,lT⟩:=S g
 have mb:k<ls.size:=by rw[inv.size];exact(hh.1 a8).1
 have h2:∀j,(ls.setIfInBounds k true).getD j false=true->ls.getD j false=true∨j=k:=λj aC=>by
  by_cases e:k=j
  ·exact .inr e.symm
  rw[getD_set_ne false e]at aC;exact .inl aC
 refine lT m _ a W ⟨by rw[OU];exact inv.size,λj aC=>?_,λj vz nL aC d hd=>?_⟩ vd (st.EA λt τ ao=>alB JY.app ((ny JY.app).2 (((ny JY).1 ao).imp (λ⟨i,h1,ae⟩=>?_) id)))
 ·by_cases e:k=j
  ·subst e
   simp[mb,eO]
  rw[getD_set_ne false e,inv.eq j aC]
  show _=bif Nat.beq k j then true else eO j ek
  cases hb:Nat.beq k j with
  |false=>rfl
  |true=>exact absurd (fx.1 hb) e
 ·rcases h2 j aC with h|rfl
  ·exact getD_set_true (inv.xg j vz nL h d hd)
  rw[a8]at nL;cases nL;exact getD_set_true (q4 d hd)
 have oY:i≠k:=λe=>by have:=TS _ ae;rw[e,hk]at this;cases this
 have yP:=(h2 i h1).resolve_right oY
 rcases cz.1 ae with az|az
 ·have:=Mq inv.xg cI (λj aC=>by rw[hi.1 aC];exact l9) i (by rw[<-fP g];exact gJ.2 ⟨_,az,rfl⟩)
  rw[yP]at this;cases this
 exact⟨i,yP,az⟩
inductive uh(fs:List (Nat×Nat×J))(ks:List Nat):List (Nat×Nat×J)->Prop
 |nil:uh fs ks []
 |new {i t:Nat} {τ:J} {r:List (Nat×Nat×J)}:eO i ks=true->uh fs ks r->uh fs ks ((i,t,τ)::r)
 |eG {i t:Nat} {τ:J} {r:List (Nat×Nat×J)}:NQ i fs=some (t,τ)->uh fs ks r->uh fs ks ((i,t,τ)::r)
def X0{i t:Nat}{τ:J}:∀{fs:aa (Nat×Nat×J)},NQ i fs=some (t,τ)->(i,t,τ)∈fs
 | x::r,h=>by
   unfold NQ at h;cases hb:Nat.beq x.1 i with
   | true=>
     rw[hb]at h
     have e:x.2=(t,τ):=by simpa using h
     have:=fx.1 hb
     subst this
     rw[<-e];exact kt
   |false=>rw[hb]at h;exact fM _ (X0 h)
def uh.mem{fs:aa (Nat×Nat×J)}{ks:aa Nat}{i t:Nat}{τ:J}:∀{gs:aa (Nat×Nat×J)},uh fs ks gs->(i,t,τ)∈gs->i∈ks∨(i,t,τ)∈fs
 | _,.new h1 ae,hm=>by
   rcases dW.1 hm with e|hm
   ·cases e;exact .inl (mS.1 h1)
   exact ae.mem hm
 | _,.eG h1 ae,hm=>by
   rcases dW.1 hm with e|hm
   ·cases e;exact .inr (X0 h1)
   exact ae.mem hm
def hU.to{dQ ek TT:aa Nat}{fs:aa (Nat×Nat×J)}{k:Nat}{γ:Type}{TU:γ->aa (Nat×Nat×J)}{iv:γ->aa (Nat×J)}{L2:γ->aa aI}(ks:aa Nat)(ug:γ->aa (Nat×J))(S:∀g,fF c l Q dQ TT (TU g) (iv g) (L2 g))
 (h:∀o,l[k]? =some o->∀(dA:Exit->Act->bq->Prop) (UC:aa (Nat×J)),(∀{t τ},look (lu (λj=>eO j (kI o)) E fs) t=some τ->look UC t=some τ)->(∀g,aq c dA .normal (ug g++UC) (L2 g))->ad c l.toArray dA [o] UC L)
 (hk:eO k dQ=true:=by rfl) (TR:(dQ.all λi=>eO i TT==eO i (k::ek))=true:=by rfl) (lP:∀g,uh fs ks (TU g):=by intro _;repeat (first|exact uh.nil|refine uh.eG I ?_|refine uh.new I ?_)) (aJ:∀g,eZ (ug g++E) (iv g):=by intro _;repeat (first|exact eZ.nil|refine eZ.same I ?_))
 (hd:∀g,((TU g).all λx=> !eO x.2.1 ((ug g).map (·.1)))=true:=by exact λ_=>rfl) (cI:E4 l [k] ks=true:=by kernel_rfl):hU c l Q dQ ek fs E L k:=λok m ls o a8 inv l9 q4 vd=>by
 refine h o a8 _ _ (λh=>SB (λj aC=>q4 j (mS.1 aC)) ok h) λg a W st=>?_
 obtain⟨⟨JY,TS⟩,lT⟩:=S g
 have mb:k<ls.size:=by rw[inv.size];exact(hh.1 a8).1
 have h2:∀j,(ls.setIfInBounds k true).getD j false=true->ls.getD j false=true∨j=k:=λj aC=>by
  by_cases e:k=j
  ·exact .inr e.symm
  rw[getD_set_ne false e]at aC;exact .inl aC
 refine lT m _ a W ⟨by rw[OU];exact inv.size,λj aC=>?_,λj vz nL aC d hd=>?_⟩ vd (st.less λt τ ao=>?_)
 ·have ae:eO j TT=eO j (k::ek):=by simpa using List.all_eq_true.1 TR j aC
  rw[ae]
  by_cases e:k=j
  ·subst e
   simp[mb,eO]
  rw[getD_set_ne false e,inv.eq j aC]
  show _=bif Nat.beq k j then true else eO j ek
  cases hb:Nat.beq k j with
  |false=>rfl
  |true=>exact absurd (fx.1 hb) e
 ·rcases h2 j aC with h|rfl
  ·exact getD_set_true (inv.xg j vz nL h d hd)
  rw[a8]at nL;cases nL;exact getD_set_true (q4 d hd)
 rcases (ny JY).1 ao with⟨i,h1,ae⟩|ae
 ·have oY:i≠k:=λe=>by have:=TS _ ae;rw[e,hk]at this;cases this
  have yP:=(h2 i h1).resolve_right oY
  have Ol:look (ug g) t=none:=Qy (by simpa using List.all_eq_true.1 (hd g) _ ae)
  refine⟨τ,?_,λ_ _ _ h=>h⟩
  rw[DR,Ol]
  rcases (lP g).mem ae with az|az
  ·have:=Mq inv.xg cI (λj aC=>by rw[hi.1 aC];exact l9) i az
   rw[yP]at this;cases this
  exact(ny ok).2 (.inl ⟨i,yP,az⟩)
 obtain⟨tH,az,aQ⟩:=(aJ g).look t τ ae
 refine⟨tH,?_,aQ⟩
 rw[DR]at az⊢
 cases aM:look (ug g) t with
 |some σ=>rw[aM]at az;exact az
 |none=>rw[aM]at az;exact(ny ok).2 (.inr az)
def fF.cut{γ:Type}{dQ ek pe':aa Nat}{fs:aa (Nat×Nat×J)}(acV:γ->aa (Nat×Nat×J))(E':γ->aa (Nat×J))(L':γ->aa aI)(h1:∀g,fF c l Q dQ pe' (acV g) (E' g) (L' g))
 (ae:(∀g,fF c l Q dQ pe' (acV g) (E' g) (L' g))->fF c l Q dQ ek fs E L):fF c l Q dQ ek fs E L:=ae h1
def fF.mid{o6:Nat}{dQ ek:aa Nat}{fs:aa (Nat×Nat×J)}{ks:aa (Nat×Nat)}{es:aa Nat}(lS nl el:aa Nat)(ax:xh c l E L fs nl)(aJ:y6 c l Q dQ ek fs E L el)(aM:dQ.all (λk=>eO k ek)=false:=by rfl)
 (fP:fs.map (λx=>(x.1,x.2.1))=ks:=by rfl) (iT:E.map (·.1)=es:=by rfl) (tU:c.n=o6:=by rfl) (cI:E5 l o6 dQ ek lS nl el ks es=true:=by kernel_rfl):fF c l Q dQ ek fs E L:=
 .core lS nl el ax aJ (λh=>absurd (show dQ.all (λk=>eO k ek)=true from ns.2 λk hk=>mS.2 (h k hk)) (by rw[aM];simp)) fP iT tU cI
def fF.last{o6:Nat}{dQ ek:aa Nat}{fs:aa (Nat×Nat×J)}{ks:aa (Nat×Nat)}{es:aa Nat}(lS nl:aa Nat)(ax:xh c l E L fs nl)(nb:aq c Q .normal (lu (λ_=>true) E fs) L)
 (fP:fs.map (λx=>(x.1,x.2.1))=ks:=by rfl) (iT:E.map (·.1)=es:=by rfl) (tU:c.n=o6:=by rfl) (cI:E5 l o6 dQ ek lS nl [] ks es=true:=by kernel_rfl):fF c l Q dQ ek fs E L:=
 .core lS nl [] ax cZ (λ_=>nb) fP iT tU cI
def ay.yC{kj:Nat}(hm:c.P.follows .mixedOrders=true)(dQ:aa Nat)(fs:aa (Nat×Nat×J))(h:fF c l Q dQ [] fs E L):ay c Q (.region kj l.toArray true) E L:=λa W s=>by
 refine wpIn_region_any hm ?_;have b2:∀i,(Array.replicate l.toArray.size false).getD i false=false:=λi=>by
  rcases uz i l.length with h|h <;> simp[h]
 have:=h.2 l.toArray.size (Array.replicate l.toArray.size false) a W.drew ⟨by simp,λi _=>b2 i,λi o _ h=>by rw[b2]at h;cases h⟩ ?_ ((s.world (Fr.drew W)).EA λt τ ao=>?_)
 ·simpa using this
 ·unfold yR;exact qH (FO _ _) (by simp)
 rcases (ny h.1.1).1 ao with⟨i,h1,_⟩|h1
 ·rw[b2]at h1;cases h1
 exact h1
def aic{F:Fence}{n:Nat}{P:Program}{o:Oper}{a:Act}{next:Act->bq->Prop}{K:Act->bq->Prop}{Q:Exit->Act->bq->Prop}:∀{r:Result Next},o.uponIn F n P a next Q r->o.uponIn F n P a next (pQ K Q) r:=λ{r} h=>by
 cases r with
 | ok x w=>
   cases x <;> simp only[Oper.uponIn]at h⊢ <;> first
    |exact h
    |exact⟨h.1,CallsIn.mono h.2 (λe vo he=>by cases e <;> exact he)⟩
    |exact⟨h.1,RoundIn.mono h.2 (λe vo he=>by cases e <;> exact he)⟩
 |halt x w=>cases x <;> simp only[Oper.uponIn]at h⊢ <;> exact h
def alC{F:Fence}{n:Nat}{P:Program}{ops:Array Oper}{Q:Exit->Act->bq->Prop}{o:Oper}{rest:aa Oper}{a:Act}{w:bq}{K:Act->bq->Prop}(ov:∀a w,wpListIn F n P ops Q rest a w->K a w)(h:wpListIn F n P ops Q (o::rest) a w):wpListIn F n P ops (pQ K Q) [o] a w:=by
 unfold wpListIn at h⊢;split
 ·rename_i hw;rw[bk hw]at h;have h:=Oper.wpIn_mono ov h;exact⟨h.1,aic h.2⟩
 rename_i hw;rw[bf hw]at h;exact⟨h.1,ov _ _ h.2⟩
def Wy{F:Fence}{n:Nat}{P:Program}{md:Region.Mode}{ops:Array Oper}{ua:Exit->Act->bq->Prop}:∀(l:aa Oper) (k m:Nat) (cb:Array Bool) (a:Act) (w:bq),(∀j,l[j]? =ops[k+j]?)->
 Region.seqB md ops l.length k cb=true->l.length<=m->wpListIn F n P ops ua l a w->wpAnyIn F n P md ops ua m cb a w
 |[],_,0,_,_,_,_,cI,_,h=>⟨by simpa[Region.seqB]using cI,h⟩
 |[],_,m+1,_,_,_,_,cI,_,h=>⟨λ_=>h,λi au=>by rw[show Region.ready md ops _=[] by simpa[Region.seqB]using cI]at au;cases au⟩
 | o::l,k,m+1,cb,a,w,ao,cI,hm,h=>by
   have bJ:ops[k]? =some o:=by simpa using (ao 0).symm
   simp only[List.length_cons,Region.seqB,gq,fk]at cI;refine⟨λh1=>(by rw[cI.1]at h1;cases h1),λi au=>?_⟩;rw[cI.1]at au;have oY:i=k:=by simpa using au
   subst oY;have hw:wpOpIn F n P ops ua i (wpListIn F n P ops ua l) a w:=by unfold wpOpIn;simp only[bJ];exact h
   exact wpOpIn_mono (λiw rf c8=>Wy l (i+1) m _ iw rf (λj=>by have:=ao (j+1);simpa[Lq,PV 1 j]using this) cI.2 (by simpa using hm) c8) hw
def yS(k n:Nat):Array Bool:=((List.range n).map λi=>Nat.blt i k).toArray
def hU.tail{dQ ek:aa Nat}{fs:aa (Nat×Nat×J)}{k:Nat}(lS:aa Nat)(h:ad c l.toArray Q (l.drop k) (lu (λ_=>true) E fs) L)(asM:(fs.all λx=>Nat.blt x.1 k)=true:=by rfl)
 (cI:(JX l [k] lS&&(List.range k).all (λi=>eO i lS)&&E4 l [k] ((List.range (l.length-(k+1))).map (· +(k+1))))=true:=by kernel_rfl) (hs:Region.seqB .any l.toArray (l.length-(k+1)) (k+1) (yS (k+1) l.length)=true:=by kernel_rfl):hU c l Q dQ ek fs E L k:=λok m ls o a8 inv l9 q4 vd=>by
 simp only[gq,ns]at cI
 obtain⟨⟨TQ,qi⟩,asN⟩:=cI
 have mb:k<l.length:=(hh.1 a8).1
 have asO:∀i o',l[i]? =some o'->(ls.setIfInBounds k true).getD i false=true->∀d∈kI o',(ls.setIfInBounds k true).getD d false=true:=λi o' au aC d hd=>by
  by_cases e:k=i
  ·subst e;rw[a8]at au;cases au;exact getD_set_true (q4 d hd)
  rw[getD_set_ne false e]at aC;exact getD_set_true (inv.xg i o' au aC d hd)
 have yr:∀i,i<k->(ls.setIfInBounds k true).getD i false=true:=λi au=>Qk asO TQ (λj aC=>by rw[hi.1 aC];simp[inv.size,mb]) i (mS.1 (qi i (nX.2 au)))
 have h2:ls.setIfInBounds k true=yS (k+1) l.length:=by
  apply Array.ext
  ·simp[yS,inv.size]
  intro i h1 ae;have tQ:i<l.length:=by simpa[yS]using ae
  have bH:(ls.setIfInBounds k true)[i]=(ls.setIfInBounds k true).getD i false:=by
   rw[UQ,KF h1];rfl
  rw[bH];simp only[yS,List.getElem_toArray,CY,Pk];rcases Nat.lt_trichotomy i k with ch|rfl|asP
  ·rw[yr i ch];exact(Vd (by omega:i+1<=k+1)).symm
  ·have:Nat.blt i (i+1)=true:=Vd (jF _);rw[this];simp[inv.size,tQ]
  rw[getD_set_ne false (PW asP),Mq inv.xg asN (λj aC=>by rw[hi.1 aC];exact l9) i (gJ.2 ⟨i-(k+1),nX.2 (by omega),by omega⟩)];cases hb:Nat.blt i (k+1)with
  |false=>rfl
  |true=>have:=pb hb;omega
 have aoG:(l.drop (k+1)).length<=m:=by
  refine qH ?_ vd;rw[h2];unfold yR;have aE:List.range l.length=List.range (k+1)++(List.range (l.length-(k+1))).map ((k+1)+ ·):=by
   rw[<-List.range_add];congr 1;omega
  have aW:((List.range (l.length-(k+1))).map ((k+1)+ ·)).filter (λj=> !(yS (k+1) l.length).getD j false)=(List.range (l.length-(k+1))).map ((k+1)+ ·):=by
   refine xm.2 λx an=>?_;obtain⟨y,hy,rfl⟩:=gJ.1 an;have hy:=nX.1 hy;rw[UQ,KF (by simp[yS];omega)];simp only[yS,List.getElem_toArray,CY,Pk,Option.getD_some];cases hb:Nat.blt (k+1+y) (k+1)with
   |false=>rfl
   |true=>have:=pb hb;omega
  rw[aE,uv,gj,aW];simp
 have hd:l.drop k=o::l.drop (k+1):=by rw[vE mb];congr 1;exact(hh.1 a8).2
 rw[hd]at h
 intro a W st
 refine alC (λiw W' c8=>?_) (show c.tG l.toArray Q (o::l.drop (k+1)) a W from h a W (st.EA λt τ ao=>(ny ok).2 (((ny ok).1 ao).imp (λ⟨i,_,ae⟩=>⟨i,?_,ae⟩) id)))
 ·rw[h2]
  exact Wy (l.drop (k+1)) (k+1) m _ iw W' (λj=>by simp) (by simpa using hs) aoG c8
 have oY:i<k:=by have:=ns.1 asM _ ae;exact pb this
 have:=yr i oY
 rw[getD_set_ne false (by omega)]at this
 exact this
end
class cy (P:Program) (s f:Nat) {β γ:outParam Type} [CD:aj β] [Kp:aj γ] (l:outParam (aP β γ)):Prop where
 fd:yK P s f l.off
class ie (P:Program) (t:bF) (e:outParam bF) (α:outParam Type) [Kq:aj α]:Prop where
 hu:P.underlying t=some (.slice e)
 eM:bS P e α
class Fk (P:Program) (t:bF) (α:Type) [aj α] [DecidableEq α] (k:outParam Nat):Prop where
 vy:nf P t α k
 CE:P.eqGuardType P.depth t=false
 aM:Nat.ble k 10000=true
class oC (P:Program) (t:bF) (d:outParam TypeDesc):Prop where
 hu:P.underlying t=some d
class avt (P:Program) (s f:Nat) (t:outParam Nat) {β γ:outParam Type} [CD:aj β] [Kp:aj γ] (l:outParam (aP β γ)):Prop where
 adm:OD P s f t l.off
class ji (P:Program) (f:FuncId) (α ρ:outParam Type) (L:outParam (α->aA ρ)) (τ:outParam (α->J)) (lU:outParam (ρ->J)):Prop where
 cj:bL P f
 m:∀x r,L x=some r->cE P f [τ x] (lU r)
class eI (P:Program) (f:FuncId) (α β ρ:outParam Type) (L:outParam (α->β->aA ρ)) (τ:outParam (α->J)) (σ:outParam (β->J)) (lU:outParam (ρ->J)):Prop where
 cj:bL P f
 m:∀x y r,L x y=some r->cE P f [τ x,σ y] (lU r)
class o4 (P:Program) (f:FuncId) (α β γ ρ:outParam Type) (L:outParam (α->β->γ->aA ρ)) (τ:outParam (α->J)) (σ:outParam (β->J)) (CF:outParam (γ->J)) (lU:outParam (ρ->J)):Prop where
 cj:bL P f
 m:∀x y z r,L x y z=some r->cE P f [τ x,σ y,CF z] (lU r)
theorem ji.i{P:Program}{f:FuncId}{α ρ:Type}{L:α->aA ρ}{τ:α->J}{lU:ρ->J}{fn:Func}{code:Code}{n:Nat}(aW:P.funcs[f]? =some fn)(hb:fn.body=some code)(aM:fn.ntmps=n)(ao:Nat.ble 1 n=true)
 (h:∀ x r,L x=some r→ ∀ W A,ay ⟨P,n,W,[],A,none,[]⟩ (bodyPost P fn (vc ⟨P,n,W,[],A,none,[]⟩ (lU r))) code (params 0 [τ x]) []) (hm:(fn.name== "runtime.NumGoroutine")=false:=by kernel_rfl):ji P f α ρ L τ lU:=
 ⟨⟨fn,aW,by rw[hb];rfl,hm⟩,λx r e=>.of aW hb aM ao (h x r e)⟩
theorem eI.i{P:Program}{f:FuncId}{α β ρ:Type}{L:α->β->aA ρ}{τ:α->J}{σ:β->J}{lU:ρ->J}{fn:Func}{code:Code}{n:Nat}(aW:P.funcs[f]? =some fn)(hb:fn.body=some code)(aM:fn.ntmps=n)(ao:Nat.ble 2 n=true)
 (h:∀ x y r,L x y=some r→ ∀ W A,ay ⟨P,n,W,[],A,none,[]⟩ (bodyPost P fn (vc ⟨P,n,W,[],A,none,[]⟩ (lU r))) code (params 0 [τ x,σ y]) []) (hm:(fn.name== "runtime.NumGoroutine")=false:=by kernel_rfl):eI P f α β ρ L τ σ lU:=
 ⟨⟨fn,aW,by rw[hb];rfl,hm⟩,λx y r e=>.of aW hb aM ao (h x y r e)⟩
theorem o4.i{P:Program}{f:FuncId}{α β γ ρ:Type}{L:α->β->γ->aA ρ}{τ:α->J}{σ:β->J}{CF:γ->J}{lU:ρ->J}{fn:Func}{code:Code}{n:Nat}(aW:P.funcs[f]? =some fn)(hb:fn.body=some code)(aM:fn.ntmps=n)(ao:Nat.ble 3 n=true)
 (h:∀ x y z r,L x y z=some r→ ∀ W A,ay ⟨P,n,W,[],A,none,[]⟩ (bodyPost P fn (vc ⟨P,n,W,[],A,none,[]⟩ (lU r))) code (params 0 [τ x,σ y,CF z]) []) (hm:(fn.name== "runtime.NumGoroutine")=false:=by kernel_rfl):o4 P f α β γ ρ L τ σ CF lU:=
 ⟨⟨fn,aW,by rw[hb];rfl,hm⟩,λx y z r e=>.of aW hb aM ao (h x y z r e)⟩
section
variable(P:Program)(f:FuncId)(τs:aa J){bM:Type}[dZ bM](hp:aL bM)
abbrev jA(ρ:J)(cQ:aL bM):Prop:=bV P f τs ([]++aX hp) (δ:=Unit) (λ_=>ρ) (λ_=>[]++aX cQ)
abbrev lM{α:Type}[aj α](Q:α×aL bM->Prop):Prop:=bV P f τs ([]++aX hp) (δ:= {r:α×aL bM // Q r}×Unit) (λd=>J.of d.1.1.1) (λd=>[]++aX d.1.1.2)
abbrev B6(Q:aL bM->Prop):Prop:=bV P f τs ([]++aX hp) (δ:= {r:aL bM // Q r}×Unit) (λ_=>J.b7 []) (λd=>[]++aX d.1.1)
abbrev vx(p:Nat){α:Type}[aj α](x:α)(ρ:J)(y:α):Prop:=bV P f τs [aZ p x] (δ:=Unit) (λ_=>ρ) (λ_=>[aZ p y])
end
def acw{q:Prop}{u:bt}(hb:q):∀A W v,(J.cond q (.eq u)).holds A W v->v=u:=λ_ _ _ h=>h.1 hb
abbrev J.kY(p:Nat){β γ:Type}[aj β][aj γ](l:aP β γ):J:=.eq (.pointer (some ⟨p,l.off,none⟩))
structure ui(p:Prop):Prop where
 k:p
def eR{p q:Prop}(a:p)(b:q):p∧q:=⟨a,b⟩
def kn:True:=trivial
inductive At:List aI->Nat->aI->Prop
 |z {e r}:At (e::r) 0 e
 |s {e f r j}:At r j e->At (f::r) (j+1) e
def At.get:∀{L j e},At L j e->L[j]? =some e
 |_,_,_,.z=>rfl
 |_,_,_,.s h=>by simpa using h.get
def At.g{L:aa aI}{j:Nat}{e:aI}(h:At L j e:=by repeat (first|exact At.z|apply At.s)):L[j]? =some e:=h.get
inductive uj:List aI->aI->aI->List aI->Prop
 |z {e f r}:uj (e::r) e f (f::r)
 |s {e f g r s}:uj r e f s->uj (g::r) e f (g::s)
def uj.get:∀{L e f M},uj L e f M->∃j,L[j]? =some e∧L.set j f=M
 |_,_,_,_,.z=>⟨0,rfl,rfl⟩
 |_,_,_,_,.s h=>let⟨j,h1,ae⟩:=h.get; ⟨j+1,by simpa using h1,by simp[ae]⟩
inductive uk{bM:Type}[dZ bM]:List aI->aL bM->Prop
 |z {hp}:uk (aX hp) hp
 |s {e r hp}:uk r hp->uk (e::r) hp
def uk.get{bM:Type}[dZ bM]{L:aa aI}{hp:aL bM}(h:uk L hp):∃n,L.drop n=aX hp:=by
 induction h with
 |z=>exact⟨0,rfl⟩
 |s _ b6=>exact⟨b6.choose+1,b6.choose_spec⟩
class y7 (β:Type) [aj β] {bM:outParam Type} [dZ bM] (rd:outParam (aL bM->Nat->aA β)):Prop where
 ok:∀{hp p x},rd hp p=some x->∃k,pat hp p=some k∧dZ.gd p k=[⟨some p,.var x⟩]
class UD (P:Program):Prop where
 m:P.follows .mixedOrders=true
section
variable{c:cC}{E:aa (Nat×J)}{L L':aa aI}{ops:Array Oper}{Q:Exit->Act->bq->Prop}{rest:aa Oper}{o:Oper}{d:aA Tmp}{bc:Nat}
variable{ty:bF}{pos:String}{af:Array Edge}{g:aA (Nat×Bool)}{x y:ca}{t t2:bF}
def fact{p:Prop}(h:p:=by first|with_reducible assumption|(apply hl (hb:=hb);with_reducible assumption)):p:=h
def aid(k:Nat)(h:Nat.blt k 18446744073709551616=true:=by rfl):aU c E L (.const (.int .u64 (Int.ofNat k))) (.of (BitVec.ofNat 64 k)):=Ab _ (by simp[Nat.blt]at h⊢;omega)
def fp{σ:J}(h:aU c E L x σ:=by first|exact cW I hb|exact cW I hb.1|exact ag I|exact dd _|exact h7 _|exact fX _|exact aid _|exact cW (aJ _ _ I) hb|exact cW (aJ _ _ I) hb.1|exact ag (aJ _ _ I)):aU c E L x σ:=h
def lQ{σ τ:J}(h:aU c E L x σ->bj c E L o τ)(an:aU c E L x σ:=by exact fp):bj c E L o τ:=h an
def mn{σ q7 τ:J}(h:aU c E L x σ->aU c E L y q7->bj c E L o τ)(an:aU c E L x σ:=by exact fp)(hy:aU c E L y q7:=by exact fp):bj c E L o τ:=h an hy
def aoH{i:Nat}{τs:aa J}{τ:J}(an:aU c E L x (.b7 τs):=by exact fp)(au:τs[i]? =some τ:=by rfl):bj c E L ⟨d,.extract x i,ty,pos,af,g⟩ τ:=El an au
def aqM{p j:Nat}{β γ:Type}[aj β][aj γ]{b:β}{l:aP β γ}[k:bS c.P t γ](an:aU c E L x (.kY p l):=by exact fp)(ax:L[j]? =some ⟨some p,.var b⟩:=by first|exact At.g|exact ax _ _ At.g I):bj c E L ⟨d,.load t x,ty,pos,af,g⟩ (.of (l.get b)):=
 gz l k an ax I I
def aqN{p j:Nat}{β:Type}[aj β]{b:β}[k:bS c.P t β](an:aU c E L x (.dv p):=by exact fp)(ax:L[j]? =some ⟨some p,.var b⟩:=by first|exact At.g|exact ax _ _ At.g I):bj c E L ⟨d,.load t x,ty,pos,af,g⟩ (.of b):=
 gz (aP.id β) k an ax I I
def pm{bM β:Type}[aj β][dZ bM]{rd:aL bM->Nat->aA β}{hp:aL bM}{p:Nat}{b:β}[k:y7 β rd](hd:uk L hp:=by repeat (first|exact uk.z|apply uk.s))(ak:rd hp p=some b:=by exact fact):(⟨some p,.var b⟩:aI)∈L:=by
 obtain⟨n,h1⟩:=hd.get;obtain⟨q,ae,az⟩:=k.ok ak;exact jv h1 ae az
class adz (β:Type) [aj β] {bM y8:outParam Type} [dZ bM] (rd:outParam (aL bM->Nat->aA y8)) (q:outParam (y8->β)) (os:outParam (y8->aa (Nat×bt))):Prop where
 ok:∀{hp p x},rd hp p=some x->∃k es,pat hp p=some k∧dZ.gd p k=⟨some p,.bX (q x) (os x)⟩::es
def r6{bM y8 β:Type}[aj β][dZ bM]{rd:aL bM->Nat->aA y8}{q:y8->β}{os:y8->aa (Nat×bt)}{hp:aL bM}{p:Nat}{x:y8}[k:adz β rd q os](hd:uk L hp:=by repeat (first|exact uk.z|apply uk.s))(ak:rd hp p=some x:=by exact fact):(⟨some p,.bX (q x) (os x)⟩:aI)∈L:=by
 obtain⟨n,h1⟩:=hd.get;obtain⟨_,_,ae,az⟩:=k.ok ak;exact aoF h1 ae az
def adA{e:aI}{np:Nat}(cJ:L'.drop np=L.drop np)(h:e∈L.drop np):e∈L':=CQ (cJ▸h)
def aqO{p:Nat}{β γ:Type}[aj β][aj γ]{b:β}{os:aa (Nat×bt)}{l:aP β γ}[k:bS c.P t γ](an:aU c E L x (.kY p l):=by exact fp)(hm:(⟨some p,.bX b os⟩:aI)∈L:=by first|exact adA cJ r6|exact pD (λi e q=>ax i e q I) r6|exact r6)(aY:uW os l.off (aj.size γ)=true:=by rfl):bj c E L ⟨d,.load t x,ty,pos,af,g⟩ (.of (l.get b)):=
 ai1 l k an hm I I aY
def aqP{p:Nat}{β γ:Type}[aj β][aj γ]{b:β}{l:aP β γ}[k:bS c.P t γ](an:aU c E L x (.kY p l):=by exact fp)(hm:(⟨some p,.var b⟩:aI)∈L:=by first|exact adA cJ pm|exact pD (λi e q=>ax i e q I) pm|exact pm):bj c E L ⟨d,.load t x,ty,pos,af,g⟩ (.of (l.get b)):=
 pq l k an hm I I
def aqQ{r:Ref}{a:Nat}(an:aU c E L x (.of r):=by exact fp)(aE:r=some a:=by first|with_reducible rfl|exact fact):bj c E L ⟨d,.nilCheck x,ty,pos,af,g⟩ (.dv a):=mr (j4 an aE)
def aqR{r:Ref}{e:bF}[k:oC c.P t (.pointer e)](an:aU c E L x (.of r):=by exact fp):bj c E L ⟨d,.binOp .eql t x (.const (.pointer none)) t2,ty,pos,af,g⟩ (.of r.isNone):=HK k.hu an
def aqS{r:Ref}{e:bF}[k:oC c.P t (.pointer e)](an:aU c E L x (.of r):=by exact fp):bj c E L ⟨d,.binOp .neq t x (.const (.pointer none)) t2,ty,pos,af,g⟩ (.of r.isSome):=aia k.hu an
def aoI{γ:Type}[aj γ]{r:γ}[k:bS c.P t γ](an:aU c E L x (.ptr r):=by exact fp):bj c E L ⟨d,.load t x,ty,pos,af,g⟩ (.of r):=iD k an
def aqT{s f:Nat}{β γ:Type}[CD:aj β][Kp:aj γ]{b:β}{l:aP β γ}[k:cy c.P s f l](an:aU c E L x (.ptr b):=by exact fp):bj c E L ⟨d,.fieldAddr s x f,ty,pos,af,g⟩ (.ptr (l.get b)):=Ej l k.fd an I I
def aqU{s f p:Nat}{α β γ:Type}[aj α][CD:aj β][Kp:aj γ]{m:aP α β}{l:aP β γ}[k:cy c.P s f l](an:aU c E L x (.kY p m):=by exact fp):bj c E L ⟨d,.fieldAddr s x f,ty,pos,af,g⟩ (.kY p (m.comp l)):=bC k.fd an
def aqV{s f p:Nat}{β γ:Type}[CD:aj β][Kp:aj γ]{l:aP β γ}[k:cy c.P s f l](an:aU c E L x (.dv p):=by exact fp):bj c E L ⟨d,.fieldAddr s x f,ty,pos,af,g⟩ (.kY p l):=by
 have:=bC (d:=d) (ty:=ty) (pos:=pos) (af:=af) (g:=g) k.fd an;rwa[jQ]at this
def aqW{α:Type}[Kq:aj α][Inhabited α]{xs:aa α}{e:bF}{i:Int}{j:Nat}[k:ie c.P t e α](an:aU c E L x (.of xs):=by exact fp)(hy:aU c E L y (.of i):=by exact fp)(hk:idx xs.length i=some j:=by exact fact):
 bj c E L ⟨d,.indexAddr t x y,ty,pos,af,g⟩ (.ptr (av xs j)):=pz k.hu k.eM an hy (c4 hk)
def aoJ{α:Type}[Kq:aj α]{xs:aa α}{e:bF}[k:ie c.P t e α](an:aU c E L x (.of xs):=by exact fp):bj c E L ⟨d,.call ⟨.builtin .len,#[x],#[t]⟩,ty,pos,af,g⟩ (.of (xs.length:Int)):=su k.hu an
def aqX{b e:Bool}{p:Prop}(an:aU c E L x (.of b):=by exact fp)(hy:aU c E L y (.cond p (.of e)):=by first|exact ag I|exact ag (aJ _ _ I))(hp:b=false->p:=by exact λh=>h):bj c E L ⟨d,.pick x (.const (.bool true)) y,ty,pos,af,g⟩ (.of (b||e)):=BK an hy hp
def aoK{b e:Bool}{p:Prop}(an:aU c E L x (.of b):=by exact fp)(hy:aU c E L y (.cond p (.of e)):=by first|exact ag I|exact ag (aJ _ _ I))(hp:b=true->p:=by exact λh=>h):bj c E L ⟨d,.pick x y (.const (.bool false)),ty,pos,af,g⟩ (.of (b&&e)):=x7 an hy hp
def aoL{α:Type}[aj α][DecidableEq α]{n:Nat}{a b:α}[k:Fk c.P t α n](an:aU c E L x (.of a):=by exact fp)(hy:aU c E L y (.of b):=by exact fp)(aY:aj.agg α=true:=by rfl):
 bj c E L ⟨d,.binOp .eql t x y t2,ty,pos,af,g⟩ (.of (decide (a=b))):=aac k.vy k.aM k.CE aY an hy
def aoM{α:Type}[aj α][DecidableEq α]{n:Nat}{a b:α}[k:Fk c.P t α n](an:aU c E L x (.of a):=by exact fp)(hy:aU c E L y (.of b):=by exact fp)(aY:aj.agg α=true:=by rfl):
 bj c E L ⟨d,.binOp .neq t x y t2,ty,pos,af,g⟩ (.of (!decide (a=b))):=aot k.vy k.aM k.CE aY an hy
inductive x4(c:cC)(E:List (Nat×J))(L:List aI)(t:TypeId)(place:Nat->Option (Nat×Nat)){β:Type}[CD:aj β]:β->List (Nat×Operand)->β->Prop
 |nil {b}:x4 c E L t place b [] b
 |cons {b b':β} {γ:Type} [Kp:aj γ] {v:γ} {i:Nat} {x:Operand} {r:List (Nat×Operand)} {l:aP β γ} [k:cy c.P t i l]:place i=some (l.off,aj.size γ)->aU c E L x (.of v)->x4 c E L t place (l.set b v) r b'->x4 c E L t place b ((i,x)::r) b'
def x4.f{place:Nat->aA (Nat×Nat)}{β:Type}[CD:aj β]{b b':β}{r:aa (Nat×ca)}(h:x4 c E L t place b r b'):tl c E L place b r b':=by
 induction h with
 |nil=>exact .nil
 |cons h1 ae _ b6=>exact .cons _ h1 ae I b6
def aqY{β:Type}[CD:aj β]{z b:β}{ec:aa (Nat×ca)}{pl:Array (Nat×Nat)}[aR:fS c.P t pl][bD:dx c.P t z](aW:x4 c E L t (pl[·]?) z ec b:=by repeat (first|exact x4.nil|(apply x4.cons;rfl;first|exact fp|exact look_nil)))(aY:aj.agg β=true:=by rfl):
 bj c E L ⟨d,.build t ec.toArray,ty,pos,af,g⟩ (.of b):=l0 aY aR bD aW.f
inductive yt{α:Type}:List α->Nat->α->List α->Prop
 |z {x v r}:yt (x::r) 0 v (v::r)
 |s {x v r s i}:yt r i v s->yt (x::r) (i+1) v (x::s)
def yt.ok{α:Type}{b c:aa α}{i:Nat}{v:α}(h:yt b i v c):i<b.length∧b.set i v=c:=by
 induction h with
 |z=>simp
 |s _ b6=>exact⟨by simp only[List.length_cons];omega,by simp[b6.2]⟩
inductive x5(c:cC)(E:List (Nat×J))(L:List aI){α:Type}[aj α]:List α->List (Nat×Operand)->List α->Prop
 |nil {b}:x5 c E L b [] b
 |cons {b dD b':List α} {v:α} {i:Nat} {x:Operand} {r:List (Nat×Operand)}:aU c E L x (.of v)->yt b i v dD->x5 c E L dD r b'->x5 c E L b ((i,x)::r) b'
def x5.f{α:Type}[aj α]{b b':aa α}{r:aa (Nat×ca)}(h:x5 c E L b r b'):pv c E L b r b':=by
 induction h with
 |nil=>exact .nil
 |cons h1 ae _ b6=>obtain⟨az,rfl⟩:=ae.ok;exact .cons az h1 b6
inductive yu{α:Type}(z:α):Nat->List α->Prop
 |z:yu z 0 []
 |s {n l}:yu z n l->yu z (n+1) (z::l)
def yu.ok{α:Type}{z:α}{n:Nat}{l:aa α}(h:yu z n l):List.replicate n z=l:=by
 induction h with
 |z=>rfl
 |s _ b6=>rw[List.replicate_succ,b6]
def aqZ{α:Type}[Kq:aj α]{e n:Nat}{z:α}{ec:aa (Nat×ca)}{l r:aa α}[aR:ie c.P t e α][bD:dx c.P e z](b2:yu z n l:=by repeat (first|exact yu.z|apply yu.s))
 (aW:x5 c E L l ec r:=by repeat (first|exact x5.nil|(apply x5.cons; (first|exact fp|exact look_nil); (repeat (first|exact yt.z|apply yt.s))))) (hs:Nat.beq (aj.size α) 0=false:=by rfl) (q5:Nat.ble (n*aj.size α) 16777216=true:=by rfl):
 bj c E L ⟨d,.buildSlice t n ec.toArray,ty,pos,af,g⟩ (.of r):=Bc aR.hu aR.eM bD hs q5 (b2.ok▸aW.f)
def aq0{f:FuncId}{ats:Array bF}{α ρ:Type}{y9:α->aA ρ}{τ:α->J}{lU:ρ->J}[k:ji c.P f α ρ y9 τ lU]{a:α}{r:ρ}(h1:aU c E L x (τ a):=by exact fp)(h:y9 a=some r:=by exact fact):
 bj c E L ⟨d,.call ⟨.value (.func f),[x].toArray,ats⟩,ty,pos,af,g⟩ (lU r):=iE k.cj (k.m _ _ h) ⟨h1,trivial⟩
def aq1{f:FuncId}{ats:Array bF}{α β ρ:Type}{y9:α->β->aA ρ}{τ:α->J}{σ:β->J}{lU:ρ->J}[k:eI c.P f α β ρ y9 τ σ lU]{a:α}{b:β}{r:ρ}(h1:aU c E L x (τ a):=by exact fp)(ae:aU c E L y (σ b):=by exact fp)(h:y9 a b=some r:=by exact fact):
 bj c E L ⟨d,.call ⟨.value (.func f),[x,y].toArray,ats⟩,ty,pos,af,g⟩ (lU r):=iE k.cj (k.m _ _ _ h) ⟨h1,ae,trivial⟩
def aq2{f:FuncId}{ats:Array bF}{α β γ ρ:Type}{y9:α->β->γ->aA ρ}{τ:α->J}{σ:β->J}{CF:γ->J}{lU:ρ->J}{b5:ca}[k:o4 c.P f α β γ ρ y9 τ σ CF lU]{a:α}{b:β}{e:γ}{r:ρ}(h1:aU c E L x (τ a):=by exact fp)(ae:aU c E L y (σ b):=by exact fp)(az:aU c E L b5 (CF e):=by exact fp)(h:y9 a b e=some r:=by exact fact):
 bj c E L ⟨d,.call ⟨.value (.func f),[x,y,b5].toArray,ats⟩,ty,pos,af,g⟩ (lU r):=iE k.cj (k.m _ _ _ _ h) ⟨h1,ae,az,trivial⟩
def EB{src dst:bF}{e r:TypeDesc}{σ τ:J}[aR:oC c.P src e][bD:oC c.P dst r](h:c.P.underlying src=some e->c.P.underlying dst=some r->aU c E L x σ->bj c E L ⟨d,.convert src dst x,ty,pos,af,g⟩ τ)(an:aU c E L x σ:=by exact fp):
 bj c E L ⟨d,.convert src dst x,ty,pos,af,g⟩ τ:=h aR.hu bD.hu an
def abW{r:TypeDesc}{σ q7 τ:J}[aR:oC c.P t r](h:c.P.underlying t=some r->aU c E L x σ->aU c E L y q7->bj c E L o τ)(an:aU c E L x σ:=by exact fp)(hy:aU c E L y q7:=by exact fp):bj c E L o τ:=h aR.hu an hy
def aoN{a b r:Int}(an:aU c E L x (.of a):=by exact fp)(hy:aU c E L y (.of b):=by exact fp)(hk:vb a b=some r:=by exact fact):bj c E L ⟨d,.binOp .rem t x y t2,ty,pos,af,g⟩ (.of r):=aop an hy (ah4 hk)
def aoO{p n s k:Nat}{i:Int}{β α:Type}[aj β][aj α][Inhabited α]{l:aP β (Vector α n)}[w9:pP c.P t n s](an:aU c E L x (.kY p l):=by exact fp)(hs:aj.size α=s:=by rfl)(hy:aU c E L y (.of i):=by exact fp)(hk:idx n i=some k:=by exact fact):
 bj c E L ⟨d,.indexAddr t x y,ty,pos,af,g⟩ (.kY p (l.comp (aP.idx (α:=α) n k (c4 hk).1))):=by subst hs;exact kD w9 an hy (c4 hk)
def Ck(L:aa aI){β:Type}[aj β](p:Nat)(b:β):Prop:=True
def Ck.m{β:Type}[aj β]{p j:Nat}{b:β}(h:L[j]? =some ⟨some p,.var b⟩):Ck L p b:=trivial
def aoP{p n s k:Nat}{i:Int}{α:Type}[aj α][Inhabited α]{b:Vector α n}[w9:pP c.P t n s](an:aU c E L x (.dv p):=by exact fp)(ax:Ck L p b:=by first|exact Ck.m At.g|exact Ck.m (ax _ _ At.g I)|exact ud _ _ At.g)(hs:aj.size α=s:=by rfl)(hy:aU c E L y (.of i):=by exact fp)(hk:idx n i=some k:=by exact fact):
 bj c E L ⟨d,.indexAddr t x y,ty,pos,af,g⟩ (.kY p (aP.idx (α:=α) n k (c4 hk).1)):=by
 subst hs
 have:=kD (d:=d) (ty:=ty) (pos:=pos) (af:=af) (g:=g) w9 an hy (c4 hk)
 rwa[jQ]at this
class mD (op:BinOp) (α:Type) {β:outParam Type} [aj α] [aj β] (f:outParam (α->α->β)):Prop where
 h:∀{c:cC} {E L d ty pos af g x y t t2} {a b:α},aU c E L x (.of a)->aU c E L y (.of b)->bj c E L ⟨d,.binOp op t x y t2,ty,pos,af,g⟩ (.of (f a b))
instance:mD .add Int (λa b=>bu (a+b)):=⟨jU⟩
instance:mD .sub Int (λa b=>bu (a-b)):=⟨sv⟩
instance:mD .mul Int (λa b=>bu (a*b)):=⟨aoo⟩
instance:mD .lss Int (λa b=>decide (a<b)):=⟨l2⟩
instance:mD .leq Int (λa b=>decide (a<=b)):=⟨aoq⟩
instance:mD .gtr Int (λa b=>decide (a>b)):=⟨Eg⟩
instance:mD .geq Int (λa b=>decide (a>=b)):=⟨M4⟩
instance:mD .eql Int (λa b=>a==b):=⟨nA⟩
instance:mD .neq Int (λa b=>a !=b):=⟨ya⟩
instance:mD .and (BitVec 64) (λa b=>a&&&b):=⟨Yt⟩
instance:mD .or (BitVec 64) (λa b=>a|||b):=⟨alo⟩
instance:mD .xor (BitVec 64) (λa b=>a ^^^ b):=⟨akf⟩
instance:mD .add (BitVec 64) (λa b=>a+b):=⟨akc⟩
instance:mD .sub (BitVec 64) (λa b=>a-b):=⟨ake⟩
instance:mD .shl (BitVec 64) (λa b=>a <<< b.toNat):=⟨aki⟩
instance:mD .shr (BitVec 64) (λa b=>a >>> b.toNat):=⟨akj⟩
instance:mD .eql (BitVec 64) (λa b=>a==b):=⟨akm⟩
instance:mD .neq (BitVec 64) (λa b=>a !=b):=⟨akn⟩
instance:mD .lss (BitVec 64) (λa b=>decide (a<b)):=⟨akk⟩
instance:mD .geq (BitVec 64) (λa b=>decide (a>=b)):=⟨akl⟩
def aoQ{op:BinOp}{α β:Type}[aj α][aj β]{f:α->α->β}{a b:α}[k:mD op α f](an:aU c E L x (.of a):=by exact fp)(hy:aU c E L y (.of b):=by exact fp):bj c E L ⟨d,.binOp op t x y t2,ty,pos,af,g⟩ (.of (f a b)):=k.h an hy
def aaT{op:BinOp}{τ:J}(h:bj c E L ⟨d,.binOp op t x y t2,ty,pos,af,g⟩ τ):bj c E L ⟨d,.binOp op t x y t2,ty,pos,af,g⟩ τ:=h
def abX{τ:J}(h:bj c E L ⟨d,.load t x,ty,pos,af,g⟩ τ):bj c E L ⟨d,.load t x,ty,pos,af,g⟩ τ:=h
def aq3{s f:Nat}{τ:J}(h:bj c E L ⟨d,.fieldAddr s x f,ty,pos,af,g⟩ τ):bj c E L ⟨d,.fieldAddr s x f,ty,pos,af,g⟩ τ:=h
def abY{k:Call}{τ:J}(h:bj c E L ⟨d,.call k,ty,pos,af,g⟩ τ):bj c E L ⟨d,.call k,ty,pos,af,g⟩ τ:=h
def aq4{op:UnOp}{τ:J}(h:bj c E L ⟨d,.unOp op t x,ty,pos,af,g⟩ τ):bj c E L ⟨d,.unOp op t x,ty,pos,af,g⟩ τ:=h
def aq5{τ:J}(h:bj c E L ⟨d,.indexAddr t x y,ty,pos,af,g⟩ τ):bj c E L ⟨d,.indexAddr t x y,ty,pos,af,g⟩ τ:=h
def aq6{src dst:bF}{τ:J}(h:bj c E L ⟨d,.convert src dst x,ty,pos,af,g⟩ τ):bj c E L ⟨d,.convert src dst x,ty,pos,af,g⟩ τ:=h
def abZ{τ:J}(h:bj c E L ⟨d,.nilCheck x,ty,pos,af,g⟩ τ):bj c E L ⟨d,.nilCheck x,ty,pos,af,g⟩ τ:=h
def aq7{τ:J}(h:bj c E L ⟨d,.move x,ty,pos,af,g⟩ τ):bj c E L ⟨d,.move x,ty,pos,af,g⟩ τ:=h
def aq8{τ:J}(h:bj c E L ⟨d,.assign x,ty,pos,af,g⟩ τ):bj c E L ⟨d,.assign x,ty,pos,af,g⟩ τ:=h
def aq9{i:Nat}{τ:J}(h:bj c E L ⟨d,.extract x i,ty,pos,af,g⟩ τ):bj c E L ⟨d,.extract x i,ty,pos,af,g⟩ τ:=h
def ara{z w:ca}{τ:J}(h:bj c E L ⟨d,.pick z x w,ty,pos,af,g⟩ τ):bj c E L ⟨d,.pick z x w,ty,pos,af,g⟩ τ:=h
def arb{ec:Array (Nat×ca)}{τ:J}(h:bj c E L ⟨d,.build t ec,ty,pos,af,g⟩ τ):bj c E L ⟨d,.build t ec,ty,pos,af,g⟩ τ:=h
def arc{n:Nat}{ec:Array (Nat×ca)}{τ:J}(h:bj c E L ⟨d,.buildSlice t n ec,ty,pos,af,g⟩ τ):bj c E L ⟨d,.buildSlice t n ec,ty,pos,af,g⟩ τ:=h
def aE{τ:J} (h:bj c E L o τ:=by first
 |(apply aq7;exact dj fp)
 |(apply aq8;exact dq fp)
 |(apply abX;first|exact aqM|exact aqN|exact aoI)
 |(apply aq3;first|exact aqT|exact aqU|exact aqV)
 |(apply aaT;first|exact aoQ|exact aqR|exact aqS|exact aoL|exact aoM|exact abW auh|exact abW ZW)
 |(apply abY;first|exact aoJ|exact auc|exact mn Z3|exact mn Z2|exact mn aiU)
 |(apply aq9;exact aoH)
 |(apply ara;first|exact aqX|exact aoK)
 |(apply aq4;first|exact lQ pA|exact lQ aui)
 |(apply arb;exact aqY)
 |(apply arc;exact aqZ)
 |(apply aq6;first|exact EB Y8|exact EB alp|exact EB aos|exact EB auj|exact EB auk|exact EB at9)
 |(apply abZ;first|exact auA|exact lQ mr|exact lQ als)):bj c E L o τ:=h
def o2{τ:J} (h:bj c E L o τ:=by first
 |(apply aq5;first|exact aqW|exact aoO|exact aoP|exact aul)
 |(apply abY;first|exact aq0|exact aq1|exact aq2|exact auB)
 |(apply abZ;exact aqQ)|(apply abX;first|exact aqP|exact aqO)
 |(apply aaT;first|exact aoN|exact aum|exact aun|exact auo)):bj c E L o τ:=h
class JZ (op:BinOp):Prop where
 h:True
instance:JZ .quo:=⟨trivial⟩
instance:JZ .rem:=⟨trivial⟩
instance:JZ .shl:=⟨trivial⟩
instance:JZ .shr:=⟨trivial⟩
def ab0(h:ad c ops Q (⟨d,.nilCheck x,ty,pos,af,g⟩::rest) E L):ad c ops Q (⟨d,.nilCheck x,ty,pos,af,g⟩::rest) E L:=h
def ab1(h:ad c ops Q (⟨d,.load t x,ty,pos,af,g⟩::rest) E L):ad c ops Q (⟨d,.load t x,ty,pos,af,g⟩::rest) E L:=h
def ard(h:ad c ops Q (⟨d,.indexAddr t x y,ty,pos,af,g⟩::rest) E L):ad c ops Q (⟨d,.indexAddr t x y,ty,pos,af,g⟩::rest) E L:=h
def are{f:FuncId}{xs:Array ca}{ats:Array bF}(h:ad c ops Q (⟨d,.call ⟨.value (.func f),xs,ats⟩,ty,pos,af,g⟩::rest) E L):ad c ops Q (⟨d,.call ⟨.value (.func f),xs,ats⟩,ty,pos,af,g⟩::rest) E L:=h
def aoR{op:BinOp}[k:JZ op](h:ad c ops Q (⟨d,.binOp op t x y t2,ty,pos,af,g⟩::rest) E L):ad c ops Q (⟨d,.binOp op t x y t2,ty,pos,af,g⟩::rest) E L:=h
inductive Nm:J->J->Prop
 |i {τ}:Nm τ τ
 |n {α:Type} [aj α] {a b:α}:some a=some b->Nm (.of a) (.of b)
def Nm.aE{τ σ:J}(h:Nm τ σ)(k:bj c E L o τ):bj c E L o σ:=by
 cases h with
 |i=>exact k
 |n e=>cases e;exact k
def arf{τ:J}{j g:Nat}{p:Prop}{b want:Bool}(k:ad c ops Q rest ((bc,.cond (p∧b=want) τ)::E) L)(bH:o.guard=some (j,want):=by rfl)(aC:(ops[j]?).bind (·.dst)=some g:=by rfl)(ao:look E g=some (.cond p (.of b)):=by rfl)
 (h:p∧b=want->bj c E L o τ:=by intro hb;exact aE) (hd:o.dst=some bc:=by rfl) (aM:Nat.blt bc c.n=true:=by rfl):ad c ops Q (o::rest) E L:=.gg h bH aC ao hd aM k
def arh{fn:Func}{Lo:Unit->aa aI}(hs:(Lo ()).Sublist L:=by repeat (first|exact zr _|exact rq _|apply List.Sublist.cons_cons|apply List.Sublist.cons))(aE:fn.results= #[]:=by rfl)(et:c.ds=[]:=by rfl):
 aq c (bodyPost c.P fn (kB c.X c.b3 c.j1 (λ_:Unit=>.b7 []) Lo)) .ret E L:=.mX () hs aE I et
def ari{fn:Func}{r:ResultVar}{τ:J}{ρ:Unit->J}{Lo:Unit->aa aI}(hs:(Lo ()).Sublist L:=by repeat (first|exact zr _|exact rq _|apply List.Sublist.cons_cons|apply List.Sublist.cons))(aE:fn.results= #[r]:=by rfl)(h:qq c E L r τ:=by exact TV)(rV:ρ ()=τ:=by rfl)(et:c.ds=[]:=by rfl):
 aq c (bodyPost c.P fn (kB c.X c.b3 c.j1 ρ Lo)) .ret E L:=.eU () hs aE rV h et
def arj{fn:Func}{r fz:ResultVar}{τ o0:J}{ρ:Unit->J}{Lo:Unit->aa aI}(hs:(Lo ()).Sublist L:=by repeat (first|exact zr _|exact rq _|apply List.Sublist.cons_cons|apply List.Sublist.cons))(aE:fn.results= #[r,fz]:=by rfl)(h:qq c E L r τ:=by exact TV)(ae:qq c E L fz o0:=by exact TV)(rV:ρ ()=.b7 [τ,o0]:=by rfl)(et:c.ds=[]:=by rfl):
 aq c (bodyPost c.P fn (kB c.X c.b3 c.j1 ρ Lo)) .ret E L:=.mY () hs aE rV h ae et
def asQ{R:Type}{b:Bool}{A B:aA R}{r:R}(h:cond b A B=some r):True:=trivial
def asR{R:Type}{b:Bool}{A B:ah R}{r:R->Prop}(h:cond b A B r):True:=trivial
def ark(h:ad c ops Q (⟨some bc,.alloc t,ty,pos,af,none⟩::rest) E L):ad c ops Q (⟨some bc,.alloc t,ty,pos,af,none⟩::rest) E L:=h
def arl(h:ad c ops Q (⟨some bc,.box t x,ty,pos,af,none⟩::rest) E L):ad c ops Q (⟨some bc,.box t x,ty,pos,af,none⟩::rest) E L:=h
def arn(h:ad c ops Q (⟨none,.store t x y,ty,pos,af,none⟩::rest) E L):ad c ops Q (⟨none,.store t x y,ty,pos,af,none⟩::rest) E L:=h
def aro{z:ca}{u v:Code}(h:ay c Q (.cond z u v) E L):ay c Q (.cond z u v) E L:=h
def J0{τ:J}(k:ad c ops Q rest ((bc,τ)::E) L)(bH:o.guard=none:=by rfl)(hd:o.dst=some bc:=by rfl)(h:bj c E L o τ:=by exact aE)(aM:Nat.blt bc c.n=true:=by rfl):ad c ops Q (o::rest) E L:=.v h bH hd aM k
def J1{τ:J}{j g:Nat}{b want:Bool}(k:ad c ops Q rest ((bc,.cond (b=want) τ)::E) L)(bH:o.guard=some (j,want):=by rfl)(aC:(ops[j]?).bind (·.dst)=some g:=by rfl)(ao:look E g=some (.of b):=by rfl)
 (h:b=want->bj c E L o τ:=by intro hb;exact aE) (hd:o.dst=some bc:=by rfl) (aM:Nat.blt bc c.n=true:=by rfl):ad c ops Q (o::rest) E L:=.g h bH aC ao hd aM k
def arp{α:Type}[Kq:aj α]{z:α}[gT:dx c.P t z](k:∀p,ad c ops Q rest ((bc,.dv p)::E) (⟨some p,.var z⟩::L))(aM:Nat.blt bc c.n=true:=by rfl):ad c ops Q (⟨some bc,.alloc t,ty,pos,af,none⟩::rest) E L:=.alloc gT aM k
def arq{α:Type}[aj α]{z:α}(k:∀p,ad c ops Q rest ((bc,.dv p)::E) (⟨some p,.var z⟩::L))(an:aU c E L x (.of z):=by exact fp)(aM:Nat.blt bc c.n=true:=by rfl):ad c ops Q (⟨some bc,.box t x,ty,pos,af,none⟩::rest) E L:=.box an aM k
def ars{p:Nat}{β γ:Type}[aj β][aj γ]{b:β}{v:γ}{l:aP β γ}[dP:bS c.P t γ](k:ad c ops Q rest E L')(an:aU c E L x (.kY p l):=by exact fp)(hy:aU c E L y (.of v):=by first|exact fp|exact look_nil)
 (ax:uj L ⟨some p,.var b⟩ ⟨some p,.var (l.set b v)⟩ L':=by repeat (first|exact uj.z|apply uj.s)):ad c ops Q (⟨none,.store t x y,ty,pos,af,none⟩::rest) E L:=by
 obtain⟨j,h1,rfl⟩:=ax.get
 exact .store l dP an hy h1 I I k
def art{p:Nat}{β:Type}[aj β]{b v:β}[dP:bS c.P t β](k:ad c ops Q rest E L')(an:aU c E L x (.dv p):=by exact fp)(hy:aU c E L y (.of v):=by first|exact fp|exact look_nil)
 (ax:uj L ⟨some p,.var b⟩ ⟨some p,.var v⟩ L':=by repeat (first|exact uj.z|apply uj.s)):ad c ops Q (⟨none,.store t x y,ty,pos,af,none⟩::rest) E L:=by
 obtain⟨j,h1,rfl⟩:=ax.get
 exact .store (aP.id β) dP an hy h1 I I k
def aru{α R:Type}{a:α}{f:α->aA R}{r:R}{G:Prop}(h:(some a).bind f=some r)(k:∀y,some a=some y->f y=some r->G):G:=k a I h
def ab2{α:Type}[aj α]{a iw:α}{K:α->Prop}(k:∀y,some a=some y->K y->ad c ops Q rest ((bc,.of y)::E) L)(bH:o.guard=none:=by rfl)(hd:o.dst=some bc:=by rfl)(h:bj c E L o (.of iw):=by exact aE)(e:iw=a:=by with_reducible rfl)(aM:Nat.blt bc c.n=true:=by rfl):
 ∀y,some a=some y->K y->ad c ops Q (o::rest) E L:=λy hy hk=>by subst e;exact .v ((Nm.n hy).aE h) bH hd aM (k y hy hk)
def arv{α R:Type}{a:α}{f:α->ah R}{r:R->Prop}{G:Prop}(h:ah.bind (ah.of (some a)) f r)(k:∀y,some a=some y->f y r->G):G:=by obtain⟨y,h1,ae⟩:=h;exact k y h1 ae
def acW{α R:Type}{m:aA α}{f:α->aA R}{r:R}(h:m.bind f=some r)(k:∀y,m=some y->f y=some r->ad c ops Q (o::rest) E L):ad c ops Q (o::rest) E L:=aB h k
def ab3{α R:Type}{m:aA α}{f:α->ah R}{r:R->Prop}(h:ah.bind (ah.of m) f r)(k:∀y,m=some y->f y r->ad c ops Q (o::rest) E L):ad c ops Q (o::rest) E L:=ah.bI h k
def asS{u j p:Nat}{α:Type}[aj α]{x:α}[k:bS c.P ty α](h:look E u=some (.dv p):=by rfl)(ax:L[j]? =some ⟨some p,.var x⟩:=by first|exact At.g|exact ax _ _ At.g I):qz c E L (.cell u ty) (.of x):=abL k h ax
def UE{r:ResultVar}{τ:J}(h:qz c E L r τ:=by first|exact ND I|exact asS):qz c E L r τ:=h
def arw{u j p:Nat}{α:Type}[aj α]{x:α}[k:bS c.P ty α](h:look E u=some (.dv p):=by rfl)(ax:L[j]? =some ⟨some p,.var x⟩:=by first|exact At.g|exact ax _ _ At.g I):qq c E L (.cell u ty) (.of x):=nB k h ax
def TV{r:ResultVar}{τ:J}(h:qq c E L r τ:=by first|exact dB I|exact arw):qq c E L r τ:=h
def asT{fn:Func}{r:ResultVar}{τ:J}(aE:fn.results= #[r]:=by rfl)(h:qz c E L r τ:=by exact UE)(et:c.ds=[]:=by rfl):aq c (bodyPost c.P fn (vc c τ)) .ret E L:=.Nv aE h et
def asU{fn:Func}{ke fz:ResultVar}{τ o0:J}(aE:fn.results= #[ke,fz]:=by rfl)(h:qz c E L ke τ:=by exact UE)(ae:qz c E L fz o0:=by exact UE)(et:c.ds=[]:=by rfl):aq c (bodyPost c.P fn (vc c (.b7 [τ,o0]))) .ret E L:=.aqv aE h ae et
end
inductive za(c:cC)(ops:Array Oper)(E:List (Nat×J))(L:List aI)(hs:List dK):List Oper->List (Option Nat)->List (List Nat)->List J->Prop
 |nil {os}:za c ops E L hs os [] [] []
 |cons {o os s fL d ds τ cx}:(∀L':List aI,(∀(j:Nat) (e:aI),L[j]? =some e->u5 (λ_=>false) j 0 []=true->L'[j]? =some e)->k0 c ops (kR (λ_ _=>none) hs E d) L' o τ)->za c ops E L hs os fL ds cx->za c ops E L hs (o::os) (s::fL) (d::ds) (τ::cx)
def za.h{c:cC}{ops:Array Oper}{E:aa (Nat×J)}{L:aa aI}{hs:aa dK}{os fL ds cx}(h:za c ops E L hs os fL ds cx):x3 c ops E L hs os fL ds cx:=by
 induction h with
 |nil=>simp[x3]
 |cons h1 _ b6=>exact⟨h1,b6⟩
def Cl(l:aa Oper):aa (aa Nat):=l.map λo=>o.after.toList.filterMap λe=>match e.ground with | .data=>some e.on| .guard=>some e.on|_=>none
section
variable{c:cC}{E:aa (Nat×J)}{L:aa aI}{ops:Array Oper}{Q:Exit->Act->bq->Prop}{o:Oper}
def JA{τ σ:J}(bH:o.guard=none:=by rfl)(h:bj c E L o τ:=by first|exact aE|exact o2|exact aoS)(n:Nm τ σ:=by first|exact Nm.n (by with_reducible assumption)|exact Nm.i):k0 c ops E L o σ:=k0.v (n.aE h) bH
def TW{τ:J}{j g:Nat}{b want:Bool}(bH:o.guard=some (j,want):=by rfl)(aC:(ops[j]?).bind (·.dst)=some g:=by rfl)(ao:look E g=some (.of b):=by rfl)(h:b=want->bj c E L o τ:=by intro hb;first|exact aE|exact o2|exact aoS):
 k0 c ops E L o (.cond (b=want) τ):=k0.g h bH aC ao
def ay.fi{kj a:Nat}{l:aa Oper}{es:aa Nat}{cx:aa J}[k:UD c.P](n:Nat)(bE:ad c l.toArray Q (l.drop n) (wI E (rg a n) (Cl (l.take n)) cx) L)(aY:(l[0]?).bind (·.dst)=Option.some a:=by rfl)
 (cB:za c l.toArray E L (qu (rg a n) (Cl (l.take n)) cx) l (rg a n) (Cl (l.take n)) cx:=by repeat (first|apply za.nil|(apply za.cons; (intro L' ax;first|exact JA|exact TW))))
 (et:lI (qu (rg a n) (Cl (l.take n)) cx)=Ez (rg a n) (Cl (l.take n)):=by rfl) (iT:E.map (·.1)=es:=by rfl) (cI:Gv.qR l.toArray n (Ez (rg a n) (Cl (l.take n))) es=true:=by kernel_rfl) (hs:E1 (l.take n) (rg a n) c.n=true:=by rfl):ay c Q (.region kj l.toArray true) E L:=
 .mg k.m n (rg a n) (Cl (l.take n)) cx cB.h bE et iT cI hs
end
def X1{up:aa Nat}{i:Nat}{hd:Nat->Hid}{x:Hid}:hQ up i (nh hd i x) i=x:=by
 unfold hQ nh;simp
def tF(s:Nat)(up:aa Nat)(j i:Nat){α:Type}[aj α](z:α):dK:=⟨some s,up,[j],[j],λhd=>J.dv ((hd i 0).getD 0),λhd _=>aZ ((hd i 0).getD 0) z⟩
inductive J2(c:cC)(E:List (Nat×J))(L:List aI)(t:TypeId)(x y:Operand)(j:Nat)(e:aI):Prop
 |mk {p:Nat} {β γ:Type} [aj β] [aj γ] {b:β} {v:γ} (l:aP β γ):bS c.P t γ->aU c E L x (.kY p l)->aU c E L y (.of v)->L[j]? =some ⟨some p,.var b⟩->⟨some p,.var (l.set b v)⟩=e->J2 c E L t x y j e
 |z {p:Nat} {β:Type} [aj β] {b v:β}:bS c.P t β->aU c E L x (.dv p)->aU c E L y (.of v)->L[j]? =some ⟨some p,.var b⟩->⟨some p,.var v⟩=e->J2 c E L t x y j e
section
variable{c:cC}{E:aa (Nat×J)}{L:aa aI}{ops:Array Oper}{Q:Exit->Act->bq->Prop}{o:Oper}{hs:aa dK}{np i bc:Nat}{up rd:aa Nat}{t ty:bF}{pos:String}{af:Array Edge}{x y:ca}
def adB{p:Nat}{β:Type}[aj β]{a b:β}(h:some a=some b):(⟨some p,.var a⟩:aI)=⟨some p,.var b⟩:=by cases h;rfl
def atY{p j:Nat}{β γ:Type}[aj β][aj γ]{b:β}{v:γ}{l:aP β γ}{e:aI}[k:bS c.P t γ](an:aU c E L x (.kY p l):=by exact fp)(hy:aU c E L y (.of v):=by first|exact fp|exact look_nil)(h:L[j]? =some ⟨some p,.var b⟩:=by exact ax _ _ I I)(he:⟨some p,.var (l.set b v)⟩=e:=by first|rfl|exact adB (by assumption)):J2 c E L t x y j e:=.mk l k an hy h he
def sz{p j:Nat}{β:Type}[aj β]{b v:β}{e:aI}[k:bS c.P t β](an:aU c E L x (.dv p):=by exact fp)(hy:aU c E L y (.of v):=by first|exact fp|exact look_nil)(h:L[j]? =some ⟨some p,.var b⟩:=by exact ax _ _ I I)(he:⟨some p,.var v⟩=e:=by first|rfl|exact adB (by assumption)):J2 c E L t x y j e:=.z k an hy h he
inductive Fl(c:cC)(E:List (Nat×J))(L:List aI)(o:Oper)(σ:J):Prop
 |mk {τ:J}:bj c E L o τ->Nm τ σ->Fl c E L o σ
def Fl.h{σ:J}(h:Fl c E L o σ):bj c E L o σ:=by cases h with |mk h n=>exact n.aE h
def aM{τ σ:J}(h:bj c E L o τ:=by first|exact aE|exact o2)(n:Nm τ σ:=by first|exact Nm.n (by with_reducible assumption)|exact Nm.i):Fl c E L o σ:=.mk h n
def acX{σ:J}(h:∀(hd:Nat->Hid) (E':aa (Nat×J)) (L':aa aI),(∀t τ,look (kR hd hs E up) t=some τ->look E' t=some τ)->(∀j e,(gx (λ_=>true) hd 0 (hs.take i) L)[j]? =some e->rd.contains j=true->L'[j]? =some e)->(∀{β:Type} [aj β] (p:Nat) (b:β) {j:Nat},(gx (λ_=>true) hd 0 (hs.take i) L)[j]? =some ⟨some p,.var b⟩->Ck L' p b)->L'.drop np=L.drop np->Fl c E' L' o σ:=by intro hd E' L' aJ ax ud cJ;exact aM)
 (bH:o.guard=none:=by rfl) (hd:o.dst=some bc:=by rfl) (aM:Nat.blt bc c.n=true:=by rfl):x1 c ops Q hs E L np i o (aN bc up rd σ):=
 λa b jP d e f=>ad.v (h a b jP d e (λ_ _ _ _=>trivial) f).h bH hd aM (ad.nil (aq.fin (λ_=>none) I I))
def acY{τ:J}{j g:Nat}{b want:Bool}(bH:o.guard=some (j,want):=by rfl)(aC:(ops[j]?).bind (·.dst)=some g:=by rfl)(ao:∀hd,look (kR hd hs E up) g=some (.of b):=by intro hd;rfl)
 (h:∀(hd:Nat->Hid) (E':aa (Nat×J)) (L':aa aI),(∀t τ,look (kR hd hs E up) t=some τ->look E' t=some τ)->(∀j e,(gx (λ_=>true) hd 0 (hs.take i) L)[j]? =some e->rd.contains j=true->L'[j]? =some e)->(∀{β:Type} [aj β] (p:Nat) (b:β) {j:Nat},(gx (λ_=>true) hd 0 (hs.take i) L)[j]? =some ⟨some p,.var b⟩->Ck L' p b)->L'.drop np=L.drop np->b=want->Fl c E' L' o τ:=by intro hd E' L' aJ ax ud cJ hb;exact aM)
 (hd:o.dst=some bc:=by rfl) (aM:Nat.blt bc c.n=true:=by rfl):x1 c ops Q hs E L np i o (aN bc up rd (.cond (b=want) τ)):=
 λa b' jP d e f=>ad.g (λz=>(h a b' jP d e (λ_ _ _ _=>trivial) f z).h) bH aC (d _ _ (ao a)) hd aM (ad.nil (aq.fin (λ_=>none) I I))
def acZ{α:Type}[Kq:aj α]{z:α}[gT:dx c.P t z]{s j:Nat}(aC:∀hd,(gx (λ_=>true) hd 0 (hs.take i) L)[j]? =some ⟨none,.dead⟩:=by intro hd;rfl)(aM:Nat.blt s c.n=true:=by rfl):x1 c ops Q hs E L np i ⟨some s,.alloc t,ty,pos,af,none⟩ (tF s up j i z):=
 λhd E' L' aJ ax cJ=>.alloc gT aM λp=>.nil (.place j (ax j _ (aC hd) (by simp[tF])) (.fin (ez [some p]) (by simp[tF,rO,X1,ez]) (by simp[tF,pE,X1,ez])))
def dst{j:Nat}{e:(Nat->Hid)->aI}(h:∀(hd:Nat->Hid) (E':aa (Nat×J)) (L':aa aI),(∀t τ,look (kR hd hs E up) t=some τ->look E' t=some τ)->(∀k e,(gx (λ_=>true) hd 0 (hs.take i) L)[k]? =some e->[j].contains k=true->L'[k]? =some e)->L'.drop np=L.drop np->J2 c E' L' t x y j (e (hQ up i (nh hd i λ_=>none))):=by intro hd E' L' aJ ax cJ;first|exact atY|exact sz):
 x1 c ops Q hs E L np i ⟨none,.store t x y,ty,pos,af,none⟩ (iu up [j] [j] e):=λhd E' L' aJ ax cJ=>by
 cases h hd E' L' aJ ax cJ with
 |mk l dP an hy h1 ae=>exact .store l dP an hy h1 I I (.nil (.fin (λ_=>none) I (ev (L'.set j) ae)))
 |z dP an hy h1 ae=>exact .store (aP.id _) dP an hy h1 I I (.nil (.fin (λ_=>none) I (ev (L'.set j) ae)))
end
inductive um(c:cC)(ops:Array Oper)(Q:Exit->Act->World->Prop)(hs:List dK)(E:List (Nat×J))(L:List aI)(np:Nat):Nat->List Oper->List dK->Prop
 |nil {i}:um c ops Q hs E L np i [] []
 |cons {i o os h r}:x1 c ops Q hs E L np i o h->um c ops Q hs E L np (i+1) os r->um c ops Q hs E L np i (o::os) (h::r)
def um.h{c:cC}{ops:Array Oper}{Q:Exit->Act->bq->Prop}{hs:aa dK}{E:aa (Nat×J)}{L:aa aI}{np i:Nat}{os r}(h:um c ops Q hs E L np i os r):p4 c ops Q hs E L np i os r:=by
 induction h with
 |nil=>simp[p4]
 |cons h1 _ b6=>exact⟨h1,b6⟩
section
variable{c:cC}{E:aa (Nat×J)}{L:aa aI}{Q:Exit->Act->bq->Prop}{kj:Nat}{l:aa Oper}{ds:aa (aA Nat×aa Nat×aa Nat×aa Nat)}{es:aa Nat}[UF:UD c.P](np:Nat)(hs:aa dK)
include UF
def ay.Cy(bE:∀hd,aq c Q .normal (im (λ_=>true) hd E 0 hs) (gx (λ_=>true) hd 0 hs L))(cB:um c l.toArray Q hs E L np 0 l hs:=by repeat (first|apply um.nil|(apply um.cons;first|exact acZ|exact dst|exact acX|exact acY)))
 (et:lI hs=ds:=by rfl) (iT:E.map (·.1)=es:=by rfl) (cI:Gv.qR l.toArray l.length ds es=true:=by kernel_rfl) (hw:(ds.all λd=>d.2.2.2.all λj=>Nat.blt j np)=true:=by kernel_rfl):ay c Q (.region kj l.toArray true) E L:=.Ux np UF.m hs es cB.h bE et iT cI hw
def ay.cj{K:Prop}(k:K)(bE:∀hd,aq c Q .normal (im (λ_=>true) hd E 0 hs) (gx (λ_=>true) hd 0 hs L))(cB:ui K->um c l.toArray Q hs E L np 0 l hs:=by intro k;repeat (first|apply um.nil|(apply um.cons;first|exact acZ|exact dst|exact acX|exact acY|exact k.k.1|exact k.k.2.1|exact k.k.2.2.1|exact k.k.2.2.2.1|exact k.k.2.2.2.2.1|exact k.k.2.2.2.2.2.1|exact k.k.2.2.2.2.2.2.1|exact k.k.2.2.2.2.2.2.2.1|exact k.k.2.2.2.2.2.2.2.2.1|exact k.k.2.2.2.2.2.2.2.2.2.1|exact k.k.2.2.2.2.2.2.2.2.2.2.1|exact k.k.2.2.2.2.2.2.2.2.2.2.2.1|exact k.k.2.2.2.2.2.2.2.2.2.2.2.2.1|exact k.k.2.2.2.2.2.2.2.2.2.2.2.2.2.1)))
 (et:lI hs=ds:=by rfl) (iT:E.map (·.1)=es:=by rfl) (cI:Gv.qR l.toArray l.length ds es=true:=by kernel_rfl) (hw:(ds.all λd=>d.2.2.2.all λj=>Nat.blt j np)=true:=by kernel_rfl):ay c Q (.region kj l.toArray true) E L:=.Ux np UF.m hs es (cB ⟨k⟩).h bE et iT cI hw
end
section
variable{c:cC}{E:aa (Nat×J)}{L:aa aI}{l:aa Oper}{Q:Exit->Act->bq->Prop}
inductive uo(c:cC)(l:List Oper)(E:List (Nat×J))(L:List aI)(fs:List (Nat×Nat×J)):List Nat->Prop
 |nil:uo c l E L fs []
 |cons {i o τ r}:l[i]? =some o->BU i fs=some τ->k0 c l.toArray (lu (λj=>eO j (kI o)) E fs) L o τ->uo c l E L fs r->uo c l E L fs (i::r)
def uo.h{fs:aa (Nat×Nat×J)}{nl:aa Nat}(h:uo c l E L fs nl):xh c l E L fs nl:=by
 induction h with
 |nil=>trivial
 |cons h1 ae az _ b6=>exact⟨by rw[h1,ae];exact az,b6⟩
def fF.md{o6:Nat}{dQ ek:aa Nat}{fs:aa (Nat×Nat×J)}{ks:aa (Nat×Nat)}{es:aa Nat}(lS nl el:aa Nat)(aJ:y6 c l Q dQ ek fs E L el)(ax:uo c l E L fs nl:=by repeat (first|apply uo.nil|(apply uo.cons;rfl;rfl; (first|exact JA|exact TW))))(aM:dQ.all (λk=>eO k ek)=false:=by rfl)
 (fP:fs.map (λx=>(x.1,x.2.1))=ks:=by rfl) (iT:E.map (·.1)=es:=by rfl) (tU:c.n=o6:=by rfl) (cI:E5 l o6 dQ ek lS nl el ks es=true:=by kernel_rfl):fF c l Q dQ ek fs E L:=.mid lS nl el ax.h aJ aM fP iT tU cI
def fF.ar8{o6:Nat}{dQ ek:aa Nat}{fs:aa (Nat×Nat×J)}{ks:aa (Nat×Nat)}{es:aa Nat}(lS nl:aa Nat)(nb:aq c Q .normal (lu (λ_=>true) E fs) L)(ax:uo c l E L fs nl:=by repeat (first|apply uo.nil|(apply uo.cons;rfl;rfl; (first|exact JA|exact TW))))
 (fP:fs.map (λx=>(x.1,x.2.1))=ks:=by rfl) (iT:E.map (·.1)=es:=by rfl) (tU:c.n=o6:=by rfl) (cI:E5 l o6 dQ ek lS nl [] ks es=true:=by kernel_rfl):fF c l Q dQ ek fs E L:=.last lS nl ax.h nb fP iT tU cI
end
def go{G:Prop} (h:G:=by
 repeat (first
 | (change ad _ _ _ (_::_) _ _
    first
    |((with_reducible refine aru h ?_);refine ab2 ?_; (try clear h);intro ed UG h;have CG:=True.intro)|((with_reducible refine arv h ?_);refine ab2 ?_; (try clear h);intro ed UG h;have CG:=True.intro)
    |(apply ark;refine arp ?_;intro ed)|(apply arl;refine arq ?_;intro ed)
    |(apply arn;first|refine ars ?_|refine art ?_)
    |(apply ab0; (first|(with_reducible refine acW h ?_)|(with_reducible refine ab3 h ?_)); (try clear h); (intro ed UG h;have CG:=True.intro);first|(refine J0 ?_ (h:=by exact o2);change ad _ _ _ _ ((_,J.dv ed)::_) _)|(refine J1 ?_ (h:=by intro hb;exact o2);change ad _ _ _ _ ((_,J.cond _ (J.dv ed))::_) _))
    |((first|apply ab0|apply ab1);first|refine J0 ?_ (h:=by exact o2)|refine J1 ?_ (h:=by intro hb;exact o2))
    |((first|apply ard|apply are|apply aoR|apply ab1); (first|(with_reducible refine acW h ?_)|(with_reducible refine ab3 h ?_)); (try clear h); (intro ed UG h;have CG:=True.intro);first|refine J0 ?_ (h:=by exact o2)|refine J1 ?_ (h:=by intro hb;exact o2))
    |refine J0 ?_|refine J1 ?_|refine arf ?_|refine J0 ?_ (h:=by exact o2)|refine J1 ?_ (h:=by intro hb;exact o2))
 | (change ad _ _ _ [] _ _
    first|apply fr|apply fW|apply b0|apply ad.nil)
 | (change ay _ _ _ _ _
    first|apply bU|(apply aro;first|((with_reducible have CG:=asQ h);refine ki h ?_ ?_ <;> ((try clear h);intro h))|((with_reducible have CG:=asR h);refine yF h ?_ ?_ <;> ((try clear h);intro h)))|apply jx|apply ay.seq|apply ay.block|apply ay.eQ|apply ay.ret|apply ay.exit|apply ay.skip)
 | (change aq _ _ _ _ _
    first|apply aq.next|apply aq.ret|apply aq.exit|apply aq.rL|apply aq.lz|apply aq.mW|refine aq.aln I ?_|(cases h;first|exact asT|exact asU|exact ari|exact arj|exact auT|exact auU|exact arh|exact ia () 0|exact ia () 1|exact ia () 2|exact ia () 3|exact gN () 0|exact gN () 1|exact gN () 2|exact gN () 3|exact ef 0 (hm ())|exact ef 1 (hm ())|exact ef 2 (hm ())))
 |((first|((guard_hyp CG); (clear CG);revert h)|skip); (repeat (revert ed));first|exact aR.k|exact bD.k|exact cf.k|exact c0.k|exact fR.k|exact ka.k))):G:=h
def aT{G K:Prop}(k:K)(h:ui K->G:=by intro aR;exact go):G:=h ⟨k⟩
def go2{G K eI:Prop}(k:K)(k':eI)(h:ui K->ui eI->G:=by intro aR bD;exact go):G:=h ⟨k⟩ ⟨k'⟩
def acj{G K eI o4:Prop}(k:K)(k':eI)(asV:o4)(h:ui K->ui eI->ui o4->G:=by intro aR bD cf;exact go):G:=h ⟨k⟩ ⟨k'⟩ ⟨asV⟩
def asc{G ji eI o4 adC:Prop}(aw:ji)(b9:eI)(dM:o4)(h4:adC)(h:ui ji->ui eI->ui o4->ui adC->G:=by intro aR bD cf c0;exact go):G:=h ⟨aw⟩ ⟨b9⟩ ⟨dM⟩ ⟨h4⟩
structure ko(P:Program)(α:Type)where
 r:Option α
instance{P:Program}{α:Type}:Inhabited (ko P α):=⟨⟨none⟩⟩
instance{P:Program}{α:Type}[aj α]:aj (ko P α)where
 size:=1
 agg:=false
 rep A W cs x:=∃v,cs=[v]∧v.oneCell'=true∧∀r,x.r=some r->∃f fst cap,v=.func (.func f) fst cap∧bL P f∧∀cR W',Ext A W cR W'->(∀k∈cR,k<W'.heap.size)->
  Calls P f (fst++cap) W' λe tK=> ∃v,e=.returned v∧Fr [] W' tK∧(J.of r).holds cR tK v
 len h:=by obtain⟨v,rfl,_⟩:=h;rfl
 one h:=by
  obtain⟨v,rfl,h,_⟩:=h;intro u hu;rw[hi.1 hu];exact h
 flat _:=rfl
 mono e h:=let⟨v,h1,ae,az⟩:=h
  ⟨v,h1,ae,λr aE=>let⟨f,fst,cap,aQ,a7,bp⟩:=az r aE; ⟨f,fst,cap,aQ,a7,λcR W' e'=>bp cR W' (e.trans e')⟩⟩
instance{P:Program}{α:Type}[aj α]:a1 (ko P α):=⟨[.nilFunc],λ_ _=>⟨_,rfl,rfl,λr h=>by cases h⟩⟩
section
variable{c:cC}{E:aa (Nat×J)}{L:aa aI}{d:aA Tmp}{ty:bF}{pos:String}{af:Array Edge}{g:aA (Nat×Bool)}
def uZ{α:Type}[aj α]{F:aA α}{f:FuncId}{xs:aa ca}{τs:aa J}(cj:bL c.P f)(an:iF c E L xs τs)(h:∀r,F=some r->cE c.P f τs (.of r)):
 bj c E L ⟨d,.makeFunc (.func f) #[] xs.toArray,ty,pos,af,g⟩ (.of (⟨F⟩:ko c.P α)):=.pure λa W s=>by
 refine⟨.func (.func f) #[] (xs.map a.eval).toArray,by simp[execOp,Instr.makeFunc],rfl,_,rfl,rfl,λr aE=>⟨f,#[],_,rfl,cj,λcR W' e eB=>?_⟩⟩
 have:=h r aE cR W' (xs.map a.eval) eB ((an.holds a W s).mono e)
 simpa using this
def Yr{α:Type}[aj α]{adD:ko c.P α}{lr:ca}{ats:Array bF}{r:α}(aW:aU c E L lr (.of adD))(h:adD.r=some r):
 bj c E L ⟨d,.call ⟨.value lr,#[],ats⟩,ty,pos,af,g⟩ (.of r):=λa W s=>by
 obtain⟨h1,v,ae,az,aQ⟩:=aW a W s
 obtain⟨f,fst,cap,a7,cj,bp⟩:=aQ r h
 have ba:a.eval lr=v:=oJ h1 ae
 refine .wa (f:=f) (args:=fst++cap) (W':=W) ?_ (bp _ W (Ext.refl _ _) s.HY)
 simp[execOp,resolve,Deferred.ofValue,ba,a7,invoke,cj.run]
def MT{x y:ca}{t t2:bF}{u v:ByteArray}(hu:c.P.underlying t=some .string)(an:aU c E L x (.of u))(hy:aU c E L y (.of v)):bj c E L ⟨d,.binOp .eql t x y t2,ty,pos,af,g⟩ (.of (u.data.toList==v.data.toList)):=.pure λa W s=>by
 have h1:a.eval x=.string u:=MI.1 (an a W s);have ae:a.eval y=.string v:=MI.1 (hy a W s);exact⟨.bool (u.data.toList==v.data.toList),by simp[execOp,eqGuard,binOp,h1,ae,Op.stringOp,ByteArray.toList_eq],of_bool.2 I⟩
end
def yT(f:FuncId)(us:aa bt):Deferred:= {target:=.fn (.func f) us.toArray,args:= #[]}
section
variable{c:cC}{E:aa (Nat×J)}{L:aa aI}{ops:Array Oper}{Q:Exit->Act->bq->Prop}{d:aA Tmp}{ty:bF}{pos:String}{af:Array Edge}
def ad.defer{rest:aa Oper}{lr:ca}{ats:Array bF}{f:FuncId}{us:aa bt}(ak:c.rd=Option.none)(aW:aU c E L lr (.of (⟨f,Option.some us⟩:Raw)))
 (k:ad {c with ds:=yT f us::c.ds} ops Q rest E L):ad c ops Q (⟨Option.none,.defer ⟨.value lr,#[],ats⟩,ty,pos,af,Option.none⟩::rest) E L:=λa W s=>by
 have h1:a.eval lr=.func (.func f) #[] us.toArray:=RO.1 (aW a W s)
 refine wpListIn_plain I λK ov=>⟨λ_ _=>trivial,?_⟩
 have aE:((⟨Option.none,.defer ⟨.value lr,#[],ats⟩,ty,pos,af,Option.none⟩:Oper).semAt c.F.round a.eval).run c.P W=.ok (.defer (yT f us)) W:=by
  show((⟨Option.none,.defer ⟨.value lr,#[],ats⟩,ty,pos,af,Option.none⟩:Oper).semAt c.rd a.eval).run c.P W=_;rw[ak,Oper.semAt_none];simp[execOp,resolve,Deferred.ofValue,h1,yT]
 rw[aE,Oper.uponIn_defer]
 refine ov _ _ (k _ _ ?_)
 exact {defers:=by show yT f us::a.defers=yT f us::c.ds;rw[s.defers],size:=s.size,env:=s.env,dI:=s.dI,own:=s.own,nodup:=s.nodup,lt:=s.lt,fO:=s.fO,eG:=s.eG}
end
def D2(P:Program)(f:FuncId)(τs:aa J)(Lin:aa aI){δ:Type}(Lo:δ->aa aI):Prop:=
 ∀ (A:aa Nat) (W:bq) (vs:aa bt),(∀k∈A,k<W.heap.size∧k∉ks Lin)->(ks Lin).Nodup->(∀k∈ks Lin,k<W.heap.size)->(∀e∈Lin,e.ok (ks Lin++A) W)->gL (ks Lin++A) W τs vs->
   ∀u,CallsDIn Fence.wide 8 P f vs.toArray u W λe adE W'=>adE=u∧kB (ks Lin) A W (λ_:δ=>J.b7 []) Lo e W'
def D2.of{P:Program}{f:FuncId}{fn:Func}{code:Code}{n:Nat}{τs:aa J}{Lin:aa aI}{δ:Type}{Lo:δ->aa aI}(aW:P.funcs[f]? =some fn)(hb:fn.body=some code)(aM:fn.ntmps=n)(hlen:Nat.ble τs.length n=true)
 (h:∀W A,ay ⟨P,n,W,ks Lin,A,none,[]⟩ (bodyPost P fn (kB (ks Lin) A W (λ_:δ=>J.b7 []) Lo)) code (params 0 τs) Lin):D2 P f τs Lin Lo:=by
 intro A W vs eB kQ ch hA ba u
 refine callsDIn_of_wp aW hb cZ (wpIn_wide.2 (wpIn_wide.1 (h W A _ _ ?_)))
 have ao:=ba.length
 have hle:τs.length<=n:=pb hlen
 exact
 {defers:=rfl
  size:=by simp[aM,ao];omega
  env:=λt τ kX=>by
   obtain⟨_,v,ae,az⟩:=zW ba 0 t τ kX;refine⟨v,?_,az⟩;have ch:t<vs.length:=(hh.1 ae).1;rw[vD (by simpa using ch)];simpa using ae
  dI:=.refl _ _
  own:=hA
  nodup:=kQ
  lt:=ch
  fO:=λk hk _=>hk
  eG:=eB}
def aq.arx{c:cC}{E:aa (Nat×J)}{fn:Func}{R:Ending->bq->Prop}{f:FuncId}{us:aa bt}{τs:aa J}{Lin Lr:aa aI}{δ:Type}{Lo:δ->aa aI}(et:c.ds=[yT f us])(cj:bL c.P f)
 (h:D2 c.P f τs Lin Lo) (an:∀A W,gL A W τs us) (k:∀q,aq {c with ds:=[]} (bodyPost c.P fn R) .ret E (Lo q++Lr)):aq c (bodyPostM Fence.wide 9 c.P fn R) .ret E (Lin++Lr):=λa W s=>by
 have lB:=s.nodup
 rw[e1]at lB
 obtain⟨nJ,sL,qs⟩:=pS.1 lB
 have h2:Ext (ks (Lin++Lr)++c.b3) W (ks Lin++(ks Lr++c.b3)) W:=.drop λk hm=>by
  rw[e1];simp only[cz]at hm⊢;rcases hm with hm|hm|hm
  ·exact .inl (.inl hm)
  ·exact .inl (.inr hm)
  exact .inr hm
 have eB:∀k∈ks Lr++c.b3,k<W.heap.size∧k∉ks Lin:=λk hm=>by
  rcases cz.1 hm with hm|hm
  ·exact⟨s.lt k (by rw[e1];exact cz.2 (.inr hm)),λh=>qs k h k hm I⟩
  obtain⟨h1,ae⟩:=s.eG k hm;exact⟨h1,λh=>ae (by rw[e1];exact cz.2 (.inl h))⟩
 have ch:∀k∈ks Lin,k<W.heap.size:=λk hm=>s.lt k (by rw[e1];exact cz.2 (.inl hm))
 show LeavesInM Fence.wide 9 c.P fn a.tmps R a.defers .returning W
 rw[s.defers,et]
 refine⟨by simp,.inr ⟨(λh=>by cases h),Fn.func f,us.toArray,f,us.toArray,rfl,?_,λ_ _=>trivial,?_⟩⟩
 ·simp[yT,invoke,cj.run]
 refine(h (ks Lr++c.b3) W us eB nJ ch (λe he=>aI.uL (s.own e (cz.2 (.inl he))) h2 λ_ _=>rfl) (an _ _) .returning).mono λe adE W' ⟨hu,v,q,he,aW,h1,ae,az,aQ⟩=>?_
 subst he hu
 have s2:=s.after aW h1 ae az
 have eA:bP {c with ds:=[]} E (Lo q++Lr) {a with defers:=[]} W':=
  {defers:=rfl,size:=s2.size,env:=s2.env,dI:=s2.dI,own:=s2.own,nodup:=s2.nodup,lt:=s2.lt,fO:=s2.fO,eG:=s2.eG}
 obtain⟨_,Fi,a7,bp⟩:=k q _ _ eA
 exact⟨Fi,a7,bp⟩
def aq.Sp{c:cC}{E:aa (Nat×J)}{L:aa aI}{fn:Func}{R:Ending->bq->Prop}{bM:Type}[dZ bM]{hp:aL bM}{f:FuncId}{us:aa bt}{Lin Lr:aa aI}{δ:Type}{Lo:δ->aa aI}{hq:δ->aL bM}(n m:Nat)(ax:L.drop n=aX hp)(et:c.ds=[yT f us])(cj:bL c.P f)
 (h:D2 c.P f (us.map J.eq) (Lin++aX hp) (λd=>Lo d++aX (hq d))) (h1:(L.take n).take m=Lin) (ae:(L.take n).drop m=Lr) (k:∀q,aq {c with ds:=[]} (bodyPost c.P fn R) .ret E ((Lo q++Lr)++aX (hq q))):aq c (bodyPostM Fence.wide 9 c.P fn R) .ret E L:=by
 have e:L=(Lin++Lr)++aX hp:=by rw[<-h1,<-ae,gp,<-ax,gp]
 subst e
 have bD:aq c (bodyPostM Fence.wide 9 c.P fn R) .ret E ((Lin++aX hp)++Lr):=aq.arx et cj h (λ_ _=>.Sy) λq=>λa W s=>k q a W (s.perm mR.symm)
 exact λa W s=>bD a W (s.perm mR)
instance:Inhabited eJ:=⟨⟨.slice none 0 0⟩⟩
def Q3{c:cC}{E:aa (Nat×J)}{L:aa aI}{x:ca}{u:bt}(h:aU c E L x (.of (⟨u⟩:eJ))):aU c E L x (.eq u):=λa W s=>(yb.1 (h a W s)).1
def ajV{c:cC}{E:aa (Nat×J)}{L:aa aI}{x:ca}{u:bt}(h:aU c E L x (.eq u))(a8:u.oneCell'=true):aU c E L x (.of (⟨u⟩:eJ)):=λa W s=>yb.2 ⟨h a W s,a8⟩
def ad.SY{c:cC}{E:aa (Nat×J)}{L:aa aI}{ops:Array Oper}{Q:Exit->Act->bq->Prop}{ty:bF}{pos:String}{af:Array Edge}{x:ca}{rest:aa Oper}{bc:Nat}{name:String}{ats:Array bF}{τ ρ:J}(h:mU c.P name τ [] [] (λ_:Unit=>ρ) (λ_=>[]))
 (an:aU c E L x τ) (aM:Nat.blt bc c.n=true) (k:ad c ops Q rest ((bc,ρ)::E) L):ad c ops Q (⟨some bc,.call ⟨.invoke x name,#[],ats⟩,ty,pos,af,none⟩::rest) E L:=λa W s=>
 iO I (QP (xs:=[]) (Lin:=[]) (Lr:=L) h s (.cons (an a W s) .nil)) λv W' ⟨_,cH,ba⟩=>k _ _ (cH.put (by simpa using aM) ba)
section
variable{c:cC}{E:aa (Nat×J)}{L:aa aI}{ops:Array Oper}{Q:Exit->Act->bq->Prop}
variable{d:aA Tmp}{ty:bF}{pos:String}{af:Array Edge}{g:aA (Nat×Bool)}{x y:ca}{t t2:bF}
end
section
variable{c:cC}{E:aa (Nat×J)}{L:aa aI}{d:aA Tmp}{ty:bF}{pos:String}{af:Array Edge}{g:aA (Nat×Bool)}{x:ca}
end
instance:kd ByteArray:=⟨λh c8=>h.trans c8.symm,λh v ba n=>by subst h;rw[hi.1 ba];simp[Instr.sameBits,beq_toListBytes]⟩
theorem bS.i{P:Program}{t:bF}{α:Type}[aj α]{d:TypeDesc}(hu:P.underlying t=some d)(aY:(match (motive:=TypeDesc->Bool) d with | .struct _| .array _ _=>true|_=>false)=aj.agg α:=by rfl)(hs:(P.info? t).map (·.size)=some (aj.size α):=by kernel_rfl):bS P t α:=bS.of aY hu hs
theorem dx.i{P:Program}{t:bF}{α:Type}[aj α][Inhabited α][a1 α](h:(P.info? t).bind (·.zero)=some (NN α):=by kernel_rfl):dx P t (default:α):=dx.of h
theorem cy.i{P:Program}{s f:Nat}{β γ:Type}[aj β][aj γ]{l:aP β γ}{fs:Array Field}{fd:Field}(hu:P.underlying s=some (.struct fs))(aW:fs[f]? =some fd)(dP:bS P fd.type γ)(a8:fd.offset=l.off:=by rfl)(hs:Nat.beq (aj.size γ) 0=false:=by rfl):cy P s f l:=⟨yK.of hu aW a8 dP hs⟩
def bL.i{P:Program}{f:FuncId}{fn:Func}(h:P.funcs[f]? =some fn)(ae:fn.body.isNone=false:=by rfl)(az:(fn.name== "runtime.NumGoroutine")=false:=by kernel_rfl):bL P f:=⟨fn,h,ae,az⟩
theorem fS.i{P:Program}{t:bF}{pl:Array (Nat×Nat)}{fs:Array Field}(h:P.underlying t=some (.struct fs))(ae:fs.all (λf=>(P.info? f.type).isSome)=true:=by kernel_rfl)(az:(fs.map λf=>(f.offset,P.cellsOf f.type))=pl:=by kernel_rfl):fS P t pl:=⟨fs,h,ae,az⟩
end Gv
