/-
  The library of the decompiler, as far as it is needed here. Conditions: none.
-/
import Derived.Test.YtdadopcnkghbaaaGreatMl1
import Derived.Test.YtdadopcnkghbaaaGreatMl0
set_option linter.defProp false
set_option linter.unusedVariables false
set_option linter.unusedSimpArgs false
namespace Gv
open Go
def ai.apP{α β ρ:Type}{gx:α->Prop}{m:α->ai β}{k:α->β->ai ρ}{R:ρ->Prop}(h:∀y,gx y->ai.bind (m y) (k y) R):∃K:α×β->Prop,(∀y,gx y->m y λz=>K (y,z))∧∀y,K y->k y.1 y.2 R:=
 ⟨λy=>k y.1 y.2 R,h,λ_ h=>h⟩
def ai.hd{α ρ:Type}{m:ai α}{k:α->ai ρ}{R:ρ->Prop}(h:ai.bind m k R):m (λa=>k a R):=h
structure arI(α:Type)where
 p:Option α
 deriving DecidableEq,Inhabited
def ahz{c:cj}{E:aa (Nat×J)}{L:aa aE}{d:aw Tmp}{ty:bx}{pos:String}{af:Array Edge}{g:aw (Nat×Bool)}{x:bZ}{t t2:bx}{p:Addr}{e:bx}(hu:c.P.underlying t=some (.pointer e))(al:aP c E L x (.eq (.pointer (some p)))):bc c E L ⟨d,.binOp .neq t x (.const (.pointer none)) t2,ty,pos,af,g⟩ (.of true):=.pure λa W s=>by
 have aI:a.eval (.const (.pointer none))=.pointer none:=rfl;have h1:a.eval x=.pointer (some p):=al a W s;refine⟨.bool true,?_,of_bool.2 I⟩;simp only[execOp,eqGuard,binOp,h1,aI,Op.equal,Op.maxDepth];simp[OT hu p W 9999]
structure xz(P:Program)(τ:J)(τs:List J)(Lin:List aE){δ:Type}(ρ:δ->J)(Lo:δ->List aE):Prop where
 go:∀(A:List Nat) (W:World) (u:Value) (vs:List Value),(∀k∈A,k<W.heap.size∧k∉ks Lin)->(ks Lin).Nodup->(∀k∈ks Lin,k<W.heap.size)->(∀e∈Lin,e.ok (ks Lin++A) W)->gG (ks Lin++A) W (τ::τs) (u::vs)->
  ∃(f:FuncId) (lb:List Value),u=.func (.func f) #[] lb.toArray∧bD P f∧Calls P f (vs++lb).toArray W (kA (ks Lin) A W ρ Lo)
def xz.of{P:Program}{f:FuncId}{τ:J}{ti τs:aa J}{Lin:aa aE}{δ:Type}{ρ:δ->J}{Lo:δ->aa aE}(cf:bD P f)(Hu:∀A W u,τ.holds A W u->(J.kE f ti).holds A W u)
 (h:bR P f (τs++ti) Lin ρ Lo):xz P τ τs Lin ρ Lo where
 go A W u vs h1 ad ay aR aX:=by
  cases aX with
  | cons bh c5=>
    obtain⟨lb,rfl,dW⟩:=Hu _ _ _ bh
    exact⟨f,lb,rfl,cf,h A W (vs++lb) h1 ad ay aR (c5.append dW)⟩
section
variable{c:cj}{E:aa (Nat×J)}{L:aa aE}{ops:Array Oper}{Q:Exit->Act->bf->Prop}
variable{d:aw Tmp}{ty:bx}{pos:String}{af:Array Edge}{g:aw (Nat×Bool)}{x y z:bZ}{t t2:bx}
def P6{o:Oper}{σ τ:J}(h:bc c E L o σ)(e:∀A W v,σ.holds A W v->τ.holds A W v):bc c E L o τ:=λa W s=>by
 have:=h a W s;unfold gJ at this⊢;exact vq (λhL W' ⟨v,h1,ad,ay⟩=>⟨v,h1,ad,e _ _ _ ay⟩) this
def aik{a:Act}{W:bf}{xs:aa bZ}{ats:Array bx}{τ:J}{τs:aa J}{Lin Lr:aa aE}{δ:Type}{ρ:δ->J}{Lo:δ->aa aE}(h:xz c.P τ τs Lin ρ Lo)
 (s:bG c E (Lin++Lr) a W) (al:gG (ks (Lin++Lr)++c.bP) W (τ::τs) ((x::xs).map a.eval)):
 gJ c.P ⟨d,.call ⟨.value x,xs.toArray,ats⟩,ty,pos,af,g⟩ a W λv W'=> ∃a1,bG c E (Lo a1++Lr) a W'∧(ρ a1).holds (ks (Lo a1++Lr)++c.bP) W' v:=by
 have lB:=s.nodup
 rw[eg]at lB
 obtain⟨nF,sr,p2⟩:=nd.1 lB
 have hF:Ext (ks (Lin++Lr)++c.bP) W (ks Lin++(ks Lr++c.bP)) W:=Cn
 have ev:∀k∈ks Lr++c.bP,k<W.heap.size∧k∉ks Lin:=λk hm=>by
  rcases ca.1 hm with hm|hm
  ·exact⟨s.lt k (by rw[eg];exact ca.2 (.inr hm)),λh=>p2 k h k hm I⟩
  obtain⟨h1,ad⟩:=s.er k hm;exact⟨h1,λh=>ad (by rw[eg];exact ca.2 (.inl h))⟩
 have b9:∀k∈ks Lin,k<W.heap.size:=λk hm=>s.lt k (by rw[eg];exact ca.2 (.inl hm))
 obtain⟨f,lb,hu,cf,ak⟩:=h.go (ks Lr++c.bP) W (a.eval x) (xs.map a.eval) ev nF b9 (λe he=>aE.um (s.own e (ca.2 (.inl he))) hF λ_ _=>rfl) (by simpa using al.mono hF)
 refine .vE (f:=f) (args:=(xs.map a.eval++lb).toArray) (W':=W) ?_ (ak.mono λe W' ⟨v,a1,he,aY,h1,ad,ay,aR⟩=>?_)
 ·simp[execOp,resolve,Deferred.ofValue,hu,invoke,cf.run]
 refine⟨v,he,a1,s.after aY h1 ad ay,(ρ a1).mono Ke aR⟩
variable{bC:Type}[dN bC]{hp:aH bC}
def ae.apY{rest:aa Oper}{a1:Nat}{xs:aa bZ}{ats:Array bx}{τ:J}{τs:aa J}{Lin Lr:aa aE}{δ:Type}{ρ:δ->J}{Lo:δ->aa aE}{hq:δ->aH bC}(n m:Nat)(av:L.drop n=a6 hp)(h:xz c.P τ τs (Lin++a6 hp) ρ (λd=>Lo d++a6 (hq d)))
 (h1:(L.take n).take m=Lin) (ad:(L.take n).drop m=Lr) (al:ic c E L (x::xs) (τ::τs)) (aI:Nat.blt a1 c.n=true) (k:∀q,ae c ops Q rest ((a1,ρ q)::E) ((Lo q++Lr)++a6 (hq q))):
 ae c ops Q (⟨some a1,.call ⟨.value x,xs.toArray,ats⟩,ty,pos,af,none⟩::rest) E L:=by
 have e:L=(Lin++Lr)++a6 hp:=by rw[<-h1,<-ad,gb,<-av,gb]
 clear av h1 ad
 subst e
 exact λa W s=>iw I (aik (Lr:=Lr) h (s.perm mG) ((al.holds a W s).mono (oW mG))) λv W' ⟨q,b0,ba⟩=>
  k q _ _ ((b0.perm mG).put (by simpa using aI) ((ρ q).mono (oW mG) ba))
def alV{p n:Nat}{k:bC}{e:aE}{es:aa aE}(av:L.drop n=a6 hp)(h:pat hp p=some k)(hk:dN.gk p k=e::es):e∈L:=by
 obtain⟨R,h1,_⟩:=vw h;rw[hk]at h1;have:e∈L.drop n:=by rw[av];exact h1.mem_iff.2 (by simp)
 exact Bs this
def ahb{x:bZ}{t:bx}{p o:Nat}{β γ:Type}[ah β][ah γ]{b:β}{os:aa (Nat×bl)}(l:aN β γ){r:γ}(dQ:bK c.P t γ)(al:aP c E L x (.eq (.pointer (some ⟨p,o,none⟩))))
 (hm:(⟨some p,.cq b os⟩:aE)∈L) (aU:o=l.off) (aD:l.get b=r) (a7:uy os l.off (ah.size γ)=true):bc c E L ⟨d,.load t x,ty,pos,af,g⟩ (.of r):=by
 obtain⟨i,ax⟩:=l8.1 hm
 exact Kj (i:=i) l dQ al ax aU aD a7
def We{bC:Type}{hp:aH bC}{p:Nat}{k:bC}(h:pat hp p=some k):cr hp p k=hp:=by
 induction hp with
 |nil=>rfl
 | cons z r bJ=>
   obtain⟨q,arF⟩:=z
   simp only[pat]at h
   simp only[cr]
   split
   ·rename_i e
    rw[br e]at h
    rw[uc h]
   rename_i e
   rw[bn e]at h
   rw[bJ h]
def ae.P7{l:aa Oper}{p:Nat}{k:bC}{X:aa aE}(n:Nat)(av:L.drop n=a6 hp)(hp':pat hp p=some k)(hk:dN.gk p k=X)
 (na:∀R,(∀k',(a6 (cr hp p k')).Perm (dN.gk p k'++R))->ae c ops Q l E (X++(L.take n++R))):ae c ops Q l E L:=by
 obtain⟨R,bj,bB⟩:=vw hp'
 refine ae.perm ?_ (na R bB)
 conv=>rhs;rw[<-gb n L,av]
 rw[hk]at bj
 refine List.Perm.trans ?_ (bj.symm.append_left (L.take n))
 rw[<-jn,<-jn]
 exact nc.append_right _
def ae.QH{l:aa Oper}{p:Nat}{R M:aa aE}(k':bC)(m n:Nat)(kp:∀k',(a6 (cr hp p k')).Perm (dN.gk p k'++R))(av:L.drop n=R)(h1:(L.take n).take m=dN.gk p k')(ad:(L.take n).drop m=M)
 (na:ae c ops Q l E (M++a6 (cr hp p k'))):ae c ops Q l E L:=by
 have e:L=(dN.gk p k'++M)++R:=by rw[<-h1,<-ad,gb,<-av,gb]
 refine ae.perm ?_ na
 rw[e]
 refine((kp k').append_left M).trans ?_
 rw[<-jn]
 exact nc.append_right _
end
section
variable{P:Program}{b:Frame}{a:Act}{k:aa Item}{cs:aa Frame}{w:bf}{Q:Exit->Act->bf->Prop}{F:Fence}{n:Nat}
def Sl(Q:Exit->Act->bf->Prop):Exit->Act->bf->Prop
 | .goto _,_,_=>False
 |e,a,w=>Q e a w
def Cb{c:Code}:step P (lone (b.atR a (.code (.scope c)::k)) cs w)=.next (lone (b.atR a (.code c::.inScope c::k)) cs w):=
 step_lone_go (by simp[stepG,stepG.exec,Frame.atR])
def ae9{c:Code}:step P (lone (b.atR a (.inScope c::k)) cs w)=.next (lone (b.atR a k) cs w):=
 step_lone_go (by simp[stepG,stepG.exec,Frame.atR])
def afS{c:Code}(h:c.wpIn F n P (Sl Q) a w):(Code.scope c).wpIn F n P Q a w:=by
 intro b k cs mr hb aD;have bu:(lone (b.atR a (.code (.scope c)::k)) cs w).fenced P F:=BQ hb aD I;obtain⟨e,sj,Au,hq,oy⟩:=h b (.inScope c::k) cs mr hb aD;cases e with
 |normal=>exact⟨.normal,sj,Au,hq,.head bu Cb (ND oy (.one (BQ hb aD I) ae9))⟩
 | exit id=>
   have al:exitTo id (.inScope c::k)=exitTo id k:=by simp[exitTo]
   exact⟨.exit id,sj,Au,hq,λk' hk=>.head bu Cb (oy.1 k' (by rw[al];exact hk)),
    λjL hk=>let⟨k₁,h1,ad⟩:=oy.2 jL (by rw[al];exact hk); ⟨k₁,h1,.head bu Cb ad⟩⟩
 |goto l=>exact hq.elim
 |ret=>exact⟨_,sj,Au,hq,.of_steps (.one bu Cb) oy⟩
 |panic ch=>exact⟨_,sj,Au,hq,.of_steps (.one bu Cb) oy⟩
 |outgrown=>exact⟨_,sj,Au,hq,.of_steps (.one bu Cb) oy⟩
end
section
variable{c:cj}{E:aa (Nat×J)}{L:aa aE}{Q:Exit->Act->bf->Prop}
def az.scope{x:Code}(h:az c (Sl Q) x E L):az c Q (.scope x) E L:=λa W s=>afS (h a W s)
def az.label{l:Nat}(h:ar c Q .normal E L):az c Q (.label l) E L:=λa W s=>wpIn_label (h a W s)
def ar.ZC(h:ar c Q .ret E L):ar c (Sl Q) .ret E L:=h
end
section
variable{c:cj}{E:aa (Nat×J)}{L:aa aE}
def bc.apS{o:Oper}{ρ τ:J}{p:Prop}(gn:Nat)(ao:look E gn=some (.cond p τ))(hb:p)(h:bc c ((gn,τ)::E) L o ρ):bc c E L o ρ:=λa W s=>by
 refine h a W (s.less λt σ ad=>?_);simp only[look]at ad;by_cases e:Nat.beq gn t=true
 ·rw[e]at ad;simp only[cond_true,fi]at ad;have:=eP.1 e;subst this;subst ad;exact⟨_,ao,λA W v ba=>ba.1 hb⟩
 simp only[kX]at e;rw[e]at ad;simp only[cond_false]at ad;exact⟨σ,ad,λ_ _ _ h=>h⟩
end
abbrev J.df(p:Nat):J:=.eq (.pointer (some ⟨p,0,none⟩))
abbrev a8{α:Type}[ah α](p:Nat)(x:α):aE:=⟨some p,.var x⟩
inductive oh:Nat->List aE->List aE->Prop
 |nil {L:List aE}:oh 0 L []
 |cons {n:Nat} {e:aE} {r s:List aE}:oh n r s->oh (n+1) (e::r) (e::s)
inductive oi:List aE->List aE->Prop
 |nil:oi [] []
 |gk {bC:Type} [dN bC] {hp:aH bC}:oi (a6 hp) (a6 hp)
 |qc {l:List aE}:oi l l
 |cons {e e':aE} {r s:List aE}:e=e'->oi r s->oi (e::r) (e'::s)
def oi.eq:∀{l m:aa aE},oi l m->l=m
 |_,_,.nil=>rfl
 |_,_,@oi.gk _ _ _=>rfl
 |_,_,.qc=>rfl
 |_,_,.cons h1 h=>by rw[h.eq,h1]
section
variable{c:cj}{E:aa (Nat×J)}{L:aa aE}{ops:Array Oper}{Q:Exit->Act->bf->Prop}{x:bZ}
def ae.dh{l:aa Oper}{L2:aa aE}(k:ae c ops Q l E L2)(h:oi L L2:=by repeat (first|exact oi.gk|exact oi.nil|(apply oi.cons; (first|(dsimp only;exact rfl)|exact rfl))|exact oi.qc)):ae c ops Q l E L:=.eL h.eq k
def ar.dh{z:Exit}{L2:aa aE}(k:ar c Q z E L2)(h:oi L L2:=by repeat (first|exact oi.gk|exact oi.nil|(apply oi.cons; (first|(dsimp only;exact rfl)|exact rfl))|exact oi.qc)):ar c Q z E L:=.eL h.eq k
def eK.od{γ:Type}{Ta:aa (Nat×J)}{Tb:aa aE}{f:Nat}{bI:Array Bool}(cM:aa Nat)(d m DI:Nat)(sX:Array Bool)(u:γ->aa (Nat×J))(xs ys:γ->aa aE)(h1:∀g,eK c ops Q DI sX (u g++Ta) (xs g++(Tb++ys g)))
 (ad:(∀g,eK c ops Q DI sX (u g++Ta) (xs g++(Tb++ys g)))->eK c ops Q f bI E L) (aM:jP E cM Ta:=by repeat (first|exact jP.nil|(apply jP.cons;rfl))) (av:oh m (L.drop d) Tb:=by repeat (first|exact oh.nil|apply oh.cons)):eK c ops Q f bI E L:=ad h1
def eK.s1{f:Nat}{bI:Array Bool}{o:Oper}(i:Nat)(h:ae c ops (pr (wpAnyIn c.F 9 c.P .any ops Q f (bI.setIfInBounds i true)) Q) [o] E L)(aU:ops[i]? =some o:=by rfl)(aD:Region.ready .any ops bI=[i]:=by kernel_rfl):eK c ops Q (f+1) bI E L:=.step [i] aD I ⟨⟨o,aU,h⟩,trivial⟩
def eK.s2{f:Nat}{bI:Array Bool}{o cc:Oper}(i j:Nat)(h:ae c ops (pr (wpAnyIn c.F 9 c.P .any ops Q f (bI.setIfInBounds i true)) Q) [o] E L)(ad:ae c ops (pr (wpAnyIn c.F 9 c.P .any ops Q f (bI.setIfInBounds j true)) Q) [cc] E L)
 (aU:ops[i]? =some o:=by rfl) (eS:ops[j]? =some cc:=by rfl) (aD:Region.ready .any ops bI=[i,j]:=by kernel_rfl):eK c ops Q (f+1) bI E L:=.step [i,j] aD I ⟨⟨o,aU,h⟩,⟨cc,eS,ad⟩,trivial⟩
def ae.jd{f:Nat}{bI sX:Array Bool}{E':aa (Nat×J)}(k:eK c ops Q f sX E' L)(h:eN E E':=by repeat (first|exact eN.nil|refine eN.same I ?_))(ao:bI=sX:=by kernel_rfl):ae c ops (pr (wpAnyIn c.F 9 c.P .any ops Q f bI) Q) [] E L:=.nil (.jd k h ao)
def LX{α:Type}{b:Bool}{m n:ai α}{R:α->Prop}{y z:Code}(h:cond b m n R)(bw:m R->az c Q y E L)(aY:n R->az c Q z E L)(ao:aP c E L x (.of b):=by first|exact ag I|exact hN _):az c Q (.cond x y z) E L:=
 .cond ao (λhb=>bw (W9 hb h)) (λhb=>aY (Xa hb h))
end
def j9(up rd wr:aa Nat)(e:(Nat->Hid)->aE):dt:=⟨none,up,rd,wr,λ_=>.any,λhd _=>e hd⟩
section
variable{c:cj}{E:aa (Nat×J)}{L:aa aE}{ops:Array Oper}{Q:Exit->Act->bf->Prop}{hs:aa dt}{i:Nat}{up rd:aa Nat}{o:Oper}{a1:Nat}
def im{τ:J}(h:∀{hd:Nat->Hid} {E':aa (Nat×J)} {L':aa aE},(∀t τ,look (kG hd hs E up) t=some τ->look E' t=some τ)->(∀j e,(gy (λ_=>true) hd 0 (hs.take i) L)[j]? =some e->rd.contains j=true->L'[j]? =some e)->bc c E' L' o τ)
 (bF:o.guard=none:=by rfl) (hd:o.dst=some a1:=by rfl) (aI:Nat.blt a1 c.n=true:=by rfl):fA c ops Q hs E L i o (aQ a1 up rd τ):=qT (λ_ _ _ a b=>h a b) bF hd aI
def gC{τ:J}{hyp:aa aE->Prop}(h:∀{L'},hyp L'->bc c E L' o τ)(bF:o.guard=none:=by rfl):∀L',hyp L'->ko c ops E L' o τ:=λL' av=>.v (h av) bF
end
def p3:aa (aw Nat)->aa (aa Nat)->aa J->aa dt
 |s::eH,d::ds,τ::cM=>⟨s,d,[],[],λ_=>τ,λ_ _=>⟨none,.dead⟩⟩::p3 eH ds cM
 |_,_,_=>[]
def C6:aa (aw Nat)->aa (aa Nat)->aa (aw Nat×aa Nat×aa Nat×aa Nat)
 |s::eH,d::ds=>(s,d,[],[])::C6 eH ds
 |_,_=>[]
def wc(E:aa (Nat×J)):aa (aw Nat)->aa (aa Nat)->aa J->aa (Nat×J)
 |s::eH,_::ds,τ::cM=>rk s τ (wc E eH ds cM)
 |_,_,_=>E
def Dw:aa Oper->aa (aw Nat)->Nat->Bool
 |[],[],_=>true
 |o::os,some s::eH,n=>(match o.dst with |some t=>Nat.beq t s|none=>false)&&Nat.blt s n&&Dw os eH n
 |_,_,_=>false
section
variable{c:cj}{E:aa (Nat×J)}{L:aa aE}{ops:Array Oper}{Q:Exit->Act->bf->Prop}
def xI(c:cj)(ops:Array Oper)(E:aa (Nat×J))(L:aa aE)(hs:aa dt):aa Oper->aa (aw Nat)->aa (aa Nat)->aa J->Prop
 |o::os,_::eH,d::ds,τ::cM=>(∀L':aa aE,(∀(j:Nat) (e:aE),L[j]? =some e->qx (λ_=>false) j 0 []=true->L'[j]? =some e)->ko c ops (kG (λ_ _=>none) hs E d) L' o τ)∧xI c ops E L hs os eH ds cM
 |_,[],[],[]=>True
 |_,_,_,_=>False
def Kn{h:dt}:∀{eH:aa (aw Nat)} {ds:aa (aa Nat)} {cM:aa J},h∈p3 eH ds cM->h.wr=[]∧∀g dm,h.τ g=h.τ dm
 | _::eH,_::ds,_::cM,hm=>by
   rcases dO.1 hm with rfl|hm
   ·exact⟨rfl,λ_ _=>rfl⟩
   exact Kn hm
def KN{hd:Nat->Hid}{hs:aa dt}(ak:∀h∈hs,∀g dm,h.τ g=h.τ dm):∀{d:aa Nat},kG hd hs E d=kG (λ_ _=>none) hs E d
 |[]=>rfl
 | j::r=>by
   unfold kG;cases aC:hs[j]? with
   |none=>exact KN ak
   | some h=>
     cases hq:h.slot with
     |none=>simp only[hq];exact KN ak
     |some s=>simp only[hq];rw[ak h (eo aC) _ (hx h.up j (λ_ _=>none)),KN ak]
def Y1{hd:Nat->Hid}:∀{hs:aa dt} {k:Nat} {L:aa aE},(∀h∈hs,h.wr=[])->gy (λ_=>true) hd k hs L=L
 |[],_,_,_=>rfl
 | h::r,k,L,hw=>by
   unfold gy;rw[hw h ln];exact Y1 λx al=>hw x (gd _ al)
def PO{hd:Nat->Hid}:∀{eH:aa (aw Nat)} {ds:aa (aa Nat)} {cM:aa J} {k:Nat},hW (λ_=>true) hd E k (p3 eH ds cM)=wc E eH ds cM
 |some s::eH,d::ds,τ::cM,k=>by unfold p3 wc hW;simp only[rk];rw[PO]
 |none::eH,d::ds,τ::cM,k=>by unfold p3 wc hW;simp only[rk];rw[PO]
 |[],_,_,_=>by unfold p3 wc hW;rfl
 |_::_,[],_,_=>by unfold p3 wc hW;rfl
 |_::_,_::_,[],_=>by unfold p3 wc hW;rfl
def ae.aU{o:Oper}{rest:aa Oper}{d:Nat}{τ:J}{E':aa (Nat×J)}(h:ko c ops E' L o τ)(aM:∀t τ,look E' t=some τ->look E t=some τ)(hd:o.dst=some d)(aI:Nat.blt d c.n=true)(k:ae c ops Q rest ((d,τ)::E) L):ae c ops Q (o::rest) E L:=λa W s=>by
 obtain⟨h1,ad⟩:=h a W (s.less λt τ ao=>⟨τ,aM t τ ao,λ_ _ _ h=>h⟩);unfold cj.tt wpListIn;by_cases hw:Region.wanted o (yielded ops a.tmps)=true
 ·rw[br hw];refine((h1 hw).wpIn λv W' ⟨f,ba⟩=>?_);rw[hd];exact k _ _ ((s.world f).put (by simpa using aI) ba)
 rw[bn hw,hd];exact⟨λ_ _=>trivial,k _ _ (s.put (by simpa using aI) (ad (by simpa using hw)))⟩
def xI.Hh{hs:aa dt}(ak:∀h∈hs,∀g dm,h.τ g=h.τ dm):∀{os:aa Oper} {eH:aa (aw Nat)} {ds:aa (aa Nat)} {cM:aa J} {k n:Nat},xI c ops E L hs os eH ds cM->Dw (os.take n) eH c.n=true->pC c ops Q hs E L 0 k (os.take n) (p3 eH ds cM)
 | os,[],ds,cM,k,n,_,hb=>by
   cases h:os.take n with
   |nil=>cases ds <;> cases cM <;> trivial
   |cons o r=>rw[h]at hb;cases hb
 |[],s::eH,ds,cM,k,n,_,hb=>by rw[List.take_nil]at hb;cases hb
 |o::os,s::eH,ds,cM,k,0,_,hb=>by cases hb
 |o::os,s::eH,[],cM,k,n+1,h,_=>h.elim
 |o::os,s::eH,d::ds,[],k,n+1,h,_=>h.elim
 |o::os,none::eH,d::ds,τ::cM,k,n+1,h,hb=>by simp[Dw]at hb
 | o::os,some s::eH,d::ds,τ::cM,k,n+1,h,hb=>by
   simp only[List.take_succ_cons,Dw,gq]at hb;refine⟨λHi E' L' aM _ cC=>?_,xI.Hh ak h.2 hb.2⟩;have e:L'=L:=cC;subst e;have dZ:o.dst=some s:=by
    have:=hb.1.1;cases hd:o.dst with
    |none=>rw[hd]at this;cases this
    |some t=>rw[hd]at this;rw[eP.1 this]
   exact ae.aU (h.1 _ λj e he _=>he) (λt τ ao=>aM t τ (by rw[KN ak];exact ao)) dZ hb.1.2 (ae.nil (ar.fin (λ_=>none) I I))
def az.lk{jh:Nat}{l:aa Oper}{es:aa Nat}(hm:c.P.follows .mixedOrders=true)(n:Nat)(dy:aa (aw Nat))(lA:aa (aa Nat))(cM:aa J)(b2:xI c l.toArray E L (p3 dy lA cM) l dy lA cM)(bw:ae c l.toArray Q (l.drop n) (wc E dy lA cM) L)
 (dZ:lE (p3 dy lA cM)=C6 dy lA:=by rfl) (jK:E.map (·.1)=es:=by rfl) (dE:Gv.qy l.toArray n (C6 dy lA) es=true:=by kernel_rfl) (hs:Dw (l.take n) dy c.n=true:=by rfl):az c Q (.region jh l.toArray true) E L:=
 have ak:∀h∈p3 dy lA cM,∀g dm,h.τ g=h.τ dm:=λh hm=>(Kn hm).2
 az.KM n (np:=0) hm (p3 dy lA cM) (C6 dy lA) es dZ jK dE (λh hm j aC=>by rw[(Kn hm).1]at aC;cases aC) (xI.Hh ak b2 hs) (λhd=>by rw[PO,Y1 λh hm=>(Kn hm).1];exact bw)
end
section
variable{c:cj}{E fq:aa (Nat×J)}{L fH:aa aE}{Q:Exit->Act->bf->Prop}{x:bZ}
def ye{γ:Type}{b:Bool}{y z:Code}(n:Nat)(cM:aa Nat)(u:γ->aa (Nat×J))(ul:γ->aa (Nat×aE))(nO:γ->aa aE)(oJ:∀g,ar c Q .normal (u g++fq) (ig fH (ul g)++nO g))
 (bw:(∀g,ar c (ei Q) .normal (u g++fq) (ig fH (ul g)++nO g))->b=true->az c (ei Q) y E L) (aY:(∀g,ar c (ei Q) .normal (u g++fq) (ig fH (ul g)++nO g))->b=false->az c (ei Q) z E L)
 (tw:oh n L fH:=by repeat (first|exact oh.nil|apply oh.cons)) (Hk:jP E cM fq:=by repeat (first|exact jP.nil|(apply jP.cons;rfl))) (ao:aP c E L x (.of b):=by first|exact ag I|exact hN _):az c Q (.cond x y z) E L:=
 az.cb (λg=>u g++fq) (λg=>ig fH (ul g)++nO g) ao oJ bw aY
def Dd{β γ ρ:Type}{kW:ρ->Prop}{b:Bool}{y z:Code}{bj bB:ai β}{k:β->ai ρ}(h:ai.bind (bif b then bj else bB) k kW)(n:Nat)(cM:aa Nat)(u:β->γ->aa (Nat×J))(ul:β->γ->aa (Nat×aE))(nO:β->γ->aa aE)
 (oJ:∀m g,k m kW->ar c Q .normal (u m g++fq) (ig fH (ul m g)++nO m g))
 (bw:(∀m g,k m kW->ar c (ei Q) .normal (u m g++fq) (ig fH (ul m g)++nO m g))->b=true->bj (λm=>k m kW)->az c (ei Q) y E L) (aY:(∀m g,k m kW->ar c (ei Q) .normal (u m g++fq) (ig fH (ul m g)++nO m g))->b=false->bB (λm=>k m kW)->az c (ei Q) z E L)
 (tw:oh n L fH:=by repeat (first|exact oh.nil|apply oh.cons)) (Hk:jP E cM fq:=by repeat (first|exact jP.nil|(apply jP.cons;rfl))) (ao:aP c E L x (.of b):=by first|exact ag I|exact hN _):az c Q (.cond x y z) E L:=
 az.ajk h (λm g=>u m g++fq) (λm g=>ig fH (ul m g)++nO m g) ao oJ bw aY
def wi{σ ε γ δ:Type}{body:Code}{N:Nat}{b:σ->aw (σ⊕ε)}{s0:σ}{e:ε}(ao:di N b s0=some e)(n:Nat)(cM:aa Nat)(u:σ->γ->aa (Nat×J))(ul:σ->γ->aa (Nat×aE))(nO:σ->γ->aa aE)(xs:ε->Exit)
 (tS:ε->δ->aa (Nat×J)) (tB:ε->δ->aa (Nat×aE)) (AY:ε->δ->aa aE) (g0:γ)
 (s8:∀s r,b s=some r->∀g,az c (fl c (λs g=>u s g++fq) (λs g=>ig fH (ul s g)++nO s g) xs (λe d=>tS e d++fq) (λe d=>ig fH (tB e d)++AY e d) r) body (u s g++fq) (ig fH (ul s g)++nO s g))
 (pE:∀g,ar c Q (xs e) (tS e g++fq) (ig fH (tB e g)++AY e g))
 (tw:oh n L fH:=by repeat (first|exact oh.nil|apply oh.cons)) (Hk:jP E cM fq:=by repeat (first|exact jP.nil|(apply jP.cons;rfl))) (aM:eN E (u s0 g0++fq):=by repeat (first|exact eN.nil|refine eN.same I ?_)) (av:L=ig fH (ul s0 g0)++nO s0 g0:=by rfl):az c Q (.loop body) E L:=
 az.K2 ao (λs g=>u s g++fq) (λs g=>ig fH (ul s g)++nO s g) xs (λe d=>tS e d++fq) (λe d=>ig fH (tB e d)++AY e d) g0 av aM s8 pE
def AG{σ ε γ δ ρ:Type}{body:Code}{N:Nat}{b:σ->ai (σ⊕ε)}{s0:σ}{k:ε->ai ρ}{kW:ρ->Prop}(ao:ai.bind (Gv.nV N b s0) k kW)(n:Nat)(cM:aa Nat)(u:σ->γ->aa (Nat×J))(ul:σ->γ->aa (Nat×aE))(nO:σ->γ->aa aE)(xs:ε->Exit)
 (tS:ε->δ->aa (Nat×J)) (tB:ε->δ->aa (Nat×aE)) (AY:ε->δ->aa aE) (g0:γ)
 (s8:∀s R,b s R->∀g,az c (fC c (λs g=>u s g++fq) (λs g=>ig fH (ul s g)++nO s g) xs (λe d=>tS e d++fq) (λe d=>ig fH (tB e d)++AY e d) R) body (u s g++fq) (ig fH (ul s g)++nO s g))
 (pE:∀e,k e kW->∀g,ar c Q (xs e) (tS e g++fq) (ig fH (tB e g)++AY e g))
 (tw:oh n L fH:=by repeat (first|exact oh.nil|apply oh.cons)) (Hk:jP E cM fq:=by repeat (first|exact jP.nil|(apply jP.cons;rfl))) (aM:eN E (u s0 g0++fq):=by repeat (first|exact eN.nil|refine eN.same I ?_)) (av:L=ig fH (ul s0 g0)++nO s0 g0:=by rfl):az c Q (.loop body) E L:=
 az.Xx ao (λs g=>u s g++fq) (λs g=>ig fH (ul s g)++nO s g) xs (λe d=>tS e d++fq) (λe d=>ig fH (tB e d)++AY e d) g0 av aM s8 pE
end
inductive NE:List (Nat×J)->List (Nat×J)->Prop
 |nil:NE [] []
 |cons {x:Nat×J} {r s:List (Nat×J)}:NE r s->NE (x::r) (x::s)
def NE.eq:∀{l m:aa (Nat×J)},NE l m->l=m
 |_,_,.nil=>rfl
 |_,_,.cons h=>by rw[h.eq]
section
variable{c:cj}{E fq:aa (Nat×J)}{L:aa aE}{ops:Array Oper}{Q:Exit->Act->bf->Prop}
def je{z:Exit}(k:ar c Q z fq L)(h:NE E fq:=by repeat (first|exact NE.nil|apply NE.cons)):ar c Q z E L:=by rw[h.eq];exact k
def aa0{l:aa Oper}(k:ae c ops Q l fq L)(h:NE E fq:=by repeat (first|exact NE.nil|apply NE.cons)):ae c ops Q l E L:=by rw[h.eq];exact k
def az.h4{jh:Nat}{l:aa Oper}{ds:aa (aw Nat×aa Nat×aa Nat×aa Nat)}{es:aa Nat}(n np:Nat)(hm:c.P.follows .mixedOrders=true)(hs:aa dt)
 (b2:pC c l.toArray Q hs E L np 0 (l.take n) hs) (bw:∀hd,ae c l.toArray Q (l.drop n) (hW (λ_=>true) hd E 0 hs) (gy (λ_=>true) hd 0 hs L))
 (dZ:lE hs=ds:=by rfl) (jK:E.map (·.1)=es:=by rfl) (dE:Gv.qy l.toArray n ds es=true:=by kernel_rfl) (hw:(ds.all λd=>d.2.2.2.all λj=>Nat.blt j np)=true:=by kernel_rfl):az c Q (.region jh l.toArray true) E L:=.arG n np hm hs es b2 bw dZ jK dE hw
def az.arx{jh:Nat}{l:aa Oper}{ds:aa (aw Nat×aa Nat×aa Nat×aa Nat)}{es:aa Nat}(np:Nat)(hm:c.P.follows .mixedOrders=true)(hs:aa dt)
 (b2:pC c l.toArray Q hs E L np 0 l hs) (bw:∀hd,ar c Q .normal (hW (λ_=>true) hd E 0 hs) (gy (λ_=>true) hd 0 hs L))
 (dZ:lE hs=ds:=by rfl) (jK:E.map (·.1)=es:=by rfl) (dE:Gv.qy l.toArray l.length ds es=true:=by kernel_rfl) (hw:(ds.all λd=>d.2.2.2.all λj=>Nat.blt j np)=true:=by kernel_rfl):az c Q (.region jh l.toArray true) E L:=.S7 np hm hs es b2 bw dZ jK dE hw
def az.SS{jh:Nat}{l:aa Oper}{ds:aa (aw Nat×aa Nat×aa Nat×aa Nat)}{es:aa Nat}(hm:c.P.follows .mixedOrders=true)(hs:aa dt)
 (b2:Cv c l.toArray Q hs E L 0 l hs) (bw:∀hd,ar c Q .normal (hW (λ_=>true) hd E 0 hs) (gy (λ_=>true) hd 0 hs L))
 (dZ:lE hs=ds:=by rfl) (jK:E.map (·.1)=es:=by rfl) (dE:Gv.qy l.toArray l.length ds es=true:=by kernel_rfl):az c Q (.region jh l.toArray true) E L:=.Mx hm hs es b2 bw dZ jK dE
end
def eD(n:Nat):aa Nat->Bool
 |[]=>false
 |m::r=>bif Nat.beq m n then true else eD n r
def mH{n:Nat}:∀{l:aa Nat},eD n l=true↔n∈l
 |[]=>by simp[eD]
 | m::r=>by
   unfold eD;cases h:Nat.beq m n with
   |true=>have:=TN h;subst this;simp
   | false=>
     have cX:n≠m:=λe=>by subst e;rw[ng]at h;cases h
     simp only[cond_false,mH,dO,cX,false_or]
def l7(ls:Nat->Bool)(E:aa (Nat×J)):aa (Nat×Nat×J)->aa (Nat×J)
 |[]=>E
 |x::r=>bif ls x.1 then x.2::l7 ls E r else l7 ls E r
def Av(i:Nat):aa (Nat×Nat×J)->aw J
 |[]=>none
 |x::r=>bif Nat.beq x.1 i then some x.2.2 else Av i r
def LI(i:Nat):aa (Nat×Nat×J)->aw (Nat×J)
 |[]=>none
 |x::r=>bif Nat.beq x.1 i then some x.2 else LI i r
def Dx:aa Edge->aa Nat
 |[]=>[]
 |e::r=>bif Region.binds .any e then e.on::Dx r else Dx r
def FN{d:Nat}:∀{l:aa Edge},d∈Dx l↔∃e∈l,Region.binds .any e=true∧e.on=d
 |[]=>by simp[Dx]
 | e::r=>by
   unfold Dx;cases h:Region.binds .any e with
   | true=>
     simp only[cond_true,dO,FN]
     constructor
     ·rintro (rfl|⟨e',h1,ad,ay⟩)
      ·exact⟨e,.inl I,h,rfl⟩
      exact⟨e',.inr h1,ad,ay⟩
     rintro ⟨e',rfl|h1,ad,ay⟩
     ·exact .inl ay.symm
     exact .inr ⟨e',h1,ad,ay⟩
   | false=>
     simp only[cond_false,FN,dO]
     constructor
     ·rintro ⟨e',h1,ad⟩;exact⟨e',.inr h1,ad⟩
     rintro ⟨e',rfl|h1,ad,ay⟩
     ·rw[h]at ad;cases ad
     exact⟨e',h1,ad,ay⟩
def kC(o:Oper):aa Nat:=Dx o.after.toList
def Dy(fs:aa (Nat×Nat×J)):aa Nat:=fs.map (·.2.1)
structure tG(fs:List (Nat×Nat×J))(E:List (Nat×J)):Prop where
 MD:(Dy fs).Nodup
 out:∀t∈Dy fs,look E t=none
def tG.app{fs gs:aa (Nat×Nat×J)}{M:aa (Nat×J)}(h:tG (gs++fs) M):tG fs M:=⟨by have:=h.MD;unfold Dy at this;rw[vl]at this;exact(nd.1 this).2.1,λt bw=>h.out t (by unfold Dy;rw[vl];exact ca.2 (.inr bw))⟩
def KO{α β:Type}{f:α->β}:∀{l:aa α},(l.map f).Nodup->∀{x y:α},x∈l->y∈l->f x=f y->x=y
 | z::r,h,x,y,al,hy,e=>by
   obtain⟨h1,ad⟩:=lQ.1 h;rcases dO.1 al with au|al
   ·rcases dO.1 hy with aW|hy
    ·rw[au,aW]
    exact absurd (gY.2 ⟨y,hy,by rw[<-e,au]⟩) h1
   rcases dO.1 hy with aW|hy
   ·exact absurd (gY.2 ⟨x,al,by rw[e,aW]⟩) h1
   exact KO ad al hy e
def nr{ls:Nat->Bool}{E:aa (Nat×J)}{t:Nat}{τ:J}:∀{fs:aa (Nat×Nat×J)},tG fs E->(look (l7 ls E fs) t=some τ↔(∃i,ls i=true∧(i,t,τ)∈fs)∨look E t=some τ)
 |[],_=>by simp[l7]
 | x::r,ok=>by
   have h1:=lQ.1 ok.MD;have bJ:=nr (ls:=ls) (t:=t) (τ:=τ) (fs:=r) ⟨h1.2,λt bw=>ok.out t (gd _ bw)⟩;have aM:look E t=some τ->x.2.1≠t:=λh e=>by rw[<-e,ok.out _ ln]at h;cases h
   have aD:∀i,(i,t,τ)∈r->x.2.1≠t:=λi h e=>h1.1 (by show x.2.1∈_;rw[e];exact gY.2 ⟨_,h,rfl⟩);unfold l7;cases ao:ls x.1 with
   | false=>
     simp only[cond_false,bJ]
     refine or_congr ⟨λ⟨i,h1,ad⟩=>⟨i,h1,gd _ ad⟩,λ⟨i,h1,ad⟩=>?_⟩ Iff.rfl
     rcases dO.1 ad with e|ad
     ·rw[<-e,h1]at ao;cases ao
     exact⟨i,h1,ad⟩
   | true=>
     simp only[cond_true,look]
     cases hb:Nat.beq x.2.1 t with
     | true=>
       have e:=eP.1 hb
       simp only[cond_true,fi]
       constructor
       ·intro h;exact .inl ⟨x.1,ao,by rw[<-e,<-h];exact ln⟩
       rintro (⟨i,_,ad⟩|h)
       ·rcases dO.1 ad with aW|ad
        ·rw[<-aW]
        exact absurd e (aD i ad)
       exact absurd e (aM h)
     | false=>
       have e:x.2.1≠t:=λe=>by rw[e,ng]at hb;cases hb
       simp only[cond_false,bJ]
       refine or_congr ⟨λ⟨i,h1,ad⟩=>⟨i,h1,gd _ ad⟩,λ⟨i,h1,ad⟩=>?_⟩ Iff.rfl
       rcases dO.1 ad with aW|ad
       ·exact absurd (by rw[<-aW]) e
       exact⟨i,h1,ad⟩
def Q3{us ls:Nat->Bool}{E:aa (Nat×J)}{t:Nat}{τ:J}{fs:aa (Nat×Nat×J)}(hu:∀i,us i=true->ls i=true)(ok:tG fs E)(h:look (l7 us E fs) t=some τ):look (l7 ls E fs) t=some τ:=
 (nr ok).2 (((nr ok).1 h).imp (λ⟨i,h1,ad⟩=>⟨i,hu i h1,ad⟩) id)
def ahc{ls ls':Nat->Bool}{E:aa (Nat×J)}{i t u:Nat}{τ σ:J}{fs:aa (Nat×Nat×J)}(Hg:∀j,ls' j=true->ls j=true∨j=i)(ok:tG fs E)(hm:(i,t,τ)∈fs)(ij:(fs.map (·.1)).Nodup)(h:look (l7 ls' E fs) u=some σ):look ((t,τ)::l7 ls E fs) u=some σ:=by
 simp only[look];cases hb:Nat.beq t u with
 | true=>
   have e:=eP.1 hb
   subst e
   rcases (nr ok).1 h with⟨j,_,ad⟩|ad
   ·have:=KO ok.MD hm ad I
    cases this;rfl
   rw[ok.out t (gY.2 ⟨_,hm,rfl⟩)]at ad;cases ad
 | false=>
   refine(nr ok).2 (((nr ok).1 h).imp (λ⟨j,h1,ad⟩=>⟨j,?_,ad⟩) id)
   rcases Hg j h1 with ay|ay
   ·exact ay
   subst ay
   have:=KO ij hm ad I
   cases this
   rw[ng]at hb;cases hb
def Ch{t:Nat}{B:aa (Nat×J)}:∀{A:aa (Nat×J)},look (A++B) t=match look A t with |some τ=>some τ|none=>look B t
 |[]=>rfl
 | x::r=>by
   simp only[List.cons_append,look];cases Nat.beq x.1 t with
   |true=>rfl
   |false=>exact Ch
def ajp{ls:Nat->Bool}{E M:aa (Nat×J)}{t:Nat}{τ:J}{fs:aa (Nat×Nat×J)}(ok:tG fs (M++E))(h:look (l7 ls (M++E) fs) t=some τ):look (M++l7 ls E fs) t=some τ:=by
 have out:∀t∈Dy fs,look M t=none∧look E t=none:=λt bw=>by
  have h:=ok.out t bw;rw[Ch]at h;cases oJ:look M t with
  |some τ=>rw[oJ]at h;cases h
  |none=>rw[oJ]at h;exact⟨rfl,h⟩
 have abq:tG fs E:=⟨ok.MD,λt bw=>(out t bw).2⟩;rw[Ch];rcases (nr ok).1 h with⟨i,h1,ad⟩|h1
 ·rw[(out t (gY.2 ⟨_,ad,rfl⟩)).1];exact(nr abq).2 (.inl ⟨i,h1,ad⟩)
 rw[Ch]at h1;cases oJ:look M t with
 |some σ=>rw[oJ]at h1;exact h1
 |none=>rw[oJ]at h1;exact(nr abq).2 (.inr h1)
section
variable{c:cj}{E:aa (Nat×J)}{L:aa aE}{l:aa Oper}{Q:Exit->Act->bf->Prop}
structure Be(l:List Oper)(dU eb:List Nat)(ls:Array Bool):Prop where
 size:ls.size=l.length
 eq:∀i,i∈dU->ls.getD i false=eD i eb
 vc:∀i o,l[i]? =some o->ls.getD i false=true->∀d∈kC o,ls.getD d false=true
def yv(l:aa Oper)(ls:Array Bool):Nat:=((List.range l.length).filter λj=> !ls.getD j false).length
def gI(c:cj)(l:aa Oper)(Q:Exit->Act->bf->Prop)(dU eb:aa Nat)(fs:aa (Nat×Nat×J))(E:aa (Nat×J))(L:aa aE):Prop:=
 (tG fs E∧∀x∈fs,eD x.1 dU=false)∧∀m ls a W,Be l dU eb ls->yv l ls<=m->bG c (l7 (λi=>ls.getD i false) E fs) L a W->wpAnyIn c.F 9 c.P .any l.toArray Q m ls a W
def yE(c:cj)(l:aa Oper)(E:aa (Nat×J))(L:aa aE)(fs:aa (Nat×Nat×J)):aa Nat->Prop
 |[]=>True
 |i::r=>(match l[i]?,Av i fs with |some o,some τ=>ko c l.toArray (l7 (λj=>eD j (kC o)) E fs) L o τ|_,_=>False)∧yE c l E L fs r
def yE.get{fs:aa (Nat×Nat×J)}:∀{nl:aa Nat},yE c l E L fs nl->∀{i:Nat},i∈nl->∃o τ,l[i]? =some o∧Av i fs=some τ∧ko c l.toArray (l7 (λj=>eD j (kC o)) E fs) L o τ
 | j::r,h,i,ax=>by
   rcases dO.1 ax with rfl|ax
   ·have h1:=h.1;cases ad:l[i]? with
    |none=>rw[ad]at h1;exact h1.elim
    | some o=>
      cases ay:Av i fs with
      |none=>rw[ad,ay]at h1;exact h1.elim
      |some τ=>rw[ad,ay]at h1;exact⟨o,τ,rfl,rfl,h1⟩
   exact yE.get h.2 ax
def h2(c:cj)(l:aa Oper)(Q:Exit->Act->bf->Prop)(dU eb:aa Nat)(fs:aa (Nat×Nat×J))(E:aa (Nat×J))(L:aa aE)(k:Nat):Prop:=
 tG fs E->∀m ls o,l[k]? =some o->Be l dU eb ls->ls.getD k false=false->(∀d∈kC o,ls.getD d false=true)->yv l (ls.setIfInBounds k true)<=m->
  ae c l.toArray (pr (wpAnyIn c.F 9 c.P .any l.toArray Q m (ls.setIfInBounds k true)) Q) [o] (l7 (λi=>ls.getD i false) E fs) L
def yF(c:cj)(l:aa Oper)(Q:Exit->Act->bf->Prop)(dU eb:aa Nat)(fs:aa (Nat×Nat×J))(E:aa (Nat×J))(L:aa aE):aa Nat->Prop
 |[]=>True
 |k::r=>h2 c l Q dU eb fs E L k∧yF c l Q dU eb fs E L r
def yF.get{dU eb:aa Nat}{fs:aa (Nat×Nat×J)}:∀{el:aa Nat},yF c l Q dU eb fs E L el->∀{k:Nat},k∈el->h2 c l Q dU eb fs E L k
 | _::_,h,k,hk=>by
   rcases dO.1 hk with rfl|hk
   ·exact h.1
   exact yF.get h.2 hk
def Hz(l:aa Oper):aa Nat->aa Nat->Bool
 |_,[]=>true
 |acc,i::r=>(acc.any λk=>match l[k]? with |some o=>eD i (kC o)|none=>false)&&Hz l (i::acc) r
def OV{ls:Array Bool}(hd:∀i o,l[i]? =some o->ls.getD i false=true->∀d∈kC o,ls.getD d false=true):∀{oK acc:aa Nat},Hz l acc oK=true->(∀k∈acc,ls.getD k false=true)->∀i∈oK,ls.getD i false=true
 | i::r,acc,h,a7,j,aC=>by
   simp only[Hz,gq,oQ]at h;obtain⟨⟨k,hk,h1⟩,ad⟩:=h;have ax:ls.getD i false=true:=by
    cases aU:l[k]? with
    |none=>rw[aU]at h1;cases h1
    |some o=>rw[aU]at h1;exact hd k o aU (a7 k hk) i (mH.1 h1)
   rcases dO.1 aC with rfl|aC
   ·exact ax
   exact OV hd ad (λk hk=>by rcases dO.1 hk with rfl|hk;exact ax;exact a7 k hk) j aC
def Dz(l:aa Oper):aa Nat->aa Nat->Bool
 |_,[]=>true
 |acc,i::r=>(match l[i]? with |some o=>acc.any λk=>eD k (kC o)|none=>false)&&Dz l (i::acc) r
def Ko{ls:Array Bool}(hd:∀i o,l[i]? =some o->ls.getD i false=true->∀d∈kC o,ls.getD d false=true):∀{tU acc:aa Nat},Dz l acc tU=true->(∀k∈acc,ls.getD k false=false)->∀i∈tU,ls.getD i false=false
 | i::r,acc,h,a7,j,aC=>by
   simp only[Dz,gq]at h;obtain⟨h1,ad⟩:=h;have ax:ls.getD i false=false:=by
    cases aU:l[i]? with
    |none=>rw[aU]at h1;cases h1
    | some o=>
      rw[aU,oQ]at h1
      obtain⟨k,hk,ay⟩:=h1
      cases ao:ls.getD i false with
      |false=>rfl
      |true=>have:=hd i o aU ao k (mH.1 ay);rw[a7 k hk]at this;cases this
   rcases dO.1 aC with rfl|aC
   ·exact ax
   exact Ko hd ad (λk hk=>by rcases dO.1 hk with rfl|hk;exact ax;exact a7 k hk) j aC
def x5(l:aa Oper)(dU eb:aa Nat):aa Nat->aa Nat->aa Nat
 |[],acc=>acc
 |i::r,acc=>x5 l dU eb r (match l[i]? with |some o=>(bif (eD i dU&& !eD i eb)||(kC o).any (λd=>eD d acc)then i::acc else acc)|none=>acc)
def Wn{l:aa Oper}{dU eb:aa Nat}{ls:Array Bool}(he:∀i,i∈dU->ls.getD i false=eD i eb)(hd:∀i o,l[i]? =some o->ls.getD i false=true->∀d∈kC o,ls.getD d false=true):∀{is acc:aa Nat},(∀k∈acc,ls.getD k false=false)->∀k∈x5 l dU eb is acc,ls.getD k false=false
 |[],acc,a7,k,hk=>a7 k hk
 | i::r,acc,a7,k,hk=>by
   rw[x5]at hk;revert hk;generalize aow:(match l[i]? with |some o=>(bif (eD i dU&& !eD i eb)||(kC o).any (λd=>eD d acc)then i::acc else acc)|none=>acc)=asi;intro hk;refine Wn he hd (λj aC=>?_) k hk;rw[<-aow]at aC;cases aU:l[i]? with
   |none=>rw[aU]at aC;exact a7 j aC
   | some o=>
     rw[aU]at aC
     simp only at aC
     cases ak:(eD i dU&& !eD i eb)||(kC o).any (λd=>eD d acc)with
     |false=>rw[ak]at aC;exact a7 j aC
     | true=>
       rw[ak]at aC
       rcases dO.1 aC with rfl|aC
       ·rcases Bool.or_eq_true_iff.1 ak with h|h
        ·simp only[gq,vh]at h
         rw[he j (mH.1 h.1),h.2]
        obtain⟨d,Du,aqz⟩:=oQ.1 h
        cases yl:ls.getD j false with
        |false=>rfl
        |true=>have:=hd j o aU yl d Du;rw[a7 d (mH.1 aqz)]at this;cases this
       exact a7 j aC
def Mn(l:aa Oper)(qY:Nat)(dU eb oK nl el:aa Nat)(ks:aa (Nat×Nat))(es:aa Nat):Bool:=
 (List.range l.length).all (λi=>match l[i]? with
  |none=>false
  | some o=>(kC o).all (λd=>Nat.blt d i)&&(bif eD i dU then eD i eb||eD i el||(kC o).any (λd=>eD d (x5 l dU eb (List.range l.length) []))
    else eD i oK||(kC o).any (λd=>eD d (x5 l dU eb (List.range l.length) []))||(eD i nl&&ks.any λx=>Nat.beq x.1 i&&(match o.dst with |some t=>Nat.beq t x.2|none=>false))))&&
 Hz l eb oK&&dU.all (λi=>Nat.blt i l.length)&&eb.all (λi=>eD i dU)&&ks.all (λx=>Nat.blt x.1 l.length)&&decide (ks.map (·.2)).Nodup&&(ks.map (·.1)).all (λi=> !eD i dU)&&ks.all (λx=>Nat.blt x.2 qY&& !eD x.2 es)&&decide (ks.map (·.1)).Nodup
def Pb{t:Nat}:∀{E:aa (Nat×J)},eD t (E.map (·.1))=false->look E t=none
 |[],_=>rfl
 | x::r,h=>by
   simp only[mb,eD]at h;cases hb:Nat.beq x.1 t with
   |true=>rw[hb]at h;cases h
   |false=>rw[hb]at h;simp only[look,hb,cond_false];exact Pb h
def Wo{i:Nat}{τ:J}:∀{fs:aa (Nat×Nat×J)},Av i fs=some τ->∃t,(i,t,τ)∈fs
 | x::r,h=>by
   unfold Av at h;cases hb:Nat.beq x.1 i with
   | true=>
     rw[hb]at h
     have e:x.2.2=τ:=by simpa using h
     have:=eP.1 hb
     subst this e
     exact⟨x.2.1,ln⟩
   |false=>rw[hb]at h;obtain⟨t,bw⟩:=Wo h;exact⟨t,gd _ bw⟩
def bG.C7{E':aa (Nat×J)}{a:Act}{W:bf}(s:bG c E L a W)(h:∀t τ,look E' t=some τ->look E t=some τ):bG c E' L a W:=s.less λt τ ao=>⟨τ,h t τ ao,λ_ _ _ h=>h⟩
def gI.core{qY:Nat}{dU eb:aa Nat}{fs:aa (Nat×Nat×J)}{ks:aa (Nat×Nat)}{es:aa Nat}(oK nl el:aa Nat)(av:yE c l E L fs nl)(aM:yF c l Q dU eb fs E L el)
 (qF:(∀k∈dU,k∈eb)->ar c Q .normal (l7 (λ_=>true) E fs) L) (gw:fs.map (λx=>(x.1,x.2.1))=ks) (jK:E.map (·.1)=es) (HA:c.n=qY) (dE:Mn l qY dU eb oK nl el ks es=true):gI c l Q dU eb fs E L:=by
 subst gw jK HA
 simp only[Mn,gq,kH,fM,xd]at dE
 obtain⟨⟨⟨⟨⟨⟨⟨⟨ml,Sm⟩,u0⟩,Sn⟩,mS⟩,ij⟩,cX⟩,pf⟩,Dq⟩:=dE
 have ok:tG fs E:=⟨by simpa[Dy,Function.comp_def]using ij,λt bw=>by
  obtain⟨x,al,rfl⟩:=gY.1 bw;have:=pf (x.1,x.2.1) (gY.2 ⟨x,al,rfl⟩);exact Pb (by simpa using this.2)⟩
 have Dq:(fs.map (·.1)).Nodup:=by simpa[Function.comp_def]using Dq
 have pU:∀i,i<l.length->∃o,l[i]? =some o∧(∀d∈kC o,d<i)∧((bif eD i dU then eD i eb||eD i el||(kC o).any (λd=>eD d (x5 l dU eb (List.range l.length) []))
  else eD i oK||(kC o).any (λd=>eD d (x5 l dU eb (List.range l.length) []))||(eD i nl&&(fs.map λx=>(x.1,x.2.1)).any λx=>Nat.beq x.1 i&&(match o.dst with |some t=>Nat.beq t x.2|none=>false)))=true):=λi ax=>by
  have h:=ml i (lq.2 ax)
  cases aU:l[i]? with
  |none=>rw[aU]at h;cases h
  | some o=>
    rw[aU]at h
    simp only[gq,kH]at h
    exact⟨o,rfl,λd hd=>by simpa using h.1 d hd,h.2⟩
 have e9:∀(ls:Array Bool),Be l dU eb ls->∀(o:Oper),(∀d∈kC o,ls.getD d false=true)->(kC o).any (λd=>eD d (x5 l dU eb (List.range l.length) []))=false:=λls inv o hd=>by
  rw[w7];intro d Du h;have:=Wn inv.eq inv.vc (by simp) d (mH.1 h);rw[hd d Du]at this;cases this
 have b9:∀(ls:Array Bool),Be l dU eb ls->∀i,ls.getD i false=true->i<l.length:=λls inv i h=>by
  rw[<-inv.size];rcases sN i ls.size with cT|cT
  ·exact cT
  simp[TC cT]at h
 have s9:∀(ls:Array Bool) (a:Act) (W:bf),Be l dU eb ls->(∀i,i<l.length->ls.getD i false=true)->bG c (l7 (λi=>ls.getD i false) E fs) L a W->Region.ready .any l.toArray ls=[]∧Q .normal a W:=λls a W inv h st=>by
  refine⟨?_,qF (λk hk=>?_) a W (st.C7 λt τ ao=>(nr ok).2 (((nr ok).1 ao).imp (λ⟨i,_,ad⟩=>⟨i,?_,ad⟩) id))⟩
  ·rw[List.eq_nil_iff_forall_not_mem];intro j aC;obtain⟨h1,o,aU,_⟩:=rP.1 aC;have wu:j<l.length:=by simpa using (q4.1 aU).1
   have:=getD_both h1;rw[h j wu]at this;cases this
  ·have:=inv.eq k hk;rw[h k (by simpa using u0 k hk)]at this;exact mH.1 this.symm
  have:=mS (i,t) (gY.2 ⟨_,ad,rfl⟩);exact h i (by simpa using this)
 have Ge:∀(ls:Array Bool),Be l dU eb ls->(∀i,i<l.length->ls.getD i false=true)∨∃i,i<l.length∧ls.getD i false=false:=λls inv=>by
  by_cases h:∃i,i<l.length∧ls.getD i false=false
  ·exact .inr h
  refine .inl λi ax=>?_;cases ao:ls.getD i false with
  |true=>rfl
  |false=>exact absurd ⟨i,ax,ao⟩ h
 refine⟨⟨ok,λx al=>?_⟩,λm=>?_⟩
 ·have:=cX x.1 (gY.2 ⟨x,al,rfl⟩)
  simpa using this
 induction m with
 | zero=>
   intro ls a W inv hm st
   rcases Ge ls inv with h|⟨i,ax,h⟩
   ·exact s9 ls a W inv h st
   have:i∈(List.range l.length).filter λj=> !ls.getD j false:=sI.2 ⟨lq.2 ax,by rw[h];rfl⟩
   unfold yv at hm
   rw[DU.1 (N0.1 hm)]at this;cases this
 | succ m bJ=>
   intro ls a W inv hm st
   refine⟨λbu=>?_,λi ax=>?_⟩
   ·rcases Ge ls inv with h|⟨i,ax,h⟩
    ·exact(s9 ls a W inv h st).2
    exfalso
    have key:∀d i,i<=d->i<l.length->ls.getD i false=true:=by
     intro d;induction d with
     | zero=>
       intro i AO ax
       cases ao:ls.getD i false with
       |true=>rfl
       | false=>
         obtain⟨o,aU,hd,_⟩:=pU i ax
         have:i∈Region.ready .any l.toArray ls:=rP.2 ⟨getD_in (by rw[inv.size];exact ax) ao,o,by simpa using aU,λe he hb=>by
          have:=hd e.on (FN.2 ⟨e,by simpa using he,hb,rfl⟩);omega⟩
         rw[bu]at this;cases this
     | succ d Se=>
       intro i AO ax
       cases ao:ls.getD i false with
       |true=>rfl
       | false=>
         obtain⟨o,aU,hd,_⟩:=pU i ax
         have:i∈Region.ready .any l.toArray ls:=rP.2 ⟨getD_in (by rw[inv.size];exact ax) ao,o,by simpa using aU,λe he hb=>by
          have h1:=hd e.on (FN.2 ⟨e,by simpa using he,hb,rfl⟩);exact Se e.on (by omega) (by omega)⟩
         rw[bu]at this;cases this
    rw[key i i (iu _) ax]at h;cases h
   obtain⟨j6,o,aU,uk⟩:=rP.1 ax
   have j6:=getD_both j6
   have oB:l[i]? =some o:=by simpa using aU
   have wE:i<l.length:=(fL.1 oB).1
   have qM:∀d∈kC o,ls.getD d false=true:=λd hd=>by
    obtain⟨e,h1,ad,rfl⟩:=FN.1 hd;exact uk e (by simpa using h1) ad
   have hF:∀j,(ls.setIfInBounds i true).getD j false=true->ls.getD j false=true∨j=i:=λj aC=>by
    by_cases e:i=j
    ·exact .inr e.symm
    rw[getD_set_ne false e]at aC;exact .inl aC
   have o9:yv l (ls.setIfInBounds i true)<=m:=by
    have:yv l (ls.setIfInBounds i true)<yv l ls:=by
     refine Qb (λj=> !ls.getD j false) (λj=> !(ls.setIfInBounds i true).getD j false) i (by simp only[j6];rfl) (by simp[inv.size,wE]) (λj aC=>?_) l.length wE;cases yl:ls.getD j false with
     |false=>rfl
     |true=>simp only[getD_set_true yl]at aC;cases aC
    omega
   obtain⟨cc,eS,_,CL⟩:=pU i wE
   rw[oB]at eS;cases eS
   cases dX:eD i dU with
   | true=>
     rw[dX]at CL
     simp only[cond_true,oq]at CL
     rcases CL with(h1|h1)|h1
     ·have:=inv.eq i (mH.1 dX)
      rw[j6,h1]at this;cases this
     ·exact OG aU (yF.get aM (mH.1 h1) ok m ls o oB inv j6 qM o9 a W st)
     rw[e9 ls inv o qM]at h1;cases h1
   | false=>
     rw[dX]at CL
     simp only[cond_false,oq]at CL
     rcases CL with(h1|h1)|h1
     ·have:=OV inv.vc Sm (λk hk=>by rw[inv.eq k (mH.1 (Sn k hk))];exact mH.2 hk) i (mH.1 h1)
      rw[j6]at this;cases this
     ·rw[e9 ls inv o qM]at h1;cases h1
     simp only[gq,oQ]at h1
     obtain⟨h1,⟨x,al,h0,nI⟩⟩:=h1
     obtain⟨y,hy,rfl⟩:=gY.1 al
     obtain⟨gW,τ,rv,aY,hH⟩:=yE.get av (mH.1 h1)
     rw[oB]at rv;cases rv
     obtain⟨t,bw⟩:=Wo aY
     have aqA:=eP.1 h0
     have:=KO Dq hy bw aqA
     subst this
     have C0:o.dst=some t:=by
      cases hd:o.dst with
      |none=>rw[hd]at nI;cases nI
      |some z=>rw[hd]at nI;rw[eP.1 nI]
     have aI:Nat.blt t c.n=true:=by
      have:=pf (i,t) al;simp only[gq]at this;exact this.1
     have st2:bG c (l7 (λj=>eD j (kC o)) E fs) L a W:=st.C7 λu σ h=>Q3 (λj aC=>qM j (mH.1 aC)) ok h
     have inv2:Be l dU eb (ls.setIfInBounds i true):=⟨by rw[MQ];exact inv.size,λk hk=>(by
      rw[getD_set_ne false (λe=>by subst e;rw[mH.2 hk]at dX;cases dX)];exact inv.eq k hk),λk aqB hJ hk d hd=>(by
      rcases hF k hk with h|rfl
      ·exact getD_set_true (inv.vc k aqB hJ h d hd)
      rw[oB]at hJ;cases hJ;exact getD_set_true (qM d hd))⟩
     have fin:∀v W',Fr [] W W'->τ.holds (ks L++c.bP) W' v->wpAnyIn c.F 9 c.P .any l.toArray Q m (ls.setIfInBounds i true) (a.put o.dst v) W':=λv W' f ba=>by
      refine bJ _ _ _ inv2 o9 ?_;rw[C0];exact((st.world f).put (by simpa using aI) ba).C7 λu σ h=>ahc hF ok bw Dq h
     have L7:=hH a W st2
     unfold wpOpIn
     simp only[aU]
     split
     ·rename_i hw
      exact gJ.wpIn (L7.1 hw) λv W' ⟨f,ba⟩=>fin v W' f ba
     rename_i hw
     exact⟨λ_ _=>trivial,fin undef W (.refl _ _) (L7.2 (by simpa using hw))⟩
def h2.of{dU eb:aa Nat}{fs:aa (Nat×Nat×J)}{k:Nat}{γ:Type}(tU:γ->aa (Nat×J))(ab2:γ->aa (Nat×Nat×J))(L':γ->aa aE){ks:aa Nat}(S:∀g,gI c l Q dU (k::eb) (ab2 g++fs) (tU g++E) (L' g))
 (h:∀o,l[k]? =some o->∀(ef:Exit->Act->bf->Prop) (iR:aa (Nat×J)),(∀{t τ},look (l7 (λj=>eD j (kC o)) E fs) t=some τ->look iR t=some τ)->(∀g,ar c ef .normal (tU g++iR) (L' g))->ae c l.toArray ef [o] iR L)
 (hk:eD k dU=true:=by rfl) (gw:∀g,(ab2 g).map (·.1)=ks:=by exact λ_=>rfl) (dE:Dz l [k] ks=true:=by kernel_rfl):h2 c l Q dU eb fs E L k:=λok m ls o aU inv j6 qM o9=>by
 refine h o aU _ _ (λh=>Q3 (λj aC=>qM j (mH.1 aC)) ok h) λg a W st=>?_
 obtain⟨⟨HB,Sp⟩,rD⟩:=S g
 have mS:k<ls.size:=by rw[inv.size];exact(fL.1 aU).1
 have hF:∀j,(ls.setIfInBounds k true).getD j false=true->ls.getD j false=true∨j=k:=λj aC=>by
  by_cases e:k=j
  ·exact .inr e.symm
  rw[getD_set_ne false e]at aC;exact .inl aC
 refine rD m _ a W ⟨by rw[MQ];exact inv.size,λj aC=>?_,λj po la aC d hd=>?_⟩ o9 (st.C7 λt τ ao=>ajp HB.app ((nr HB.app).2 (((nr HB).1 ao).imp (λ⟨i,h1,ad⟩=>?_) id)))
 ·by_cases e:k=j
  ·subst e
   simp[mS,eD]
  rw[getD_set_ne false e,inv.eq j aC]
  show _=bif Nat.beq k j then true else eD j eb
  cases hb:Nat.beq k j with
  |false=>rfl
  |true=>exact absurd (eP.1 hb) e
 ·rcases hF j aC with h|rfl
  ·exact getD_set_true (inv.vc j po la h d hd)
  rw[aU]at la;cases la;exact getD_set_true (qM d hd)
 have nD:i≠k:=λe=>by have:=Sp _ ad;rw[e,hk]at this;cases this
 have yt:=(hF i h1).resolve_right nD
 rcases ca.1 ad with ay|ay
 ·have:=Ko inv.vc dE (λj aC=>by rw[gX.1 aC];exact j6) i (by rw[<-gw g];exact gY.2 ⟨_,ay,rfl⟩)
  rw[yt]at this;cases this
 exact⟨i,yt,ay⟩
inductive tV(fs:List (Nat×Nat×J))(ks:List Nat):List (Nat×Nat×J)->Prop
 |nil:tV fs ks []
 |new {i t:Nat} {τ:J} {r:List (Nat×Nat×J)}:eD i ks=true->tV fs ks r->tV fs ks ((i,t,τ)::r)
 |er {i t:Nat} {τ:J} {r:List (Nat×Nat×J)}:LI i fs=some (t,τ)->tV fs ks r->tV fs ks ((i,t,τ)::r)
def Wp{i t:Nat}{τ:J}:∀{fs:aa (Nat×Nat×J)},LI i fs=some (t,τ)->(i,t,τ)∈fs
 | x::r,h=>by
   unfold LI at h;cases hb:Nat.beq x.1 i with
   | true=>
     rw[hb]at h
     have e:x.2=(t,τ):=by simpa using h
     have:=eP.1 hb
     subst this
     rw[<-e];exact ln
   |false=>rw[hb]at h;exact gd _ (Wp h)
def tV.mem{fs:aa (Nat×Nat×J)}{ks:aa Nat}{i t:Nat}{τ:J}:∀{gs:aa (Nat×Nat×J)},tV fs ks gs->(i,t,τ)∈gs->i∈ks∨(i,t,τ)∈fs
 | _,.new h1 ad,hm=>by
   rcases dO.1 hm with e|hm
   ·cases e;exact .inl (mH.1 h1)
   exact ad.mem hm
 | _,.er h1 ad,hm=>by
   rcases dO.1 hm with e|hm
   ·cases e;exact .inr (Wp h1)
   exact ad.mem hm
def h2.to{dU eb Sq:aa Nat}{fs:aa (Nat×Nat×J)}{k:Nat}{γ:Type}{Sr:γ->aa (Nat×Nat×J)}{iR:γ->aa (Nat×J)}{L2:γ->aa aE}(ks:aa Nat)(tU:γ->aa (Nat×J))(S:∀g,gI c l Q dU Sq (Sr g) (iR g) (L2 g))
 (h:∀o,l[k]? =some o->∀(ef:Exit->Act->bf->Prop) (Tc:aa (Nat×J)),(∀{t τ},look (l7 (λj=>eD j (kC o)) E fs) t=some τ->look Tc t=some τ)->(∀g,ar c ef .normal (tU g++Tc) (L2 g))->ae c l.toArray ef [o] Tc L)
 (hk:eD k dU=true:=by rfl) (Sn:(dU.all λi=>eD i Sq==eD i (k::eb))=true:=by rfl) (lO:∀g,tV fs ks (Sr g):=by intro _;repeat (first|exact tV.nil|refine tV.er I ?_|refine tV.new I ?_)) (aM:∀g,eN (tU g++E) (iR g):=by intro _;repeat (first|exact eN.nil|refine eN.same I ?_))
 (hd:∀g,((Sr g).all λx=> !eD x.2.1 ((tU g).map (·.1)))=true:=by exact λ_=>rfl) (dE:Dz l [k] ks=true:=by kernel_rfl):h2 c l Q dU eb fs E L k:=λok m ls o aU inv j6 qM o9=>by
 refine h o aU _ _ (λh=>Q3 (λj aC=>qM j (mH.1 aC)) ok h) λg a W st=>?_
 obtain⟨⟨HB,Sp⟩,rD⟩:=S g
 have mS:k<ls.size:=by rw[inv.size];exact(fL.1 aU).1
 have hF:∀j,(ls.setIfInBounds k true).getD j false=true->ls.getD j false=true∨j=k:=λj aC=>by
  by_cases e:k=j
  ·exact .inr e.symm
  rw[getD_set_ne false e]at aC;exact .inl aC
 refine rD m _ a W ⟨by rw[MQ];exact inv.size,λj aC=>?_,λj po la aC d hd=>?_⟩ o9 (st.less λt τ ao=>?_)
 ·have ad:eD j Sq=eD j (k::eb):=by simpa using List.all_eq_true.1 Sn j aC
  rw[ad]
  by_cases e:k=j
  ·subst e
   simp[mS,eD]
  rw[getD_set_ne false e,inv.eq j aC]
  show _=bif Nat.beq k j then true else eD j eb
  cases hb:Nat.beq k j with
  |false=>rfl
  |true=>exact absurd (eP.1 hb) e
 ·rcases hF j aC with h|rfl
  ·exact getD_set_true (inv.vc j po la h d hd)
  rw[aU]at la;cases la;exact getD_set_true (qM d hd)
 rcases (nr HB).1 ao with⟨i,h1,ad⟩|ad
 ·have nD:i≠k:=λe=>by have:=Sp _ ad;rw[e,hk]at this;cases this
  have yt:=(hF i h1).resolve_right nD
  have Mo:look (tU g) t=none:=Pb (by simpa using List.all_eq_true.1 (hd g) _ ad)
  refine⟨τ,?_,λ_ _ _ h=>h⟩
  rw[Ch,Mo]
  rcases (lO g).mem ad with ay|ay
  ·have:=Ko inv.vc dE (λj aC=>by rw[gX.1 aC];exact j6) i ay
   rw[yt]at this;cases this
  exact(nr ok).2 (.inl ⟨i,yt,ay⟩)
 obtain⟨tu,ay,aR⟩:=(aM g).look t τ ad
 refine⟨tu,?_,aR⟩
 rw[Ch]at ay⊢
 cases aI:look (tU g) t with
 |some σ=>rw[aI]at ay;exact ay
 |none=>rw[aI]at ay;exact(nr ok).2 (.inr ay)
def gI.cut{γ:Type}{dU eb pe':aa Nat}{fs:aa (Nat×Nat×J)}(abr:γ->aa (Nat×Nat×J))(E':γ->aa (Nat×J))(L':γ->aa aE)(h1:∀g,gI c l Q dU pe' (abr g) (E' g) (L' g))
 (ad:(∀g,gI c l Q dU pe' (abr g) (E' g) (L' g))->gI c l Q dU eb fs E L):gI c l Q dU eb fs E L:=ad h1
def gI.mid{qY:Nat}{dU eb:aa Nat}{fs:aa (Nat×Nat×J)}{ks:aa (Nat×Nat)}{es:aa Nat}(oK nl el:aa Nat)(av:yE c l E L fs nl)(aM:yF c l Q dU eb fs E L el)(aI:dU.all (λk=>eD k eb)=false:=by rfl)
 (gw:fs.map (λx=>(x.1,x.2.1))=ks:=by rfl) (jK:E.map (·.1)=es:=by rfl) (HA:c.n=qY:=by rfl) (dE:Mn l qY dU eb oK nl el ks es=true:=by kernel_rfl):gI c l Q dU eb fs E L:=
 .core oK nl el av aM (λh=>absurd (show dU.all (λk=>eD k eb)=true from kH.2 λk hk=>mH.2 (h k hk)) (by rw[aI];simp)) gw jK HA dE
def az.AH{jh:Nat}(hm:c.P.follows .mixedOrders=true)(dU:aa Nat)(fs:aa (Nat×Nat×J))(h:gI c l Q dU [] fs E L):az c Q (.region jh l.toArray true) E L:=λa W s=>by
 refine wpIn_region_any hm ?_;have cy:∀i,(Array.replicate l.toArray.size false).getD i false=false:=λi=>by
  rcases sN i l.length with h|h <;> simp[h]
 have:=h.2 l.toArray.size (Array.replicate l.toArray.size false) a W.drew ⟨by simp,λi _=>cy i,λi o _ h=>by rw[cy]at h;cases h⟩ ?_ ((s.world (Fr.drew W)).C7 λt τ ao=>?_)
 ·simpa using this
 ·unfold yv;exact pv (Bo _ _) (by simp)
 rcases (nr h.1.1).1 ao with⟨i,h1,_⟩|h1
 ·rw[cy]at h1;cases h1
 exact h1
def agt{F:Fence}{n:Nat}{P:Program}{o:Oper}{a:Act}{next:Act->bf->Prop}{K:Act->bf->Prop}{Q:Exit->Act->bf->Prop}:∀{r:Result Next},o.uponIn F n P a next Q r->o.uponIn F n P a next (pr K Q) r:=λ{r} h=>by
 cases r with
 | ok x w=>
   cases x <;> simp only[Oper.uponIn]at h⊢ <;> first
    |exact h
    |exact⟨h.1,CallsIn.mono h.2 (λe uU he=>by cases e <;> exact he)⟩
    |exact⟨h.1,RoundIn.mono h.2 (λe uU he=>by cases e <;> exact he)⟩
 |halt x w=>cases x <;> simp only[Oper.uponIn]at h⊢ <;> exact h
def ajq{F:Fence}{n:Nat}{P:Program}{ops:Array Oper}{Q:Exit->Act->bf->Prop}{o:Oper}{rest:aa Oper}{a:Act}{w:bf}{K:Act->bf->Prop}(qX:∀a w,wpListIn F n P ops Q rest a w->K a w)(h:wpListIn F n P ops Q (o::rest) a w):wpListIn F n P ops (pr K Q) [o] a w:=by
 unfold wpListIn at h⊢;split
 ·rename_i hw;rw[br hw]at h;have h:=Oper.wpIn_mono qX h;exact⟨h.1,agt h.2⟩
 rename_i hw;rw[bn hw]at h;exact⟨h.1,qX _ _ h.2⟩
def Ve{F:Fence}{n:Nat}{P:Program}{md:Region.Mode}{ops:Array Oper}{tK:Exit->Act->bf->Prop}:∀(l:aa Oper) (k m:Nat) (bI:Array Bool) (a:Act) (w:bf),(∀j,l[j]? =ops[k+j]?)->
 Region.seqB md ops l.length k bI=true->l.length<=m->wpListIn F n P ops tK l a w->wpAnyIn F n P md ops tK m bI a w
 |[],_,0,_,_,_,_,dE,_,h=>⟨by simpa[Region.seqB]using dE,h⟩
 |[],_,m+1,_,_,_,_,dE,_,h=>⟨λ_=>h,λi ax=>by rw[show Region.ready md ops _=[] by simpa[Region.seqB]using dE]at ax;cases ax⟩
 | o::l,k,m+1,bI,a,w,ao,dE,hm,h=>by
   have bu:ops[k]? =some o:=by simpa using (ao 0).symm
   simp only[List.length_cons,Region.seqB,gq,fM]at dE;refine⟨λh1=>(by rw[dE.1]at h1;cases h1),λi ax=>?_⟩;rw[dE.1]at ax;have nD:i=k:=by simpa using ax
   subst nD;have hw:wpOpIn F n P ops tK i (wpListIn F n P ops tK l) a w:=by unfold wpOpIn;simp only[bu];exact h
   exact wpOpIn_mono (λhL pk cT=>Ve l (i+1) m _ hL pk (λj=>by have:=ao (j+1);simpa[I5,NR 1 j]using this) dE.2 (by simpa using hm) cT) hw
def yw(k n:Nat):Array Bool:=((List.range n).map λi=>Nat.blt i k).toArray
def h2.tail{dU eb:aa Nat}{fs:aa (Nat×Nat×J)}{k:Nat}(oK:aa Nat)(h:ae c l.toArray Q (l.drop k) (l7 (λ_=>true) E fs) L)(aqC:(fs.all λx=>Nat.blt x.1 k)=true:=by rfl)
 (dE:(Hz l [k] oK&&(List.range k).all (λi=>eD i oK)&&Dz l [k] ((List.range (l.length-(k+1))).map (· +(k+1))))=true:=by kernel_rfl) (hs:Region.seqB .any l.toArray (l.length-(k+1)) (k+1) (yw (k+1) l.length)=true:=by kernel_rfl):h2 c l Q dU eb fs E L k:=λok m ls o aU inv j6 qM o9=>by
 simp only[gq,kH]at dE
 obtain⟨⟨Sm,ml⟩,aqD⟩:=dE
 have mS:k<l.length:=(fL.1 aU).1
 have aqE:∀i o',l[i]? =some o'->(ls.setIfInBounds k true).getD i false=true->∀d∈kC o',(ls.setIfInBounds k true).getD d false=true:=λi o' ax aC d hd=>by
  by_cases e:k=i
  ·subst e;rw[aU]at ax;cases ax;exact getD_set_true (qM d hd)
  rw[getD_set_ne false e]at aC;exact getD_set_true (inv.vc i o' ax aC d hd)
 have x6:∀i,i<k->(ls.setIfInBounds k true).getD i false=true:=λi ax=>OV aqE Sm (λj aC=>by rw[gX.1 aC];simp[inv.size,mS]) i (mH.1 (ml i (lq.2 ax)))
 have hF:ls.setIfInBounds k true=yw (k+1) l.length:=by
  apply Array.ext
  ·simp[yw,inv.size]
  intro i h1 ad;have wE:i<l.length:=by simpa[yw]using ad
  have bF:(ls.setIfInBounds k true)[i]=(ls.setIfInBounds k true).getD i false:=by
   rw[Tq,Ij h1];rfl
  rw[bF];simp only[yw,List.getElem_toArray,Es,Nh];rcases Nat.lt_trichotomy i k with b9|rfl|aqF
  ·rw[x6 i b9];exact(TL (by omega:i+1<=k+1)).symm
  ·have:Nat.blt i (i+1)=true:=TL (iu _);rw[this];simp[inv.size,wE]
  rw[getD_set_ne false (NS aqF),Ko inv.vc aqD (λj aC=>by rw[gX.1 aC];exact j6) i (gY.2 ⟨i-(k+1),lq.2 (by omega),by omega⟩)];cases hb:Nat.blt i (k+1)with
  |false=>rfl
  |true=>have:=oO hb;omega
 have alW:(l.drop (k+1)).length<=m:=by
  refine pv ?_ o9;rw[hF];unfold yv;have aD:List.range l.length=List.range (k+1)++(List.range (l.length-(k+1))).map ((k+1)+ ·):=by
   rw[<-List.range_add];congr 1;omega
  have aY:((List.range (l.length-(k+1))).map ((k+1)+ ·)).filter (λj=> !(yw (k+1) l.length).getD j false)=(List.range (l.length-(k+1))).map ((k+1)+ ·):=by
   refine y4.2 λx al=>?_;obtain⟨y,hy,rfl⟩:=gY.1 al;have hy:=lq.1 hy;rw[Tq,Ij (by simp[yw];omega)];simp only[yw,List.getElem_toArray,Es,Nh,Option.getD_some];cases hb:Nat.blt (k+1+y) (k+1)with
   |false=>rfl
   |true=>have:=oO hb;omega
  rw[aD,vg,fh,aY];simp
 have hd:l.drop k=o::l.drop (k+1):=by rw[vf mS];congr 1;exact(fL.1 aU).2
 rw[hd]at h
 intro a W st
 refine ajq (λhL W' cT=>?_) (show c.tt l.toArray Q (o::l.drop (k+1)) a W from h a W (st.C7 λt τ ao=>(nr ok).2 (((nr ok).1 ao).imp (λ⟨i,_,ad⟩=>⟨i,?_,ad⟩) id)))
 ·rw[hF]
  exact Ve (l.drop (k+1)) (k+1) m _ hL W' (λj=>by simp) (by simpa using hs) alW cT
 have nD:i<k:=by have:=kH.1 aqC _ ad;exact oO this
 have:=x6 i nD
 rw[getD_set_ne false (by omega)]at this
 exact this
end
class b3 (P:Program) (s f:Nat) {β γ:outParam Type} [Bf:ah β] [H3:ah γ] (l:outParam (aN β γ)):Prop where
 fd:wx P s f l.off
class hM (P:Program) (t:bx) (e:outParam bx) (α:outParam Type) [H4:ah α]:Prop where
 hu:P.underlying t=some (.slice e)
 ez:bK P e α
class DJ (P:Program) (t:bx) (α:Type) [ah α] [DecidableEq α] (k:outParam Nat):Prop where
 vb:mT P t α k
 ab3:P.eqGuardType P.depth t=false
 aI:Nat.ble k 10000=true
class oj (P:Program) (t:bx) (d:outParam TypeDesc):Prop where
 hu:P.underlying t=some d
class as8 (P:Program) (s f:Nat) (t:outParam Nat) {β γ:outParam Type} [Bf:ah β] [H3:ah γ] (l:outParam (aN β γ)):Prop where
 abR:SY P s f t l.off
class gx (P:Program) (f:FuncId) (α ρ:outParam Type) (L:outParam (α->aw ρ)) (τ:outParam (α->J)) (lP:outParam (ρ->J)):Prop where
 cf:bD P f
 m:∀x r,L x=some r->cm P f [τ x] (lP r)
class ea (P:Program) (f:FuncId) (α β ρ:outParam Type) (L:outParam (α->β->aw ρ)) (τ:outParam (α->J)) (σ:outParam (β->J)) (lP:outParam (ρ->J)):Prop where
 cf:bD P f
 m:∀x y r,L x y=some r->cm P f [τ x,σ y] (lP r)
class nL (P:Program) (f:FuncId) (α β γ ρ:outParam Type) (L:outParam (α->β->γ->aw ρ)) (τ:outParam (α->J)) (σ:outParam (β->J)) (Bg:outParam (γ->J)) (lP:outParam (ρ->J)):Prop where
 cf:bD P f
 m:∀x y z r,L x y z=some r->cm P f [τ x,σ y,Bg z] (lP r)
theorem gx.i{P:Program}{f:FuncId}{α ρ:Type}{L:α->aw ρ}{τ:α->J}{lP:ρ->J}{fn:Func}{code:Code}{n:Nat}(aY:P.funcs[f]? =some fn)(hb:fn.body=some code)(aI:fn.ntmps=n)(ao:Nat.ble 1 n=true)
 (h:∀ x r,L x=some r→ ∀ W A,az ⟨P,n,W,[],A,none,[]⟩ (bodyPost P fn (uL ⟨P,n,W,[],A,none,[]⟩ (lP r))) code (params 0 [τ x]) []) (hm:(fn.name== "runtime.NumGoroutine")=false:=by kernel_rfl):gx P f α ρ L τ lP:=
 ⟨⟨fn,aY,by rw[hb];rfl,hm⟩,λx r e=>.of aY hb aI ao (h x r e)⟩
theorem ea.i{P:Program}{f:FuncId}{α β ρ:Type}{L:α->β->aw ρ}{τ:α->J}{σ:β->J}{lP:ρ->J}{fn:Func}{code:Code}{n:Nat}(aY:P.funcs[f]? =some fn)(hb:fn.body=some code)(aI:fn.ntmps=n)(ao:Nat.ble 2 n=true)
 (h:∀ x y r,L x y=some r→ ∀ W A,az ⟨P,n,W,[],A,none,[]⟩ (bodyPost P fn (uL ⟨P,n,W,[],A,none,[]⟩ (lP r))) code (params 0 [τ x,σ y]) []) (hm:(fn.name== "runtime.NumGoroutine")=false:=by kernel_rfl):ea P f α β ρ L τ σ lP:=
 ⟨⟨fn,aY,by rw[hb];rfl,hm⟩,λx y r e=>.of aY hb aI ao (h x y r e)⟩
theorem nL.i{P:Program}{f:FuncId}{α β γ ρ:Type}{L:α->β->γ->aw ρ}{τ:α->J}{σ:β->J}{Bg:γ->J}{lP:ρ->J}{fn:Func}{code:Code}{n:Nat}(aY:P.funcs[f]? =some fn)(hb:fn.body=some code)(aI:fn.ntmps=n)(ao:Nat.ble 3 n=true)
 (h:∀ x y z r,L x y z=some r→ ∀ W A,az ⟨P,n,W,[],A,none,[]⟩ (bodyPost P fn (uL ⟨P,n,W,[],A,none,[]⟩ (lP r))) code (params 0 [τ x,σ y,Bg z]) []) (hm:(fn.name== "runtime.NumGoroutine")=false:=by kernel_rfl):nL P f α β γ ρ L τ σ Bg lP:=
 ⟨⟨fn,aY,by rw[hb];rfl,hm⟩,λx y z r e=>.of aY hb aI ao (h x y z r e)⟩
section
variable(P:Program)(f:FuncId)(τs:aa J){bC:Type}[dN bC](hp:aH bC)
abbrev iG(ρ:J)(cN:aH bC):Prop:=bR P f τs ([]++a6 hp) (δ:=Unit) (λ_=>ρ) (λ_=>[]++a6 cN)
abbrev lJ{α:Type}[ah α](Q:α×aH bC->Prop):Prop:=bR P f τs ([]++a6 hp) (δ:= {r:α×aH bC // Q r}×Unit) (λd=>J.of d.1.1.1) (λd=>[]++a6 d.1.1.2)
abbrev AL(Q:aH bC->Prop):Prop:=bR P f τs ([]++a6 hp) (δ:= {r:aH bC // Q r}×Unit) (λ_=>J.bY []) (λd=>[]++a6 d.1.1)
abbrev yA(p:Nat){α:Type}[ah α](x:α)(ρ:J)(y:α):Prop:=bR P f τs [a8 p x] (δ:=Unit) (λ_=>ρ) (λ_=>[a8 p y])
end
def apU{q:Prop}{u:bl}(hb:q):∀A W v,(J.cond q (.eq u)).holds A W v->v=u:=λ_ _ _ h=>h.1 hb
abbrev J.my(p:Nat){β γ:Type}[ah β][ah γ](l:aN β γ):J:=.eq (.pointer (some ⟨p,l.off,none⟩))
structure oL(p:Prop):Prop where
 k:p
def fo{p q:Prop}(a:p)(b:q):p∧q:=⟨a,b⟩
def kT:True:=trivial
inductive At:List aE->Nat->aE->Prop
 |z {e r}:At (e::r) 0 e
 |s {e f r j}:At r j e->At (f::r) (j+1) e
def At.get:∀{L j e},At L j e->L[j]? =some e
 |_,_,_,.z=>rfl
 |_,_,_,.s h=>by simpa using h.get
def At.g{L:aa aE}{j:Nat}{e:aE}(h:At L j e:=by repeat (first|exact At.z|apply At.s)):L[j]? =some e:=h.get
inductive tW:List aE->aE->aE->List aE->Prop
 |z {e f r}:tW (e::r) e f (f::r)
 |s {e f g r s}:tW r e f s->tW (g::r) e f (g::s)
def tW.get:∀{L e f M},tW L e f M->∃j,L[j]? =some e∧L.set j f=M
 |_,_,_,_,.z=>⟨0,rfl,rfl⟩
 |_,_,_,_,.s h=>let⟨j,h1,ad⟩:=h.get; ⟨j+1,by simpa using h1,by simp[ad]⟩
inductive tX{bC:Type}[dN bC]:List aE->aH bC->Prop
 |z {hp}:tX (a6 hp) hp
 |s {e r hp}:tX r hp->tX (e::r) hp
def tX.get{bC:Type}[dN bC]{L:aa aE}{hp:aH bC}(h:tX L hp):∃n,L.drop n=a6 hp:=by
 induction h with
 |z=>exact⟨0,rfl⟩
 |s _ bJ=>exact⟨bJ.choose+1,bJ.choose_spec⟩
class yG (β:Type) [ah β] {bC:outParam Type} [dN bC] (rd:outParam (aH bC->Nat->aw β)):Prop where
 ok:∀{hp p x},rd hp p=some x->∃k,pat hp p=some k∧dN.gk p k=[⟨some p,.var x⟩]
class Td (P:Program):Prop where
 m:P.follows .mixedOrders=true
section
variable{c:cj}{E:aa (Nat×J)}{L L':aa aE}{ops:Array Oper}{Q:Exit->Act->bf->Prop}{rest:aa Oper}{o:Oper}{d:aw Tmp}{a1:Nat}
variable{ty:bx}{pos:String}{af:Array Edge}{g:aw (Nat×Bool)}{x y:bZ}{t t2:bx}
def fact{p:Prop}(h:p:=by first|with_reducible assumption|(apply fz (hb:=hb);with_reducible assumption)):p:=h
def agu(k:Nat)(h:Nat.blt k 18446744073709551616=true:=by rfl):aP c E L (.const (.int .u64 (Int.ofNat k))) (.of (BitVec.ofNat 64 k)):=vB _ (by simp[Nat.blt]at h⊢;omega)
def e5{σ:J}(h:aP c E L x σ:=by first|exact b1 I hb|exact b1 I hb.1|exact ag I|exact cH _|exact hN _|exact gM _|exact agu _|exact b1 (aM _ _ I) hb|exact b1 (aM _ _ I) hb.1|exact ag (aM _ _ I)):aP c E L x σ:=h
def tT{σ τ:J}(h:aP c E L x σ->bc c E L o τ)(al:aP c E L x σ:=by exact e5):bc c E L o τ:=h al
def Bh{σ qP τ:J}(h:aP c E L x σ->aP c E L y qP->bc c E L o τ)(al:aP c E L x σ:=by exact e5)(hy:aP c E L y qP:=by exact e5):bc c E L o τ:=h al hy
def alX{i:Nat}{τs:aa J}{τ:J}(al:aP c E L x (.bY τs):=by exact e5)(ax:τs[i]? =some τ:=by rfl):bc c E L ⟨d,.extract x i,ty,pos,af,g⟩ τ:=CF al ax
def aox{p j:Nat}{β γ:Type}[ah β][ah γ]{b:β}{l:aN β γ}[k:bK c.P t γ](al:aP c E L x (.my p l):=by exact e5)(av:L[j]? =some ⟨some p,.var b⟩:=by first|exact At.g|exact av _ _ At.g I):bc c E L ⟨d,.load t x,ty,pos,af,g⟩ (.of (l.get b)):=
 gA l k al av I I
def aoy{p j:Nat}{β:Type}[ah β]{b:β}[k:bK c.P t β](al:aP c E L x (.df p):=by exact e5)(av:L[j]? =some ⟨some p,.var b⟩:=by first|exact At.g|exact av _ _ At.g I):bc c E L ⟨d,.load t x,ty,pos,af,g⟩ (.of b):=
 gA (aN.id β) k al av I I
def pm{bC β:Type}[ah β][dN bC]{rd:aH bC->Nat->aw β}{hp:aH bC}{p:Nat}{b:β}[k:yG β rd](hd:tX L hp:=by repeat (first|exact tX.z|apply tX.s))(ak:rd hp p=some b:=by exact fact):(⟨some p,.var b⟩:aE)∈L:=by
 obtain⟨n,h1⟩:=hd.get;obtain⟨q,ad,ay⟩:=k.ok ak;exact jc h1 ad ay
class ab4 (β:Type) [ah β] {bC yH:outParam Type} [dN bC] (rd:outParam (aH bC->Nat->aw yH)) (q:outParam (yH->β)) (os:outParam (yH->aa (Nat×bl))):Prop where
 ok:∀{hp p x},rd hp p=some x->∃k es,pat hp p=some k∧dN.gk p k=⟨some p,.cq (q x) (os x)⟩::es
def rG{bC yH β:Type}[ah β][dN bC]{rd:aH bC->Nat->aw yH}{q:yH->β}{os:yH->aa (Nat×bl)}{hp:aH bC}{p:Nat}{x:yH}[k:ab4 β rd q os](hd:tX L hp:=by repeat (first|exact tX.z|apply tX.s))(ak:rd hp p=some x:=by exact fact):(⟨some p,.cq (q x) (os x)⟩:aE)∈L:=by
 obtain⟨n,h1⟩:=hd.get;obtain⟨_,_,ad,ay⟩:=k.ok ak;exact alV h1 ad ay
def ab5{e:aE}{np:Nat}(cC:L'.drop np=L.drop np)(h:e∈L.drop np):e∈L':=Bs (cC▸h)
def aoz{p:Nat}{β γ:Type}[ah β][ah γ]{b:β}{os:aa (Nat×bl)}{l:aN β γ}[k:bK c.P t γ](al:aP c E L x (.my p l):=by exact e5)(hm:(⟨some p,.cq b os⟩:aE)∈L:=by first|exact ab5 cC rG|exact o8 (λi e q=>av i e q I) rG|exact rG)(a7:uy os l.off (ah.size γ)=true:=by rfl):bc c E L ⟨d,.load t x,ty,pos,af,g⟩ (.of (l.get b)):=
 ahb l k al hm I I a7
def aoA{p:Nat}{β γ:Type}[ah β][ah γ]{b:β}{l:aN β γ}[k:bK c.P t γ](al:aP c E L x (.my p l):=by exact e5)(hm:(⟨some p,.var b⟩:aE)∈L:=by first|exact ab5 cC pm|exact o8 (λi e q=>av i e q I) pm|exact pm):bc c E L ⟨d,.load t x,ty,pos,af,g⟩ (.of (l.get b)):=
 oX l k al hm I I
def aoB{r:Ref}{a:Nat}(al:aP c E L x (.of r):=by exact e5)(aD:r=some a:=by first|with_reducible rfl|exact fact):bc c E L ⟨d,.nilCheck x,ty,pos,af,g⟩ (.df a):=mg (jq al aD)
def aoC{r:Ref}{e:bx}[k:oj c.P t (.pointer e)](al:aP c E L x (.of r):=by exact e5):bc c E L ⟨d,.binOp .eql t x (.const (.pointer none)) t2,ty,pos,af,g⟩ (.of r.isNone):=Cg k.hu al
def aoD{r:Ref}{e:bx}[k:oj c.P t (.pointer e)](al:aP c E L x (.of r):=by exact e5):bc c E L ⟨d,.binOp .neq t x (.const (.pointer none)) t2,ty,pos,af,g⟩ (.of r.isSome):=agr k.hu al
def alY{γ:Type}[ah γ]{r:γ}[k:bK c.P t γ](al:aP c E L x (.ptr r):=by exact e5):bc c E L ⟨d,.load t x,ty,pos,af,g⟩ (.of r):=jE k al
def aoE{s f:Nat}{β γ:Type}[Bf:ah β][H3:ah γ]{b:β}{l:aN β γ}[k:b3 c.P s f l](al:aP c E L x (.ptr b):=by exact e5):bc c E L ⟨d,.fieldAddr s x f,ty,pos,af,g⟩ (.ptr (l.get b)):=vR l k.fd al I I
def aoF{s f p:Nat}{α β γ:Type}[ah α][Bf:ah β][H3:ah γ]{m:aN α β}{l:aN β γ}[k:b3 c.P s f l](al:aP c E L x (.my p m):=by exact e5):bc c E L ⟨d,.fieldAddr s x f,ty,pos,af,g⟩ (.my p (m.comp l)):=cg k.fd al
def aoG{s f p:Nat}{β γ:Type}[Bf:ah β][H3:ah γ]{l:aN β γ}[k:b3 c.P s f l](al:aP c E L x (.df p):=by exact e5):bc c E L ⟨d,.fieldAddr s x f,ty,pos,af,g⟩ (.my p l):=by
 have:=cg (d:=d) (ty:=ty) (pos:=pos) (af:=af) (g:=g) k.fd al;rwa[h7]at this
def aoH{α:Type}[H4:ah α][Inhabited α]{xs:aa α}{e:bx}{i:Int}{j:Nat}[k:hM c.P t e α](al:aP c E L x (.of xs):=by exact e5)(hy:aP c E L y (.of i):=by exact e5)(hk:idx xs.length i=some j:=by exact fact):
 bc c E L ⟨d,.indexAddr t x y,ty,pos,af,g⟩ (.ptr (aB xs j)):=mM k.hu k.ez al hy (cU hk)
def alZ{α:Type}[H4:ah α]{xs:aa α}{e:bx}[k:hM c.P t e α](al:aP c E L x (.of xs):=by exact e5):bc c E L ⟨d,.call ⟨.builtin .len,#[x],#[t]⟩,ty,pos,af,g⟩ (.of (xs.length:Int)):=xP k.hu al
def aoI{b e:Bool}{p:Prop}(al:aP c E L x (.of b):=by exact e5)(hy:aP c E L y (.cond p (.of e)):=by first|exact ag I|exact ag (aM _ _ I))(hp:b=false->p:=by exact λh=>h):bc c E L ⟨d,.pick x (.const (.bool true)) y,ty,pos,af,g⟩ (.of (b||e)):=CU al hy hp
def al0{b e:Bool}{p:Prop}(al:aP c E L x (.of b):=by exact e5)(hy:aP c E L y (.cond p (.of e)):=by first|exact ag I|exact ag (aM _ _ I))(hp:b=true->p:=by exact λh=>h):bc c E L ⟨d,.pick x y (.const (.bool false)),ty,pos,af,g⟩ (.of (b&&e)):=xN al hy hp
def al1{α:Type}[ah α][DecidableEq α]{n:Nat}{a b:α}[k:DJ c.P t α n](al:aP c E L x (.of a):=by exact e5)(hy:aP c E L y (.of b):=by exact e5)(a7:ah.agg α=true:=by rfl):
 bc c E L ⟨d,.binOp .eql t x y t2,ty,pos,af,g⟩ (.of (decide (a=b))):=Yh k.vb k.aI k.ab3 a7 al hy
def al2{α:Type}[ah α][DecidableEq α]{n:Nat}{a b:α}[k:DJ c.P t α n](al:aP c E L x (.of a):=by exact e5)(hy:aP c E L y (.of b):=by exact e5)(a7:ah.agg α=true:=by rfl):
 bc c E L ⟨d,.binOp .neq t x y t2,ty,pos,af,g⟩ (.of (!decide (a=b))):=alI k.vb k.aI k.ab3 a7 al hy
inductive xJ(c:cj)(E:List (Nat×J))(L:List aE)(t:TypeId)(place:Nat->Option (Nat×Nat)){β:Type}[Bf:ah β]:β->List (Nat×Operand)->β->Prop
 |nil {b}:xJ c E L t place b [] b
 |cons {b b':β} {γ:Type} [H3:ah γ] {v:γ} {i:Nat} {x:Operand} {r:List (Nat×Operand)} {l:aN β γ} [k:b3 c.P t i l]:place i=some (l.off,ah.size γ)->aP c E L x (.of v)->xJ c E L t place (l.set b v) r b'->xJ c E L t place b ((i,x)::r) b'
def xJ.f{place:Nat->aw (Nat×Nat)}{β:Type}[Bf:ah β]{b b':β}{r:aa (Nat×bZ)}(h:xJ c E L t place b r b'):s7 c E L place b r b':=by
 induction h with
 |nil=>exact .nil
 |cons h1 ad _ bJ=>exact .cons _ h1 ad I bJ
def aoJ{β:Type}[Bf:ah β]{z b:β}{bt:aa (Nat×bZ)}{pl:Array (Nat×Nat)}[aJ:fw c.P t pl][bE:c4 c.P t z](aY:xJ c E L t (pl[·]?) z bt b:=by repeat (first|exact xJ.nil|(apply xJ.cons;rfl;first|exact e5|exact look_nil)))(a7:ah.agg β=true:=by rfl):
 bc c E L ⟨d,.build t bt.toArray,ty,pos,af,g⟩ (.of b):=kc a7 aJ bE aY.f
inductive x7{α:Type}:List α->Nat->α->List α->Prop
 |z {x v r}:x7 (x::r) 0 v (v::r)
 |s {x v r s i}:x7 r i v s->x7 (x::r) (i+1) v (x::s)
def x7.ok{α:Type}{b c:aa α}{i:Nat}{v:α}(h:x7 b i v c):i<b.length∧b.set i v=c:=by
 induction h with
 |z=>simp
 |s _ bJ=>exact⟨by simp only[List.length_cons];omega,by simp[bJ.2]⟩
inductive xK(c:cj)(E:List (Nat×J))(L:List aE){α:Type}[ah α]:List α->List (Nat×Operand)->List α->Prop
 |nil {b}:xK c E L b [] b
 |cons {b c7 b':List α} {v:α} {i:Nat} {x:Operand} {r:List (Nat×Operand)}:aP c E L x (.of v)->x7 b i v c7->xK c E L c7 r b'->xK c E L b ((i,x)::r) b'
def xK.f{α:Type}[ah α]{b b':aa α}{r:aa (Nat×bZ)}(h:xK c E L b r b'):o0 c E L b r b':=by
 induction h with
 |nil=>exact .nil
 |cons h1 ad _ bJ=>obtain⟨ay,rfl⟩:=ad.ok;exact .cons ay h1 bJ
inductive x8{α:Type}(z:α):Nat->List α->Prop
 |z:x8 z 0 []
 |s {n l}:x8 z n l->x8 z (n+1) (z::l)
def x8.ok{α:Type}{z:α}{n:Nat}{l:aa α}(h:x8 z n l):List.replicate n z=l:=by
 induction h with
 |z=>rfl
 |s _ bJ=>rw[List.replicate_succ,bJ]
def aoK{α:Type}[H4:ah α]{e n:Nat}{z:α}{bt:aa (Nat×bZ)}{l r:aa α}[aJ:hM c.P t e α][bE:c4 c.P e z](cy:x8 z n l:=by repeat (first|exact x8.z|apply x8.s))
 (aY:xK c E L l bt r:=by repeat (first|exact xK.nil|(apply xK.cons; (first|exact e5|exact look_nil); (repeat (first|exact x7.z|apply x7.s))))) (hs:Nat.beq (ah.size α) 0=false:=by rfl) (qN:Nat.ble (n*ah.size α) 16777216=true:=by rfl):
 bc c E L ⟨d,.buildSlice t n bt.toArray,ty,pos,af,g⟩ (.of r):=F4 aJ.hu aJ.ez bE hs qN (cy.ok▸aY.f)
def aoL{f:FuncId}{ats:Array bx}{α ρ:Type}{yI:α->aw ρ}{τ:α->J}{lP:ρ->J}[k:gx c.P f α ρ yI τ lP]{a:α}{r:ρ}(h1:aP c E L x (τ a):=by exact e5)(h:yI a=some r:=by exact fact):
 bc c E L ⟨d,.call ⟨.value (.func f),[x].toArray,ats⟩,ty,pos,af,g⟩ (lP r):=ib k.cf (k.m _ _ h) ⟨h1,trivial⟩
def aoM{f:FuncId}{ats:Array bx}{α β ρ:Type}{yI:α->β->aw ρ}{τ:α->J}{σ:β->J}{lP:ρ->J}[k:ea c.P f α β ρ yI τ σ lP]{a:α}{b:β}{r:ρ}(h1:aP c E L x (τ a):=by exact e5)(ad:aP c E L y (σ b):=by exact e5)(h:yI a b=some r:=by exact fact):
 bc c E L ⟨d,.call ⟨.value (.func f),[x,y].toArray,ats⟩,ty,pos,af,g⟩ (lP r):=ib k.cf (k.m _ _ _ h) ⟨h1,ad,trivial⟩
def aoN{f:FuncId}{ats:Array bx}{α β γ ρ:Type}{yI:α->β->γ->aw ρ}{τ:α->J}{σ:β->J}{Bg:γ->J}{lP:ρ->J}{cx:bZ}[k:nL c.P f α β γ ρ yI τ σ Bg lP]{a:α}{b:β}{e:γ}{r:ρ}(h1:aP c E L x (τ a):=by exact e5)(ad:aP c E L y (σ b):=by exact e5)(ay:aP c E L cx (Bg e):=by exact e5)(h:yI a b e=some r:=by exact fact):
 bc c E L ⟨d,.call ⟨.value (.func f),[x,y,cx].toArray,ats⟩,ty,pos,af,g⟩ (lP r):=ib k.cf (k.m _ _ _ _ h) ⟨h1,ad,ay,trivial⟩
def C8{src dst:bx}{e r:TypeDesc}{σ τ:J}[aJ:oj c.P src e][bE:oj c.P dst r](h:c.P.underlying src=some e->c.P.underlying dst=some r->aP c E L x σ->bc c E L ⟨d,.convert src dst x,ty,pos,af,g⟩ τ)(al:aP c E L x σ:=by exact e5):
 bc c E L ⟨d,.convert src dst x,ty,pos,af,g⟩ τ:=h aJ.hu bE.hu al
def aai{r:TypeDesc}{σ qP τ:J}[aJ:oj c.P t r](h:c.P.underlying t=some r->aP c E L x σ->aP c E L y qP->bc c E L o τ)(al:aP c E L x σ:=by exact e5)(hy:aP c E L y qP:=by exact e5):bc c E L o τ:=h aJ.hu al hy
def al3{a b r:Int}(al:aP c E L x (.of a):=by exact e5)(hy:aP c E L y (.of b):=by exact e5)(hk:Gz a b=some r:=by exact fact):bc c E L ⟨d,.binOp .quo t x y t2,ty,pos,af,g⟩ (.of r):=alD al hy (agk hk)
def al4{a b r:Int}(al:aP c E L x (.of a):=by exact e5)(hy:aP c E L y (.of b):=by exact e5)(hk:x2 a b=some r:=by exact fact):bc c E L ⟨d,.binOp .rem t x y t2,ty,pos,af,g⟩ (.of r):=alE al hy (agl hk)
def al5{p n s k:Nat}{i:Int}{β α:Type}[ah β][ah α][Inhabited α]{l:aN β (Vector α n)}[wN:pq c.P t n s](al:aP c E L x (.my p l):=by exact e5)(hs:ah.size α=s:=by rfl)(hy:aP c E L y (.of i):=by exact e5)(hk:idx n i=some k:=by exact fact):
 bc c E L ⟨d,.indexAddr t x y,ty,pos,af,g⟩ (.my p (l.comp (aN.idx (α:=α) n k (cU hk).1))):=by subst hs;exact lx wN al hy (cU hk)
def AZ(L:aa aE){β:Type}[ah β](p:Nat)(b:β):Prop:=True
def AZ.m{β:Type}[ah β]{p j:Nat}{b:β}(h:L[j]? =some ⟨some p,.var b⟩):AZ L p b:=trivial
def al6{p n s k:Nat}{i:Int}{α:Type}[ah α][Inhabited α]{b:Vector α n}[wN:pq c.P t n s](al:aP c E L x (.df p):=by exact e5)(av:AZ L p b:=by first|exact AZ.m At.g|exact AZ.m (av _ _ At.g I)|exact tO _ _ At.g)(hs:ah.size α=s:=by rfl)(hy:aP c E L y (.of i):=by exact e5)(hk:idx n i=some k:=by exact fact):
 bc c E L ⟨d,.indexAddr t x y,ty,pos,af,g⟩ (.my p (aN.idx (α:=α) n k (cU hk).1)):=by
 subst hs
 have:=lx (d:=d) (ty:=ty) (pos:=pos) (af:=af) (g:=g) wN al hy (cU hk)
 rwa[h7]at this
class nJ (op:BinOp) (α:Type) {β:outParam Type} [ah α] [ah β] (f:outParam (α->α->β)):Prop where
 h:∀{c:cj} {E L d ty pos af g x y t t2} {a b:α},aP c E L x (.of a)->aP c E L y (.of b)->bc c E L ⟨d,.binOp op t x y t2,ty,pos,af,g⟩ (.of (f a b))
instance:nJ .add Int (λa b=>bo (a+b)):=⟨lr⟩
instance:nJ .sub Int (λa b=>bo (a-b)):=⟨uD⟩
instance:nJ .mul Int (λa b=>bo (a*b)):=⟨alB⟩
instance:nJ .lss Int (λa b=>decide (a<b)):=⟨o3⟩
instance:nJ .leq Int (λa b=>decide (a<=b)):=⟨alF⟩
instance:nJ .gtr Int (λa b=>decide (a>b)):=⟨F1⟩
instance:nJ .geq Int (λa b=>decide (a>=b)):=⟨K1⟩
instance:nJ .eql Int (λa b=>a==b):=⟨mh⟩
instance:nJ .neq Int (λa b=>a !=b):=⟨Qt⟩
instance:nJ .and (BitVec 64) (λa b=>a&&&b):=⟨ahZ⟩
instance:nJ .or (BitVec 64) (λa b=>a|||b):=⟨P0⟩
instance:nJ .xor (BitVec 64) (λa b=>a ^^^ b):=⟨ah0⟩
instance:nJ .shl (BitVec 64) (λa b=>a <<< b.toNat):=⟨Py⟩
instance:nJ .shr (BitVec 64) (λa b=>a >>> b.toNat):=⟨ah3⟩
instance:nJ .eql (BitVec 64) (λa b=>a==b):=⟨ah6⟩
instance:nJ .neq (BitVec 64) (λa b=>a !=b):=⟨ah7⟩
instance:nJ .lss (BitVec 64) (λa b=>decide (a<b)):=⟨ah4⟩
instance:nJ .geq (BitVec 64) (λa b=>decide (a>=b)):=⟨ah5⟩
def al7{op:BinOp}{α β:Type}[ah α][ah β]{f:α->α->β}{a b:α}[k:nJ op α f](al:aP c E L x (.of a):=by exact e5)(hy:aP c E L y (.of b):=by exact e5):bc c E L ⟨d,.binOp op t x y t2,ty,pos,af,g⟩ (.of (f a b)):=k.h al hy
def Y2{op:BinOp}{τ:J}(h:bc c E L ⟨d,.binOp op t x y t2,ty,pos,af,g⟩ τ):bc c E L ⟨d,.binOp op t x y t2,ty,pos,af,g⟩ τ:=h
def aaj{τ:J}(h:bc c E L ⟨d,.load t x,ty,pos,af,g⟩ τ):bc c E L ⟨d,.load t x,ty,pos,af,g⟩ τ:=h
def aoO{s f:Nat}{τ:J}(h:bc c E L ⟨d,.fieldAddr s x f,ty,pos,af,g⟩ τ):bc c E L ⟨d,.fieldAddr s x f,ty,pos,af,g⟩ τ:=h
def aak{k:Call}{τ:J}(h:bc c E L ⟨d,.call k,ty,pos,af,g⟩ τ):bc c E L ⟨d,.call k,ty,pos,af,g⟩ τ:=h
def aoP{op:UnOp}{τ:J}(h:bc c E L ⟨d,.unOp op t x,ty,pos,af,g⟩ τ):bc c E L ⟨d,.unOp op t x,ty,pos,af,g⟩ τ:=h
def aoQ{τ:J}(h:bc c E L ⟨d,.indexAddr t x y,ty,pos,af,g⟩ τ):bc c E L ⟨d,.indexAddr t x y,ty,pos,af,g⟩ τ:=h
def aoR{src dst:bx}{τ:J}(h:bc c E L ⟨d,.convert src dst x,ty,pos,af,g⟩ τ):bc c E L ⟨d,.convert src dst x,ty,pos,af,g⟩ τ:=h
def aal{τ:J}(h:bc c E L ⟨d,.nilCheck x,ty,pos,af,g⟩ τ):bc c E L ⟨d,.nilCheck x,ty,pos,af,g⟩ τ:=h
def aoS{τ:J}(h:bc c E L ⟨d,.move x,ty,pos,af,g⟩ τ):bc c E L ⟨d,.move x,ty,pos,af,g⟩ τ:=h
def aoT{τ:J}(h:bc c E L ⟨d,.assign x,ty,pos,af,g⟩ τ):bc c E L ⟨d,.assign x,ty,pos,af,g⟩ τ:=h
def aoU{i:Nat}{τ:J}(h:bc c E L ⟨d,.extract x i,ty,pos,af,g⟩ τ):bc c E L ⟨d,.extract x i,ty,pos,af,g⟩ τ:=h
def aoV{z w:bZ}{τ:J}(h:bc c E L ⟨d,.pick z x w,ty,pos,af,g⟩ τ):bc c E L ⟨d,.pick z x w,ty,pos,af,g⟩ τ:=h
def aoW{bt:Array (Nat×bZ)}{τ:J}(h:bc c E L ⟨d,.build t bt,ty,pos,af,g⟩ τ):bc c E L ⟨d,.build t bt,ty,pos,af,g⟩ τ:=h
def aoX{n:Nat}{bt:Array (Nat×bZ)}{τ:J}(h:bc c E L ⟨d,.buildSlice t n bt,ty,pos,af,g⟩ τ):bc c E L ⟨d,.buildSlice t n bt,ty,pos,af,g⟩ τ:=h
def aD{τ:J} (h:bc c E L o τ:=by first
 |(apply aoS;exact c8 e5)
 |(apply aoT;exact cV e5)
 |(apply aaj;first|exact aox|exact aoy|exact alY)
 |(apply aoO;first|exact aoE|exact aoF|exact aoG)
 |(apply Y2;first|exact al7|exact aoC|exact aoD|exact al1|exact al2|exact aai QE|exact aai ar6)
 |(apply aak;first|exact alZ|exact ar1|exact Bh Yk|exact Bh Yj|exact Bh arY)
 |(apply aoU;exact alX)
 |(apply aoV;first|exact aoI|exact al0)
 |(apply aoP;first|exact tT qv|exact tT alC)
 |(apply aoW;exact aoJ)
 |(apply aoX;exact aoK)
 |(apply aoR;first|exact C8 PZ|exact C8 ajf|exact C8 alH|exact C8 ar7|exact C8 ar8|exact C8 arZ)
 |(apply aal;first|exact asj|exact tT mg|exact tT aji)):bc c E L o τ:=h
def kO{τ:J} (h:bc c E L o τ:=by first
 |(apply aoQ;first|exact aoH|exact al5|exact al6|exact ar9)
 |(apply aak;first|exact aoL|exact aoM|exact aoN|exact asl)
 |(apply aal;exact aoB)|(apply aaj;first|exact aoA|exact aoz)
 |(apply Y2;first|exact al4|exact al3|exact asa|exact asb)):bc c E L o τ:=h
class HC (op:BinOp):Prop where
 h:True
instance:HC .quo:=⟨trivial⟩
instance:HC .rem:=⟨trivial⟩
instance:HC .shl:=⟨trivial⟩
instance:HC .shr:=⟨trivial⟩
def aam(h:ae c ops Q (⟨d,.nilCheck x,ty,pos,af,g⟩::rest) E L):ae c ops Q (⟨d,.nilCheck x,ty,pos,af,g⟩::rest) E L:=h
def aan(h:ae c ops Q (⟨d,.load t x,ty,pos,af,g⟩::rest) E L):ae c ops Q (⟨d,.load t x,ty,pos,af,g⟩::rest) E L:=h
def aoY(h:ae c ops Q (⟨d,.indexAddr t x y,ty,pos,af,g⟩::rest) E L):ae c ops Q (⟨d,.indexAddr t x y,ty,pos,af,g⟩::rest) E L:=h
def aoZ{f:FuncId}{xs:Array bZ}{ats:Array bx}(h:ae c ops Q (⟨d,.call ⟨.value (.func f),xs,ats⟩,ty,pos,af,g⟩::rest) E L):ae c ops Q (⟨d,.call ⟨.value (.func f),xs,ats⟩,ty,pos,af,g⟩::rest) E L:=h
def al8{op:BinOp}[k:HC op](h:ae c ops Q (⟨d,.binOp op t x y t2,ty,pos,af,g⟩::rest) E L):ae c ops Q (⟨d,.binOp op t x y t2,ty,pos,af,g⟩::rest) E L:=h
inductive Nm:J->J->Prop
 |i {τ}:Nm τ τ
 |n {α:Type} [ah α] {a b:α}:some a=some b->Nm (.of a) (.of b)
def Nm.aD{τ σ:J}(h:Nm τ σ)(k:bc c E L o τ):bc c E L o σ:=by
 cases h with
 |i=>exact k
 |n e=>cases e;exact k
def ao0{τ:J}{j g:Nat}{p:Prop}{b want:Bool}(k:ae c ops Q rest ((a1,.cond (p∧b=want) τ)::E) L)(bF:o.guard=some (j,want):=by rfl)(aC:(ops[j]?).bind (·.dst)=some g:=by rfl)(ao:look E g=some (.cond p (.of b)):=by rfl)
 (h:p∧b=want->bc c E L o τ:=by intro hb;exact aD) (hd:o.dst=some a1:=by rfl) (aI:Nat.blt a1 c.n=true:=by rfl):ae c ops Q (o::rest) E L:=.gg h bF aC ao hd aI k
def ao1{fn:Func}{Lo:Unit->aa aE}(hs:(Lo ()).Sublist L:=by repeat (first|exact y9 _|exact sG _|apply List.Sublist.cons_cons|apply List.Sublist.cons))(aD:fn.results= #[]:=by rfl)(dZ:c.ds=[]:=by rfl):
 ar c (bodyPost c.P fn (kA c.X c.bP c.jO (λ_:Unit=>.bY []) Lo)) .ret E L:=.mL () hs aD I dZ
def ao2{fn:Func}{r:ResultVar}{τ:J}{ρ:Unit->J}{Lo:Unit->aa aE}(hs:(Lo ()).Sublist L:=by repeat (first|exact y9 _|exact sG _|apply List.Sublist.cons_cons|apply List.Sublist.cons))(aD:fn.results= #[r]:=by rfl)(h:qO c E L r τ:=by exact Ss)(rz:ρ ()=τ:=by rfl)(dZ:c.ds=[]:=by rfl):
 ar c (bodyPost c.P fn (kA c.X c.bP c.jO ρ Lo)) .ret E L:=.eI () hs aD rz h dZ
def ao3{fn:Func}{r fg:ResultVar}{τ oC:J}{ρ:Unit->J}{Lo:Unit->aa aE}(hs:(Lo ()).Sublist L:=by repeat (first|exact y9 _|exact sG _|apply List.Sublist.cons_cons|apply List.Sublist.cons))(aD:fn.results= #[r,fg]:=by rfl)(h:qO c E L r τ:=by exact Ss)(ad:qO c E L fg oC:=by exact Ss)(rz:ρ ()=.bY [τ,oC]:=by rfl)(dZ:c.ds=[]:=by rfl):
 ar c (bodyPost c.P fn (kA c.X c.bP c.jO ρ Lo)) .ret E L:=.ns () hs aD rz h ad dZ
def aqG{R:Type}{b:Bool}{A B:aw R}{r:R}(h:cond b A B=some r):True:=trivial
def aqH{R:Type}{b:Bool}{A B:ai R}{r:R->Prop}(h:cond b A B r):True:=trivial
def ao4(h:ae c ops Q (⟨some a1,.alloc t,ty,pos,af,none⟩::rest) E L):ae c ops Q (⟨some a1,.alloc t,ty,pos,af,none⟩::rest) E L:=h
def ao5(h:ae c ops Q (⟨some a1,.box t x,ty,pos,af,none⟩::rest) E L):ae c ops Q (⟨some a1,.box t x,ty,pos,af,none⟩::rest) E L:=h
def ao6(h:ae c ops Q (⟨none,.store t x y,ty,pos,af,none⟩::rest) E L):ae c ops Q (⟨none,.store t x y,ty,pos,af,none⟩::rest) E L:=h
def ao7{z:bZ}{u v:Code}(h:az c Q (.cond z u v) E L):az c Q (.cond z u v) E L:=h
def HD{τ:J}(k:ae c ops Q rest ((a1,τ)::E) L)(bF:o.guard=none:=by rfl)(hd:o.dst=some a1:=by rfl)(h:bc c E L o τ:=by exact aD)(aI:Nat.blt a1 c.n=true:=by rfl):ae c ops Q (o::rest) E L:=.v h bF hd aI k
def HE{τ:J}{j g:Nat}{b want:Bool}(k:ae c ops Q rest ((a1,.cond (b=want) τ)::E) L)(bF:o.guard=some (j,want):=by rfl)(aC:(ops[j]?).bind (·.dst)=some g:=by rfl)(ao:look E g=some (.of b):=by rfl)
 (h:b=want->bc c E L o τ:=by intro hb;exact aD) (hd:o.dst=some a1:=by rfl) (aI:Nat.blt a1 c.n=true:=by rfl):ae c ops Q (o::rest) E L:=.g h bF aC ao hd aI k
def ao8{α:Type}[H4:ah α]{z:α}[gL:c4 c.P t z](k:∀p,ae c ops Q rest ((a1,.df p)::E) (⟨some p,.var z⟩::L))(aI:Nat.blt a1 c.n=true:=by rfl):ae c ops Q (⟨some a1,.alloc t,ty,pos,af,none⟩::rest) E L:=.alloc gL aI k
def ao9{α:Type}[ah α]{z:α}(k:∀p,ae c ops Q rest ((a1,.df p)::E) (⟨some p,.var z⟩::L))(al:aP c E L x (.of z):=by exact e5)(aI:Nat.blt a1 c.n=true:=by rfl):ae c ops Q (⟨some a1,.box t x,ty,pos,af,none⟩::rest) E L:=.box al aI k
def apa{p:Nat}{β γ:Type}[ah β][ah γ]{b:β}{v:γ}{l:aN β γ}[dQ:bK c.P t γ](k:ae c ops Q rest E L')(al:aP c E L x (.my p l):=by exact e5)(hy:aP c E L y (.of v):=by first|exact e5|exact look_nil)
 (av:tW L ⟨some p,.var b⟩ ⟨some p,.var (l.set b v)⟩ L':=by repeat (first|exact tW.z|apply tW.s)):ae c ops Q (⟨none,.store t x y,ty,pos,af,none⟩::rest) E L:=by
 obtain⟨j,h1,rfl⟩:=av.get
 exact .store l dQ al hy h1 I I k
def apb{p:Nat}{β:Type}[ah β]{b v:β}[dQ:bK c.P t β](k:ae c ops Q rest E L')(al:aP c E L x (.df p):=by exact e5)(hy:aP c E L y (.of v):=by first|exact e5|exact look_nil)
 (av:tW L ⟨some p,.var b⟩ ⟨some p,.var v⟩ L':=by repeat (first|exact tW.z|apply tW.s)):ae c ops Q (⟨none,.store t x y,ty,pos,af,none⟩::rest) E L:=by
 obtain⟨j,h1,rfl⟩:=av.get
 exact .store (aN.id β) dQ al hy h1 I I k
def apc{α R:Type}{a:α}{f:α->aw R}{r:R}{G:Prop}(h:(some a).bind f=some r)(k:∀y,some a=some y->f y=some r->G):G:=k a I h
def aao{α:Type}[ah α]{a hL:α}{K:α->Prop}(k:∀y,some a=some y->K y->ae c ops Q rest ((a1,.of y)::E) L)(bF:o.guard=none:=by rfl)(hd:o.dst=some a1:=by rfl)(h:bc c E L o (.of hL):=by exact aD)(e:hL=a:=by with_reducible rfl)(aI:Nat.blt a1 c.n=true:=by rfl):
 ∀y,some a=some y->K y->ae c ops Q (o::rest) E L:=λy hy hk=>by subst e;exact .v ((Nm.n hy).aD h) bF hd aI (k y hy hk)
def apd{α R:Type}{a:α}{f:α->ai R}{r:R->Prop}{G:Prop}(h:ai.bind (ai.of (some a)) f r)(k:∀y,some a=some y->f y r->G):G:=by obtain⟨y,h1,ad⟩:=h;exact k y h1 ad
def abt{α R:Type}{m:aw α}{f:α->aw R}{r:R}(h:m.bind f=some r)(k:∀y,m=some y->f y=some r->ae c ops Q (o::rest) E L):ae c ops Q (o::rest) E L:=aA h k
def aap{α R:Type}{m:aw α}{f:α->ai R}{r:R->Prop}(h:ai.bind (ai.of m) f r)(k:∀y,m=some y->f y r->ae c ops Q (o::rest) E L):ae c ops Q (o::rest) E L:=ai.bA h k
def aqI{u j p:Nat}{α:Type}[ah α]{x:α}[k:bK c.P ty α](h:look E u=some (.df p):=by rfl)(av:L[j]? =some ⟨some p,.var x⟩:=by first|exact At.g|exact av _ _ At.g I):qa c E L (.cell u ty) (.of x):=Z8 k h av
def Te{r:ResultVar}{τ:J}(h:qa c E L r τ:=by first|exact Lq I|exact aqI):qa c E L r τ:=h
def ape{u j p:Nat}{α:Type}[ah α]{x:α}[k:bK c.P ty α](h:look E u=some (.df p):=by rfl)(av:L[j]? =some ⟨some p,.var x⟩:=by first|exact At.g|exact av _ _ At.g I):qO c E L (.cell u ty) (.of x):=lV k h av
def Ss{r:ResultVar}{τ:J}(h:qO c E L r τ:=by first|exact dv I|exact ape):qO c E L r τ:=h
def aqJ{fn:Func}{r:ResultVar}{τ:J}(aD:fn.results= #[r]:=by rfl)(h:qa c E L r τ:=by exact Te)(dZ:c.ds=[]:=by rfl):ar c (bodyPost c.P fn (uL c τ)) .ret E L:=.Z9 aD h dZ
def aqK{fn:Func}{iI fg:ResultVar}{τ oC:J}(aD:fn.results= #[iI,fg]:=by rfl)(h:qa c E L iI τ:=by exact Te)(ad:qa c E L fg oC:=by exact Te)(dZ:c.ds=[]:=by rfl):ar c (bodyPost c.P fn (uL c (.bY [τ,oC]))) .ret E L:=.aoh aD h ad dZ
end
inductive yJ(c:cj)(ops:Array Oper)(E:List (Nat×J))(L:List aE)(hs:List dt):List Oper->List (Option Nat)->List (List Nat)->List J->Prop
 |nil {os}:yJ c ops E L hs os [] [] []
 |cons {o os s eH d ds τ cM}:(∀L':List aE,(∀(j:Nat) (e:aE),L[j]? =some e->qx (λ_=>false) j 0 []=true->L'[j]? =some e)->ko c ops (kG (λ_ _=>none) hs E d) L' o τ)->yJ c ops E L hs os eH ds cM->yJ c ops E L hs (o::os) (s::eH) (d::ds) (τ::cM)
def yJ.h{c:cj}{ops:Array Oper}{E:aa (Nat×J)}{L:aa aE}{hs:aa dt}{os eH ds cM}(h:yJ c ops E L hs os eH ds cM):xI c ops E L hs os eH ds cM:=by
 induction h with
 |nil=>simp[xI]
 |cons h1 _ bJ=>exact⟨h1,bJ⟩
def A0(l:aa Oper):aa (aa Nat):=l.map λo=>o.after.toList.filterMap λe=>match e.ground with | .data=>some e.on| .guard=>some e.on|_=>none
section
variable{c:cj}{E:aa (Nat×J)}{L:aa aE}{ops:Array Oper}{Q:Exit->Act->bf->Prop}{o:Oper}
def Mg{τ σ:J}(bF:o.guard=none:=by rfl)(h:bc c E L o τ:=by first|exact aD|exact kO)(n:Nm τ σ:=by first|exact Nm.n (by with_reducible assumption)|exact Nm.i):ko c ops E L o σ:=ko.v (n.aD h) bF
def abu{τ:J}{j g:Nat}{b want:Bool}(bF:o.guard=some (j,want):=by rfl)(aC:(ops[j]?).bind (·.dst)=some g:=by rfl)(ao:look E g=some (.of b):=by rfl)(h:b=want->bc c E L o τ:=by intro hb;first|exact aD|exact kO):
 ko c ops E L o (.cond (b=want) τ):=ko.g h bF aC ao
def az.eM{jh a:Nat}{l:aa Oper}{es:aa Nat}{cM:aa J}[k:Td c.P](n:Nat)(bw:ae c l.toArray Q (l.drop n) (wc E (rg a n) (A0 (l.take n)) cM) L)(a7:(l[0]?).bind (·.dst)=Option.some a:=by rfl)
 (b2:yJ c l.toArray E L (p3 (rg a n) (A0 (l.take n)) cM) l (rg a n) (A0 (l.take n)) cM:=by repeat (first|apply yJ.nil|(apply yJ.cons; (intro L' av;first|exact Mg|exact abu))))
 (dZ:lE (p3 (rg a n) (A0 (l.take n)) cM)=C6 (rg a n) (A0 (l.take n)):=by rfl) (jK:E.map (·.1)=es:=by rfl) (dE:Gv.qy l.toArray n (C6 (rg a n) (A0 (l.take n))) es=true:=by kernel_rfl) (hs:Dw (l.take n) (rg a n) c.n=true:=by rfl):az c Q (.region jh l.toArray true) E L:=
 .lk k.m n (rg a n) (A0 (l.take n)) cM b2.h bw dZ jK dE hs
end
def Wq{up:aa Nat}{i:Nat}{hd:Nat->Hid}{x:Hid}:hx up i (mV hd i x) i=x:=by
 unfold hx mV;simp
def tn(s:Nat)(up:aa Nat)(j i:Nat){α:Type}[ah α](z:α):dt:=⟨some s,up,[j],[j],λhd=>J.df ((hd i 0).getD 0),λhd _=>a8 ((hd i 0).getD 0) z⟩
inductive HF(c:cj)(E:List (Nat×J))(L:List aE)(t:TypeId)(x y:Operand)(j:Nat)(e:aE):Prop
 |mk {p:Nat} {β γ:Type} [ah β] [ah γ] {b:β} {v:γ} (l:aN β γ):bK c.P t γ->aP c E L x (.my p l)->aP c E L y (.of v)->L[j]? =some ⟨some p,.var b⟩->⟨some p,.var (l.set b v)⟩=e->HF c E L t x y j e
 |z {p:Nat} {β:Type} [ah β] {b v:β}:bK c.P t β->aP c E L x (.df p)->aP c E L y (.of v)->L[j]? =some ⟨some p,.var b⟩->⟨some p,.var v⟩=e->HF c E L t x y j e
section
variable{c:cj}{E:aa (Nat×J)}{L:aa aE}{ops:Array Oper}{Q:Exit->Act->bf->Prop}{o:Oper}{hs:aa dt}{np i a1:Nat}{up rd:aa Nat}{t ty:bx}{pos:String}{af:Array Edge}{x y:bZ}
def ab6{p:Nat}{β:Type}[ah β]{a b:β}(h:some a=some b):(⟨some p,.var a⟩:aE)=⟨some p,.var b⟩:=by cases h;rfl
def arJ{p j:Nat}{β γ:Type}[ah β][ah γ]{b:β}{v:γ}{l:aN β γ}{e:aE}[k:bK c.P t γ](al:aP c E L x (.my p l):=by exact e5)(hy:aP c E L y (.of v):=by first|exact e5|exact look_nil)(h:L[j]? =some ⟨some p,.var b⟩:=by exact av _ _ I I)(he:⟨some p,.var (l.set b v)⟩=e:=by first|rfl|exact ab6 (by assumption)):HF c E L t x y j e:=.mk l k al hy h he
def sz{p j:Nat}{β:Type}[ah β]{b v:β}{e:aE}[k:bK c.P t β](al:aP c E L x (.df p):=by exact e5)(hy:aP c E L y (.of v):=by first|exact e5|exact look_nil)(h:L[j]? =some ⟨some p,.var b⟩:=by exact av _ _ I I)(he:⟨some p,.var v⟩=e:=by first|rfl|exact ab6 (by assumption)):HF c E L t x y j e:=.z k al hy h he
inductive DK(c:cj)(E:List (Nat×J))(L:List aE)(o:Oper)(σ:J):Prop
 |mk {τ:J}:bc c E L o τ->Nm τ σ->DK c E L o σ
def DK.h{σ:J}(h:DK c E L o σ):bc c E L o σ:=by cases h with |mk h n=>exact n.aD h
def aI{τ σ:J}(h:bc c E L o τ:=by first|exact aD|exact kO)(n:Nm τ σ:=by first|exact Nm.n (by with_reducible assumption)|exact Nm.i):DK c E L o σ:=.mk h n
def abv{σ:J}(h:∀(hd:Nat->Hid) (E':aa (Nat×J)) (L':aa aE),(∀t τ,look (kG hd hs E up) t=some τ->look E' t=some τ)->(∀j e,(gy (λ_=>true) hd 0 (hs.take i) L)[j]? =some e->rd.contains j=true->L'[j]? =some e)->(∀{β:Type} [ah β] (p:Nat) (b:β) {j:Nat},(gy (λ_=>true) hd 0 (hs.take i) L)[j]? =some ⟨some p,.var b⟩->AZ L' p b)->L'.drop np=L.drop np->DK c E' L' o σ:=by intro hd E' L' aM av tO cC;exact aI)
 (bF:o.guard=none:=by rfl) (hd:o.dst=some a1:=by rfl) (aI:Nat.blt a1 c.n=true:=by rfl):xG c ops Q hs E L np i o (aQ a1 up rd σ):=
 λa b jz d e f=>ae.v (h a b jz d e (λ_ _ _ _=>trivial) f).h bF hd aI (ae.nil (ar.fin (λ_=>none) I I))
def abw{τ:J}{j g:Nat}{b want:Bool}(bF:o.guard=some (j,want):=by rfl)(aC:(ops[j]?).bind (·.dst)=some g:=by rfl)(ao:∀hd,look (kG hd hs E up) g=some (.of b):=by intro hd;rfl)
 (h:∀(hd:Nat->Hid) (E':aa (Nat×J)) (L':aa aE),(∀t τ,look (kG hd hs E up) t=some τ->look E' t=some τ)->(∀j e,(gy (λ_=>true) hd 0 (hs.take i) L)[j]? =some e->rd.contains j=true->L'[j]? =some e)->(∀{β:Type} [ah β] (p:Nat) (b:β) {j:Nat},(gy (λ_=>true) hd 0 (hs.take i) L)[j]? =some ⟨some p,.var b⟩->AZ L' p b)->L'.drop np=L.drop np->b=want->DK c E' L' o τ:=by intro hd E' L' aM av tO cC hb;exact aI)
 (hd:o.dst=some a1:=by rfl) (aI:Nat.blt a1 c.n=true:=by rfl):xG c ops Q hs E L np i o (aQ a1 up rd (.cond (b=want) τ)):=
 λa b' jz d e f=>ae.g (λz=>(h a b' jz d e (λ_ _ _ _=>trivial) f z).h) bF aC (d _ _ (ao a)) hd aI (ae.nil (ar.fin (λ_=>none) I I))
def abx{α:Type}[H4:ah α]{z:α}[gL:c4 c.P t z]{s j:Nat}(aC:∀hd,(gy (λ_=>true) hd 0 (hs.take i) L)[j]? =some ⟨none,.dead⟩:=by intro hd;rfl)(aI:Nat.blt s c.n=true:=by rfl):xG c ops Q hs E L np i ⟨some s,.alloc t,ty,pos,af,none⟩ (tn s up j i z):=
 λhd E' L' aM av cC=>.alloc gL aI λp=>.nil (.place j (av j _ (aC hd) (by simp[tn])) (.fin (fK [some p]) (by simp[tn,rk,Wq,fK]) (by simp[tn,pa,Wq,fK])))
def dst{j:Nat}{e:(Nat->Hid)->aE}(h:∀(hd:Nat->Hid) (E':aa (Nat×J)) (L':aa aE),(∀t τ,look (kG hd hs E up) t=some τ->look E' t=some τ)->(∀k e,(gy (λ_=>true) hd 0 (hs.take i) L)[k]? =some e->[j].contains k=true->L'[k]? =some e)->L'.drop np=L.drop np->HF c E' L' t x y j (e (hx up i (mV hd i λ_=>none))):=by intro hd E' L' aM av cC;first|exact arJ|exact sz):
 xG c ops Q hs E L np i ⟨none,.store t x y,ty,pos,af,none⟩ (j9 up [j] [j] e):=λhd E' L' aM av cC=>by
 cases h hd E' L' aM av cC with
 |mk l dQ al hy h1 ad=>exact .store l dQ al hy h1 I I (.nil (.fin (λ_=>none) I (ec (L'.set j) ad)))
 |z dQ al hy h1 ad=>exact .store (aN.id _) dQ al hy h1 I I (.nil (.fin (λ_=>none) I (ec (L'.set j) ad)))
end
inductive tY(c:cj)(ops:Array Oper)(Q:Exit->Act->World->Prop)(hs:List dt)(E:List (Nat×J))(L:List aE)(np:Nat):Nat->List Oper->List dt->Prop
 |nil {i}:tY c ops Q hs E L np i [] []
 |cons {i o os h r}:xG c ops Q hs E L np i o h->tY c ops Q hs E L np (i+1) os r->tY c ops Q hs E L np i (o::os) (h::r)
def tY.h{c:cj}{ops:Array Oper}{Q:Exit->Act->bf->Prop}{hs:aa dt}{E:aa (Nat×J)}{L:aa aE}{np i:Nat}{os r}(h:tY c ops Q hs E L np i os r):pC c ops Q hs E L np i os r:=by
 induction h with
 |nil=>simp[pC]
 |cons h1 _ bJ=>exact⟨h1,bJ⟩
section
variable{c:cj}{E:aa (Nat×J)}{L:aa aE}{Q:Exit->Act->bf->Prop}{jh:Nat}{l:aa Oper}{ds:aa (aw Nat×aa Nat×aa Nat×aa Nat)}{es:aa Nat}[Tf:Td c.P](np:Nat)(hs:aa dt)
include Tf
def az.Bb(bw:∀hd,ar c Q .normal (hW (λ_=>true) hd E 0 hs) (gy (λ_=>true) hd 0 hs L))(b2:tY c l.toArray Q hs E L np 0 l hs:=by repeat (first|apply tY.nil|(apply tY.cons;first|exact abx|exact dst|exact abv|exact abw)))
 (dZ:lE hs=ds:=by rfl) (jK:E.map (·.1)=es:=by rfl) (dE:Gv.qy l.toArray l.length ds es=true:=by kernel_rfl) (hw:(ds.all λd=>d.2.2.2.all λj=>Nat.blt j np)=true:=by kernel_rfl):az c Q (.region jh l.toArray true) E L:=.S7 np Tf.m hs es b2.h bw dZ jK dE hw
def az.cf{K:Prop}(k:K)(bw:∀hd,ar c Q .normal (hW (λ_=>true) hd E 0 hs) (gy (λ_=>true) hd 0 hs L))(b2:oL K->tY c l.toArray Q hs E L np 0 l hs:=by intro k;repeat (first|apply tY.nil|(apply tY.cons;first|exact abx|exact dst|exact abv|exact abw|exact k.k.1|exact k.k.2.1|exact k.k.2.2.1|exact k.k.2.2.2.1|exact k.k.2.2.2.2.1|exact k.k.2.2.2.2.2.1|exact k.k.2.2.2.2.2.2.1|exact k.k.2.2.2.2.2.2.2.1|exact k.k.2.2.2.2.2.2.2.2.1|exact k.k.2.2.2.2.2.2.2.2.2.1|exact k.k.2.2.2.2.2.2.2.2.2.2.1|exact k.k.2.2.2.2.2.2.2.2.2.2.2.1|exact k.k.2.2.2.2.2.2.2.2.2.2.2.2.1|exact k.k.2.2.2.2.2.2.2.2.2.2.2.2.2.1)))
 (dZ:lE hs=ds:=by rfl) (jK:E.map (·.1)=es:=by rfl) (dE:Gv.qy l.toArray l.length ds es=true:=by kernel_rfl) (hw:(ds.all λd=>d.2.2.2.all λj=>Nat.blt j np)=true:=by kernel_rfl):az c Q (.region jh l.toArray true) E L:=.S7 np Tf.m hs es (b2 ⟨k⟩).h bw dZ jK dE hw
end
section
variable{c:cj}{E:aa (Nat×J)}{L:aa aE}{l:aa Oper}{Q:Exit->Act->bf->Prop}
inductive yK(c:cj)(l:List Oper)(E:List (Nat×J))(L:List aE)(fs:List (Nat×Nat×J)):List Nat->Prop
 |nil:yK c l E L fs []
 |cons {i o τ r}:l[i]? =some o->Av i fs=some τ->ko c l.toArray (l7 (λj=>eD j (kC o)) E fs) L o τ->yK c l E L fs r->yK c l E L fs (i::r)
def yK.h{fs:aa (Nat×Nat×J)}{nl:aa Nat}(h:yK c l E L fs nl):yE c l E L fs nl:=by
 induction h with
 |nil=>trivial
 |cons h1 ad ay _ bJ=>exact⟨by rw[h1,ad];exact ay,bJ⟩
def gI.md{qY:Nat}{dU eb:aa Nat}{fs:aa (Nat×Nat×J)}{ks:aa (Nat×Nat)}{es:aa Nat}(oK nl el:aa Nat)(aM:yF c l Q dU eb fs E L el)(av:yK c l E L fs nl:=by repeat (first|apply yK.nil|(apply yK.cons;rfl;rfl; (first|exact Mg|exact abu))))(aI:dU.all (λk=>eD k eb)=false:=by rfl)
 (gw:fs.map (λx=>(x.1,x.2.1))=ks:=by rfl) (jK:E.map (·.1)=es:=by rfl) (HA:c.n=qY:=by rfl) (dE:Mn l qY dU eb oK nl el ks es=true:=by kernel_rfl):gI c l Q dU eb fs E L:=.mid oK nl el av.h aM aI gw jK HA dE
end
def go{G:Prop} (h:G:=by
 repeat (first
 | (change ae _ _ _ (_::_) _ _
    first
    |((with_reducible refine apc h ?_);refine aao ?_; (try clear h);intro dR Tg h;have Bi:=True.intro)|((with_reducible refine apd h ?_);refine aao ?_; (try clear h);intro dR Tg h;have Bi:=True.intro)
    |(apply ao4;refine ao8 ?_;intro dR)|(apply ao5;refine ao9 ?_;intro dR)
    |(apply ao6;first|refine apa ?_|refine apb ?_)
    |(apply aam; (first|(with_reducible refine abt h ?_)|(with_reducible refine aap h ?_)); (try clear h); (intro dR Tg h;have Bi:=True.intro);first|(refine HD ?_ (h:=by exact kO);change ae _ _ _ _ ((_,J.df dR)::_) _)|(refine HE ?_ (h:=by intro hb;exact kO);change ae _ _ _ _ ((_,J.cond _ (J.df dR))::_) _))
    |((first|apply aam|apply aan);first|refine HD ?_ (h:=by exact kO)|refine HE ?_ (h:=by intro hb;exact kO))
    |((first|apply aoY|apply aoZ|apply al8|apply aan); (first|(with_reducible refine abt h ?_)|(with_reducible refine aap h ?_)); (try clear h); (intro dR Tg h;have Bi:=True.intro);first|refine HD ?_ (h:=by exact kO)|refine HE ?_ (h:=by intro hb;exact kO))
    |refine HD ?_|refine HE ?_|refine ao0 ?_|refine HD ?_ (h:=by exact kO)|refine HE ?_ (h:=by intro hb;exact kO))
 | (change ae _ _ _ [] _ _
    first|apply fD|apply ht|apply b7|apply ae.nil)
 | (change az _ _ _ _ _
    first|apply b6|(apply ao7;first|((with_reducible have Bi:=aqG h);refine mq h ?_ ?_ <;> ((try clear h);intro h))|((with_reducible have Bi:=aqH h);refine LX h ?_ ?_ <;> ((try clear h);intro h)))|apply k8|apply az.seq|apply az.block|apply az.fk|apply az.ret|apply az.exit|apply az.skip)
 | (change ar _ _ _ _ _
    first|apply ar.next|apply ar.ret|apply ar.exit|apply ar.te|apply ar.qs|apply ar.ri|refine ar.ajd I ?_|(cases h;first|exact aqJ|exact aqK|exact ao2|exact ao3|exact asz|exact asA|exact ao1|exact hY () 0|exact hY () 1|exact hY () 2|exact hY () 3|exact ho () 0|exact ho () 1|exact ho () 2|exact ho () 3|exact dM 0 (hm ())|exact dM 1 (hm ())|exact dM 2 (hm ())))
 |((first|((guard_hyp Bi); (clear Bi);revert h)|skip); (repeat (revert dR));first|exact aJ.k|exact bE.k|exact cP.k|exact fm.k|exact oF.k|exact lL.k))):G:=h
def aL{G K:Prop}(k:K)(h:oL K->G:=by intro aJ;exact go):G:=h ⟨k⟩
def go2{G K ea:Prop}(k:K)(k':ea)(h:oL K->oL ea->G:=by intro aJ bE;exact go):G:=h ⟨k⟩ ⟨k'⟩
def aaR{G K ea nL:Prop}(k:K)(k':ea)(aqL:nL)(h:oL K->oL ea->oL nL->G:=by intro aJ bE cP;exact go):G:=h ⟨k⟩ ⟨k'⟩ ⟨aqL⟩
def aaW{G gx ea nL H5:Prop}(aq:gx)(cA:ea)(eZ:nL)(lK:H5)(h:oL gx->oL ea->oL nL->oL H5->G:=by intro aJ bE cP fm;exact go):G:=h ⟨aq⟩ ⟨cA⟩ ⟨eZ⟩ ⟨lK⟩
def apV{G gx ea nL H5 ab7 ab8:Prop}(aq:gx)(cA:ea)(eZ:nL)(lK:H5)(fT:ab7)(kR:ab8)(h:oL gx->oL ea->oL nL->oL H5->oL ab7->oL ab8->G:=by intro aJ bE cP fm oF lL;exact go):G:=h ⟨aq⟩ ⟨cA⟩ ⟨eZ⟩ ⟨lK⟩ ⟨fT⟩ ⟨kR⟩
structure kQ(P:Program)(α:Type)where
 r:Option α
instance{P:Program}{α:Type}:Inhabited (kQ P α):=⟨⟨none⟩⟩
instance{P:Program}{α:Type}[ah α]:ah (kQ P α)where
 size:=1
 agg:=false
 rep A W cs x:=∃v,cs=[v]∧v.oneCell'=true∧∀r,x.r=some r->∃f fst cap,v=.func (.func f) fst cap∧bD P f∧∀cE W',Ext A W cE W'->(∀k∈cE,k<W'.heap.size)->
  Calls P f (fst++cap) W' λe tA=> ∃v,e=.returned v∧Fr [] W' tA∧(J.of r).holds cE tA v
 len h:=by obtain⟨v,rfl,_⟩:=h;rfl
 one h:=by
  obtain⟨v,rfl,h,_⟩:=h;intro u hu;rw[gX.1 hu];exact h
 flat _:=rfl
 mono e h:=let⟨v,h1,ad,ay⟩:=h
  ⟨v,h1,ad,λr aD=>let⟨f,fst,cap,aR,aX,bh⟩:=ay r aD; ⟨f,fst,cap,aR,aX,λcE W' e'=>bh cE W' (e.trans e')⟩⟩
instance{P:Program}{α:Type}[ah α]:aT (kQ P α):=⟨[.nilFunc],λ_ _=>⟨_,rfl,rfl,λr h=>by cases h⟩⟩
section
variable{c:cj}{E:aa (Nat×J)}{L:aa aE}{d:aw Tmp}{ty:bx}{pos:String}{af:Array Edge}{g:aw (Nat×Bool)}
def uC{α:Type}[ah α]{F:aw α}{f:FuncId}{xs:aa bZ}{τs:aa J}(cf:bD c.P f)(al:ic c E L xs τs)(h:∀r,F=some r->cm c.P f τs (.of r)):
 bc c E L ⟨d,.makeFunc (.func f) #[] xs.toArray,ty,pos,af,g⟩ (.of (⟨F⟩:kQ c.P α)):=.pure λa W s=>by
 refine⟨.func (.func f) #[] (xs.map a.eval).toArray,by simp[execOp,Instr.makeFunc],rfl,_,rfl,rfl,λr aD=>⟨f,#[],_,rfl,cf,λcE W' e ev=>?_⟩⟩
 have:=h r aD cE W' (xs.map a.eval) ev ((al.holds a W s).mono e)
 simpa using this
def WU{α:Type}[ah α]{ab9:kQ c.P α}{ll:bZ}{ats:Array bx}{r:α}(aY:aP c E L ll (.of ab9))(h:ab9.r=some r):
 bc c E L ⟨d,.call ⟨.value ll,#[],ats⟩,ty,pos,af,g⟩ (.of r):=λa W s=>by
 obtain⟨h1,v,ad,ay,aR⟩:=aY a W s
 obtain⟨f,fst,cap,aX,cf,bh⟩:=aR r h
 have ba:a.eval ll=v:=ov h1 ad
 refine .vE (f:=f) (args:=fst++cap) (W':=W) ?_ (bh _ W (Ext.refl _ _) s.FV)
 simp[execOp,resolve,Deferred.ofValue,ba,aX,invoke,cf.run]
def z7{x y:bZ}{t t2:bx}{u v:ByteArray}(hu:c.P.underlying t=some .string)(al:aP c E L x (.of u))(hy:aP c E L y (.of v)):bc c E L ⟨d,.binOp .eql t x y t2,ty,pos,af,g⟩ (.of (u.data.toList==v.data.toList)):=.pure λa W s=>by
 have h1:a.eval x=.string u:=KJ.1 (al a W s);have ad:a.eval y=.string v:=KJ.1 (hy a W s);exact⟨.bool (u.data.toList==v.data.toList),by simp[execOp,eqGuard,binOp,h1,ad,Op.stringOp,ByteArray.toList_eq],of_bool.2 I⟩
end
def yx(f:FuncId)(us:aa bl):Deferred:= {target:=.fn (.func f) us.toArray,args:= #[]}
section
variable{c:cj}{E:aa (Nat×J)}{L:aa aE}{ops:Array Oper}{Q:Exit->Act->bf->Prop}{d:aw Tmp}{ty:bx}{pos:String}{af:Array Edge}
def ae.defer{rest:aa Oper}{ll:bZ}{ats:Array bx}{f:FuncId}{us:aa bl}(ak:c.rd=Option.none)(aY:aP c E L ll (.of (⟨f,Option.some us⟩:Raw)))
 (k:ae {c with ds:=yx f us::c.ds} ops Q rest E L):ae c ops Q (⟨Option.none,.defer ⟨.value ll,#[],ats⟩,ty,pos,af,Option.none⟩::rest) E L:=λa W s=>by
 have h1:a.eval ll=.func (.func f) #[] us.toArray:=Qh.1 (aY a W s)
 refine wpListIn_plain I λK qX=>⟨λ_ _=>trivial,?_⟩
 have aD:((⟨Option.none,.defer ⟨.value ll,#[],ats⟩,ty,pos,af,Option.none⟩:Oper).semAt c.F.round a.eval).run c.P W=.ok (.defer (yx f us)) W:=by
  show((⟨Option.none,.defer ⟨.value ll,#[],ats⟩,ty,pos,af,Option.none⟩:Oper).semAt c.rd a.eval).run c.P W=_;rw[ak,Oper.semAt_none];simp[execOp,resolve,Deferred.ofValue,h1,yx]
 rw[aD,Oper.uponIn_defer]
 refine qX _ _ (k _ _ ?_)
 exact {defers:=by show yx f us::a.defers=yx f us::c.ds;rw[s.defers],size:=s.size,env:=s.env,dk:=s.dk,own:=s.own,nodup:=s.nodup,lt:=s.lt,fR:=s.fR,er:=s.er}
end
def Cr(P:Program)(f:FuncId)(τs:aa J)(Lin:aa aE){δ:Type}(Lo:δ->aa aE):Prop:=
 ∀ (A:aa Nat) (W:bf) (vs:aa bl),(∀k∈A,k<W.heap.size∧k∉ks Lin)->(ks Lin).Nodup->(∀k∈ks Lin,k<W.heap.size)->(∀e∈Lin,e.ok (ks Lin++A) W)->gG (ks Lin++A) W τs vs->
   ∀u,CallsDIn Fence.wide 8 P f vs.toArray u W λe aca W'=>aca=u∧kA (ks Lin) A W (λ_:δ=>J.bY []) Lo e W'
def Cr.of{P:Program}{f:FuncId}{fn:Func}{code:Code}{n:Nat}{τs:aa J}{Lin:aa aE}{δ:Type}{Lo:δ->aa aE}(aY:P.funcs[f]? =some fn)(hb:fn.body=some code)(aI:fn.ntmps=n)(hlen:Nat.ble τs.length n=true)
 (h:∀W A,az ⟨P,n,W,ks Lin,A,none,[]⟩ (bodyPost P fn (kA (ks Lin) A W (λ_:δ=>J.bY []) Lo)) code (params 0 τs) Lin):Cr P f τs Lin Lo:=by
 intro A W vs ev ij b9 hJ ba u
 refine callsDIn_of_wp aY hb r1 (wpIn_wide.2 (wpIn_wide.1 (h W A _ _ ?_)))
 have ao:=ba.length
 have hle:τs.length<=n:=oO hlen
 exact
 {defers:=rfl
  size:=by simp[aI,ao];omega
  env:=λt τ kN=>by
   obtain⟨_,v,ad,ay⟩:=zu ba 0 t τ kN;refine⟨v,?_,ay⟩;have b9:t<vs.length:=(fL.1 ad).1;rw[ve (by simpa using b9)];simpa using ad
  dk:=.refl _ _
  own:=hJ
  nodup:=ij
  lt:=b9
  fR:=λk hk _=>hk
  er:=ev}
def ar.apf{c:cj}{E:aa (Nat×J)}{fn:Func}{R:Ending->bf->Prop}{f:FuncId}{us:aa bl}{τs:aa J}{Lin Lr:aa aE}{δ:Type}{Lo:δ->aa aE}(dZ:c.ds=[yx f us])(cf:bD c.P f)
 (h:Cr c.P f τs Lin Lo) (al:∀A W,gG A W τs us) (k:∀q,ar {c with ds:=[]} (bodyPost c.P fn R) .ret E (Lo q++Lr)):ar c (bodyPostM Fence.wide 9 c.P fn R) .ret E (Lin++Lr):=λa W s=>by
 have lB:=s.nodup
 rw[eg]at lB
 obtain⟨nF,sr,p2⟩:=nd.1 lB
 have hF:Ext (ks (Lin++Lr)++c.bP) W (ks Lin++(ks Lr++c.bP)) W:=.drop λk hm=>by
  rw[eg];simp only[ca]at hm⊢;rcases hm with hm|hm|hm
  ·exact .inl (.inl hm)
  ·exact .inl (.inr hm)
  exact .inr hm
 have ev:∀k∈ks Lr++c.bP,k<W.heap.size∧k∉ks Lin:=λk hm=>by
  rcases ca.1 hm with hm|hm
  ·exact⟨s.lt k (by rw[eg];exact ca.2 (.inr hm)),λh=>p2 k h k hm I⟩
  obtain⟨h1,ad⟩:=s.er k hm;exact⟨h1,λh=>ad (by rw[eg];exact ca.2 (.inl h))⟩
 have b9:∀k∈ks Lin,k<W.heap.size:=λk hm=>s.lt k (by rw[eg];exact ca.2 (.inl hm))
 show LeavesInM Fence.wide 9 c.P fn a.tmps R a.defers .returning W
 rw[s.defers,dZ]
 refine⟨by simp,.inr ⟨(λh=>by cases h),Fn.func f,us.toArray,f,us.toArray,rfl,?_,λ_ _=>trivial,?_⟩⟩
 ·simp[yx,invoke,cf.run]
 refine(h (ks Lr++c.bP) W us ev nF b9 (λe he=>aE.um (s.own e (ca.2 (.inl he))) hF λ_ _=>rfl) (al _ _) .returning).mono λe aca W' ⟨hu,v,q,he,aY,h1,ad,ay,aR⟩=>?_
 subst he hu
 have s2:=s.after aY h1 ad ay
 have dD:bG {c with ds:=[]} E (Lo q++Lr) {a with defers:=[]} W':=
  {defers:=rfl,size:=s2.size,env:=s2.env,dk:=s2.dk,own:=s2.own,nodup:=s2.nodup,lt:=s2.lt,fR:=s2.fR,er:=s2.er}
 obtain⟨_,DH,aX,bh⟩:=k q _ _ dD
 exact⟨DH,aX,bh⟩
def ar.CG{c:cj}{E:aa (Nat×J)}{L:aa aE}{fn:Func}{R:Ending->bf->Prop}{bC:Type}[dN bC]{hp:aH bC}{f:FuncId}{us:aa bl}{Lin Lr:aa aE}{δ:Type}{Lo:δ->aa aE}{hq:δ->aH bC}(n m:Nat)(av:L.drop n=a6 hp)(dZ:c.ds=[yx f us])(cf:bD c.P f)
 (h:Cr c.P f (us.map J.eq) (Lin++a6 hp) (λd=>Lo d++a6 (hq d))) (h1:(L.take n).take m=Lin) (ad:(L.take n).drop m=Lr) (k:∀q,ar {c with ds:=[]} (bodyPost c.P fn R) .ret E ((Lo q++Lr)++a6 (hq q))):ar c (bodyPostM Fence.wide 9 c.P fn R) .ret E L:=by
 have e:L=(Lin++Lr)++a6 hp:=by rw[<-h1,<-ad,gb,<-av,gb]
 subst e
 have bE:ar c (bodyPostM Fence.wide 9 c.P fn R) .ret E ((Lin++a6 hp)++Lr):=ar.apf dZ cf h (λ_ _=>.Q0) λq=>λa W s=>k q a W (s.perm mG.symm)
 exact λa W s=>bE a W (s.perm mG)
instance:Inhabited eu:=⟨⟨.slice none 0 0⟩⟩
def PA{c:cj}{E:aa (Nat×J)}{L:aa aE}{x:bZ}{u:bl}(h:aP c E L x (.of (⟨u⟩:eu))):aP c E L x (.eq u):=λa W s=>(xO.1 (h a W s)).1
def ahE{c:cj}{E:aa (Nat×J)}{L:aa aE}{x:bZ}{u:bl}(h:aP c E L x (.eq u))(aU:u.oneCell'=true):aP c E L x (.of (⟨u⟩:eu)):=λa W s=>xO.2 ⟨h a W s,aU⟩
def ae.Gp{c:cj}{E:aa (Nat×J)}{L:aa aE}{ops:Array Oper}{Q:Exit->Act->bf->Prop}{ty:bx}{pos:String}{af:Array Edge}{x:bZ}{rest:aa Oper}{a1:Nat}{name:String}{ats:Array bx}{τ ρ:J}(h:mJ c.P name τ [] [] (λ_:Unit=>ρ) (λ_=>[]))
 (al:aP c E L x τ) (aI:Nat.blt a1 c.n=true) (k:ae c ops Q rest ((a1,ρ)::E) L):ae c ops Q (⟨some a1,.call ⟨.invoke x name,#[],ats⟩,ty,pos,af,none⟩::rest) E L:=λa W s=>
 iw I (Pn (xs:=[]) (Lin:=[]) (Lr:=L) h s (.cons (al a W s) .nil)) λv W' ⟨_,b0,ba⟩=>k _ _ (b0.put (by simpa using aI) ba)
structure Dj(cp oM:dr):Prop where
 h:∀A W o,cp.holds A W o->oM.holds A W o
 n:cp.nX->oM.nX
def Dj.id{cp:dr}:Dj cp cp:=⟨λ_ _ _ h=>h,λh=>h⟩
def Dj.take{T cap n:Nat}{α:Type}[ah α]{xs:aa α}(aI:n<=xs.length):Dj (.row T xs cap) (.row T (xs.take n) cap):=⟨λ_ _ _ h=>FC aI h,λ⟨h1,ad⟩=>⟨by rw[h1];simp,ad⟩⟩
section
variable{c:cj}{E:aa (Nat×J)}{L:aa aE}
def bc.GZ{o:Oper}{τ:J}{key:aw Nat}{cp oM:dr}(i:Nat)(h:Dj cp oM)(av:L[i]? =some ⟨key,cp⟩)(k:bc c E (L.set i ⟨key,oM⟩) o τ):bc c E L o τ:=λa W s=>by
 have h1:=k a W (s.again av h.h h.n);have e:ks (L.set i ⟨key,oM⟩)=ks L:=zU (e:=⟨key,cp⟩) (cp:=oM) av;rw[e]at h1;exact h1
def ahV{t:Nat}{key:aw Nat}{n cap sz:Nat}{α:Type}{xs:aa α}(h:look E t=some (.eq (hE key 0 (n-0) cap sz)))(aI:n<=xs.length):aP c E L (.tmp t) (.eq (aO key (xs.take n).length cap)):=by
 have e:(xs.take n).length=n:=by rw[fy];omega
 rw[e,<-zy (size:=sz)];exact ag h
end
theorem bK.i{P:Program}{t:bx}{α:Type}[ah α]{d:TypeDesc}(hu:P.underlying t=some d)(a7:(match (motive:=TypeDesc->Bool) d with | .struct _| .array _ _=>true|_=>false)=ah.agg α:=by rfl)(hs:(P.info? t).map (·.size)=some (ah.size α):=by kernel_rfl):bK P t α:=bK.of a7 hu hs
theorem c4.i{P:Program}{t:bx}{α:Type}[ah α][Inhabited α][aT α](h:(P.info? t).bind (·.zero)=some (LF α):=by kernel_rfl):c4 P t (default:α):=c4.of h
theorem b3.i{P:Program}{s f:Nat}{β γ:Type}[ah β][ah γ]{l:aN β γ}{fs:Array Field}{fd:Field}(hu:P.underlying s=some (.struct fs))(aY:fs[f]? =some fd)(dQ:bK P fd.type γ)(aU:fd.offset=l.off:=by rfl)(hs:Nat.beq (ah.size γ) 0=false:=by rfl):b3 P s f l:=⟨wx.of hu aY aU dQ hs⟩
def bD.i{P:Program}{f:FuncId}{fn:Func}(h:P.funcs[f]? =some fn)(ad:fn.body.isNone=false:=by rfl)(ay:(fn.name== "runtime.NumGoroutine")=false:=by kernel_rfl):bD P f:=⟨fn,h,ad,ay⟩
theorem fw.i{P:Program}{t:bx}{pl:Array (Nat×Nat)}{fs:Array Field}(h:P.underlying t=some (.struct fs))(ad:fs.all (λf=>(P.info? f.type).isSome)=true:=by kernel_rfl)(ay:(fs.map λf=>(f.offset,P.cellsOf f.type))=pl:=by kernel_rfl):fw P t pl:=⟨fs,h,ad,ay⟩
end Gv
