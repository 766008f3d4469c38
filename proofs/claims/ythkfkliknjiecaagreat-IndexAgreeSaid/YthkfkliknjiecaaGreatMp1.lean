/-
  What the programs compute, in plain Lean. Conditions: none.
-/
import Derived.Test.YthkfkliknjiecaaGreatMp0
set_option linter.unusedVariables false
set_option linter.unusedSimpArgs false
set_option maxRecDepth 100000
namespace Go.Proofs.YthkfkliknjiecaaGreat
open Go Gv
def fN (l:List aA) (e:b1):List aA:=l.filter fun c=> !fg c.bd e
theorem jL {l:List aA} {e:b1} {c:aA} :c∈fN l e↔c∈l∧fg c.bd e=false:=by
 unfold fN; rw [List.mem_filter]; simp
theorem h0.fN {s:a2} {k:Nat} {l:List aA} (h:h0 s k l) (e:b1):h0 s k (Go.Proofs.YthkfkliknjiecaaGreat.fN l e):=
 ⟨h.ok.filter _,h.key.sublist List.filter_sublist⟩
theorem CX {s:a2} {k:Nat} {l:List aA} (h:h0 s k l) {e:b1} {i:aA} (ao:i∈l) (ar:fg i.bd e=true):fN l e=l.filter fun c=>c.bt !=i.bt:=by
 unfold fN
 refine List.filter_congr fun c ag=> ?_
 by_cases az:c=i
 ·rw [az,ar]; simp
 ·have J:fg c.bd e=false:=by
   rw [Bool.eq_false_iff]; intro aa
   exact az (h.uniq ag ao (xo aa (by rw [tz]; exact ar)))
  have aa:c.bt≠i.bt:=fun aa=>az (h.ok.uniq ag ao aa)
  rw [J]; simp [aa]
theorem YB {s:a2} (h:dH s) {hp:aH Cell} {q:Nat} {l:List aA} {own:Nat→Prop} (hq:vo s hp q l own) (an:h0 s 0 l) {i:aA} (ao:i∈l):
 br (yH hp ⟨some q⟩ i) (fun hp'=>vo s hp' q (fN l i.bd) own∧cw hp hp' own):=by
 obtain⟨m,em,J,aa,av,aO,aS,gM⟩:=hq.ok
 have fO:=(an.ok.ok i ao).dA
 have bg:cK em (cQ i.bd)=some i.bt:=(aS _ _).2 ⟨i,ao,rfl,rfl⟩
 unfold yH Cb tb
 refine .eq (zC (fO.Ef h (by decide)).1) ?_
 refine .eq (a:=(true,ch hp m (Cell.nU (gW em (cQ i.bd))))) ?_ (.ret ?_)
 ·show((mF hp q).bind _).bind _=_
  rw [J]
  show((ly hp m).bind _).bind _=_
  rw [aa]
  show cond (!(cK em (cQ i.bd)).isSome) _ _=_
  rw [bg]
  show(mF hp q).bind _=_
  rw [J]
  show(ly hp m).bind _=_
  rw [aa]; rfl
 have wO:q≠m:=fun e=>by
  subst e
  have:=tA J
  rw [qF aa] at this; cases this
 refine⟨⟨m,_,by rw [FG (jK wO.symm)]; exact J,LN (qF aa),av,aO,fun bu n=> ?_,gM.del⟩,.up aO⟩
 rw [tq gM]
 by_cases dZ:bu=cQ i.bd
 ·rw [if_pos dZ]
  refine⟨fun e=>(by cases e),fun⟨c,ag,aY,b7⟩=> ?_⟩
  obtain⟨ax,a5⟩:=jL.1 ag
  rw [(yk h (an.ok.ok c ax).dA fO).2 (aY.trans dZ)] at a5; cases a5
 ·rw [if_neg dZ,aS]
  constructor
  ·rintro ⟨c,ag,aY,b7⟩
   refine⟨c,jL.2 ⟨ag,?_⟩,aY,b7⟩
   rw [Bool.eq_false_iff]; intro dV
   exact dZ (by rw [← aY]; exact(yk h (an.ok.ok c ag).dA fO).1 dV)
  ·rintro ⟨c,ag,aY⟩
   exact⟨c,(jL.1 ag).1,aY⟩
theorem YC {s:a2} (h:dH s) {hp:aH Cell} {m:Nat} {l:List aA} {own:Nat→Prop} (hq:lW s hp m l own) (an:h0 s 1 l) {i:aA} (ao:i∈l):
 br (uE hp ⟨0,32,⟨some m⟩⟩ i) (fun hp'=>lW s hp' m (fN l i.bd) own∧cw hp hp' own):=by
 obtain⟨em,gO,aa,av,aO,aS,gM⟩:=hq.ok
 have fO:=(an.ok.ok i ao).dA
 have fi:=ue h fO
 have bl:∃ t,cK em (dm (cQ i.bd))=some (some t):=by
  cases bg:cK em (dm (cQ i.bd)) with
  | none=>exact absurd rfl (aO _ bg i ao)
  | some r=>obtain⟨t,g,rfl,_⟩:=av _ _ bg; exact⟨t,rfl⟩
 obtain⟨t,bl⟩:=bl
 obtain⟨cI,g,e,ax,a5,bH⟩:=av _ _ bl
 cases e
 obtain⟨n,aF⟩:=Int.eq_ofNat_of_zero_le fi.pre.1
 have pU:n≤32:=by have:=fi.pre.2; omega
 have l1:=Gh fi
 have hp':dd (aJ i.bd.cd 0).cL n=jk i.bd:=by unfold jk; rw [aF]; rfl
 have Je:g (jk i.bd)=some i.bt:=(bH _ _).2 ⟨i,ao,rfl,rfl,rfl⟩
 have Bz:∀ c∈l,dm (cQ c.bd)=dm (cQ i.bd)→ (fg c.bd i.bd=false↔jk c.bd≠jk i.bd):=fun c ag ai=>by
  rw [Bool.eq_false_iff,ne_eq,yl h (an.ok.ok c ag).dA fO]
  exact⟨fun J aa=>J ⟨ai,aa⟩,fun J aa=>J aa.2⟩
 have lI:∀ c∈l,dm (cQ c.bd)≠dm (cQ i.bd)→fg c.bd i.bd=false:=fun c ag ai=>by
  rw [Bool.eq_false_iff,ne_eq,yl h (an.ok.ok c ag).dA fO]
  exact fun J=>ai J.1
 unfold uE
 refine .eq (GH h fO _) (.eq rfl (.eq gO (.eq rfl ?_)))
 simp only [bl]
 rw [aF] at l1 ⊢
 refine(show br (rq hp (some t) (aJ i.bd.cd 0).cL (n:Int)) _ from SC ax pU l1 (by rw [hp']; exact Je)).bind fun aQ aD=> ?_
 obtain⟨_,e1,ea,kH⟩:=aD
 rw [hp'] at e1
 obtain⟨Z4,bI⟩:=aQ
 simp only at e1 ea kH ⊢
 have rb:∀ q,Own hp t q→q≠m:=fun q wP e=>by
  have:=iR gO
  rw [← e] at this
  rcases ax.rW wP with⟨c,ag⟩ | ⟨c,ag⟩ <;> rw [ag] at this <;> cases this
 have hj:pat bI m=pat hp m:=ea.rest m (gS (iR gO)) fun hq=>rb m hq rfl
 have v7:g6 bI m=some em:=by rw [tm hj]; exact gO
 have pV:∀ aE ny,(if aE=jk i.bd then none else g aE)=some ny↔ ∃ c∈fN l i.bd,dm (cQ c.bd)=dm (cQ i.bd)∧jk c.bd=aE∧c.bt=ny:=fun aE ny=>by
  by_cases gA:aE=jk i.bd
  ·rw [if_pos gA]
   refine⟨fun e=>(by cases e),fun⟨c,ag,aY,b7,_⟩=> ?_⟩
   obtain⟨cq,cF⟩:=jL.1 ag
   exact absurd (b7.trans gA) ((Bz c cq aY).1 cF)
  ·rw [if_neg gA,bH]
   constructor
   ·rintro ⟨c,ag,aY,b7,dV⟩
    exact⟨c,jL.2 ⟨ag,(Bz c ag aY).2 fun e=>gA (b7.symm.trans e)⟩,aY,b7,dV⟩
   ·rintro ⟨c,ag,aY⟩
    exact⟨c,(jL.1 ag).1,aY⟩
 have ks:∀ bu cI,bu≠dm (cQ i.bd)→cK em bu=some (some cI)→ ∃ de,iF hp cI de∧iF bI cI de∧ (∀ q,Own hp cI q→own q)∧ (∀ q,Own bI cI q↔Own hp cI q)∧ ∀ aE n,de aE=some n↔ ∃ c∈fN l i.bd,dm (cQ c.bd)=bu∧jk c.bd=aE∧c.bt=n:=fun bu cI cN aD=>by
  obtain⟨Jb,de,e,cq,cF,eM⟩:=av bu _ aD
  cases e
  obtain⟨c4,dq⟩:=cq.congr (hp':=bI) fun q hq=>ea.rest q (cq.nb hq) fun gN=>aS _ _ _ _ bl aD cN.symm q gN hq
  refine⟨de,cq,c4,cF,dq,fun aE n=> ?_⟩
  rw [eM]
  constructor
  ·rintro ⟨c,ag,aY,b7⟩
   exact⟨c,jL.2 ⟨ag,lI c ag (by rw [aY]; exact cN)⟩,aY,b7⟩
  ·rintro ⟨c,ag,aY⟩
   exact⟨c,(jL.1 ag).1,aY⟩
 have dj:cw hp bI own:=⟨ea.keys,fun q hq dN=>ea.rest q hq fun gN=>dN (a5 q gN)⟩
 have ck:lW s bI m (fN l i.bd) own:=by
  refine⟨em,v7,aa,fun bu jr eP=> ?_,fun bu dZ c ag=>aO bu dZ c (jL.1 ag).1,fun bu fj t1 t2 eY fq cN q fp iy=> ?_,gM⟩
  ·by_cases dZ:bu=dm (cQ i.bd)
   ·subst dZ
    rw [bl] at eP; cases eP
    exact⟨t,_,rfl,e1,fun q hq=>a5 q (kH q hq),pV⟩
   ·obtain⟨cI,de,e,_⟩:=av bu jr eP
    subst e
    obtain⟨nx,cq,cF,eM,gI,lu⟩:=ks bu cI dZ eP
    exact⟨cI,nx,rfl,cF,fun q hq=>eM q ((gI q).1 hq),lu⟩
  ·have dQ:∀ bu t1,cK em bu=some (some t1)→ ∀ q,Own bI t1 q→Own hp t1 q:=fun bu t1 eY q fp=>by
    by_cases az:bu=dm (cQ i.bd)
    ·subst az
     rw [bl] at eY; cases eY
     exact kH q fp
    ·obtain⟨_,_,_,_,gI,_⟩:=ks bu t1 az eY
     exact(gI q).1 fp
   exact aS _ _ _ _ eY fq cN q (dQ bu t1 eY q fp) (dQ fj t2 fq q iy)
 refine .eq v7 (.eq rfl ?_)
 simp only [bl]
 refine(show br (rz bI (some t)) _ from UT e1 (fun aE cs id J aa=> ?_) (l.map (·.bt)) (fun aE id J=> ?_) (by rw [List.length_map]; have:=an.ok.len; omega)).bind fun bm aY=> ?_
 ·obtain⟨c,ag,_,c4,dq⟩:=(pV _ _).1 J
  obtain⟨d,hd,_,d1,d2⟩:=(pV _ _).1 aa
  have:=an.ok.uniq (jL.1 ag).1 (jL.1 hd).1 (dq.trans d2.symm)
  rw [← c4,← d1,this]
 ·obtain⟨c,ag,_,c4,dq⟩:=(pV _ _).1 J
  exact List.mem_map.2 ⟨c,(jL.1 ag).1,dq⟩
 refine .bind (P:=fun hp'=>lW s hp' m (fN l i.bd) own∧cw hp hp' own) (.cond (fun dc=> .eq rfl (.ret ?_)) fun _=> .ret ⟨ck,dj⟩) fun bq cn=> .ret cn
 have aY:=aY (by simpa using dc)
 have sf:=iR v7
 have v8:∀ cI de,iF bI cI de→iF (ch bI m (Cell.iT (gW em (dm (cQ i.bd))))) cI de∧ ∀ q,Own (ch bI m (Cell.iT (gW em (dm (cQ i.bd))))) cI q↔Own bI cI q:=fun cI de nw=>nw.congr fun q jl=>jK fun e=>by
  rw [e] at sf
  rcases nw.rW jl with⟨c,ag⟩ | ⟨c,ag⟩ <;> rw [ag] at sf <;> cases sf
 refine⟨⟨_,CV sf,aa,fun bu jr eP=> ?_,fun bu dZ c ag=> ?_,fun bu fj t1 t2 eY fq cN q fp iy=> ?_,gM.del⟩,dj.trans (cw.up aa) fun q _ hq=>hq⟩
 ·rw [tq gM] at eP
  split at eP
  ·cases eP
  ·rename_i dZ
   obtain⟨cI,de,e,_⟩:=av bu jr eP
   subst e
   obtain⟨nx,cq,cF,eM,gI,lu⟩:=ks bu cI dZ eP
   obtain⟨c4,dq⟩:=v8 cI nx cF
   exact⟨cI,nx,rfl,c4,fun q hq=>eM q ((gI q).1 ((dq q).1 hq)),lu⟩
 ·rw [tq gM] at dZ
  split at dZ
  ·rename_i e
   intro ai
   have:=(pV _ _).2 ⟨c,ag,ai.trans e,rfl,rfl⟩
   rw [aY] at this; cases this
  ·exact aO bu dZ c (jL.1 ag).1
 ·rw [tq gM] at eY fq
  split at eY
  ·cases eY
  split at fq
  ·cases fq
  rename_i az aX
  obtain⟨I7,cq,cF,eM,gI,_⟩:=ks bu t1 az eY
  obtain⟨I8,c4,dq,hn,w2,_⟩:=ks fj t2 aX fq
  exact aS _ _ _ _ eY fq cN q ((gI q).1 (((v8 t1 _ cF).2 q).1 fp)) ((w2 q).1 (((v8 t2 _ dq).2 q).1 iy))
theorem srem {s:a2} {k:Nat} {hp:aH Cell} {q:Nat} {l:List aA} {own:Nat→Prop} (hq:vp s k hp q l own) (an:h0 s k l) {i:aA} (ao:i∈l):
 cT (uJ hp ⟨some q⟩ i) (fun hp'=>vp s k hp' q (fN l i.bd) own∧cw hp hp' own):=by
 obtain⟨key,cap,J,aa⟩:=hq.ok
 unfold uJ
 refine .eq rfl (.eq J (.eq (SF an.ok _) (.any fun aN=> .eq rfl (.ret ?_))))
 rw [CX an ao (Dk _)]
 exact⟨⟨aN.1,aN.2,CW (pa J),aa⟩,.up aa⟩
theorem YD {s:a2} (h:dH s) {k:Nat} {hp:aH Cell} {f:ft} {l:List aA} {own:Nat→Prop} (hq:pe s k hp f l own) (an:h0 s k l) {i:aA} (ao:i∈l):
 cT (B4 hp f i) (fun hp'=>pe s k hp' f (fN l i.bd) own∧cw hp hp' own):=by
 rcases hq with⟨rfl,q,rfl,hq⟩ | ⟨rfl,m,rfl,hq⟩ | ⟨dj,q,rfl,hq⟩
 ·exact cT.of ((YB h hq an ao).mono fun hp' aD=>⟨.inl ⟨rfl,q,rfl,aD.1⟩,aD.2⟩)
 ·exact cT.of ((YC h hq an ao).mono fun hp' aD=>⟨.inr (.inl ⟨rfl,m,rfl,aD.1⟩),aD.2⟩)
 ·exact(srem hq an ao).mono fun hp' aD=>⟨.inr (.inr ⟨dj,q,rfl,aD.1⟩),aD.2⟩
theorem FH {α β:Type} [DecidableEq α]:∀ {l:List (α × β)} {x:α},mu l→gW l x=l.filter fun a=>decide (a.1≠x)
 | [],_,_=>rfl
 | (k,w) :: r,x,h=>by
   obtain⟨J,aa⟩:=List.pairwise_cons.1 h
   unfold gW
   by_cases e:x=k
   ·rw [if_pos e,List.filter_cons_of_neg (by simp [e])]
    exact(List.filter_eq_self.2 fun a a9=>by simpa using fun e'=>J a a9 (by rw [← e,e'])).symm
   ·rw [if_neg e,List.filter_cons_of_pos (by simpa using fun e'=>e e'.symm),FH aa]
theorem lC.EU {s:a2} {k:Nat} {em:List (Int × aA)} {l:List aA} (h:lC em l) (an:jV s k l):mu em:=by
 refine(h.pairwise_iff fun bS=>Ne.symm bS).2 ?_
 rw [List.pairwise_map]
 exact an.num.imp fun bS=>bS
theorem SG {s:a2} (h:dH s) {k:Nat} (ar:k < 4) {hp:aH Cell} {p:Nat} {l:List aA} {own:Nat→Prop} (ai:kS s k hp p l own) {e:b1} (he:jz s k e):
 cT (rl hp (some p) e) (fun r=>(r.1,r.2.1)=ml (dE l e)∧kS s k r.2.2 p (fN l e) own∧cw hp r.2.2 own):=by
 obtain⟨f,m,em,J,aa,av,aO,aS,aY⟩:=ai.cell
 have hm:=pD aa
 have hp':=kp J
 have hj:p≠m:=fun e=>by rw [e,hm] at hp'; cases hp'
 unfold rl
 refine .eq (TY h ar ai he) ?_
 refine .bind (P:=fun bq=>kS s k bq p (fN l e) own∧cw hp bq own) (.cond (fun ag=> ?_) fun ag=> .ret ?_) fun bq cn=> .ret ⟨rfl,cn⟩
 ·cases aV:dE l e with
  | none=>rw [aV] at ag; cases ag
  | some i=>
    obtain⟨ao,jC⟩:=mB aV
    have Jf:fN l i.bd=fN l e:=by
     rw [CX ai.ha ao (Dk _),CX ai.ha ao jC]
    refine .eq rfl (.eq J (.bind (YD h aY ai.ha ao) fun bI aD=> ?_))
    obtain⟨e1,ea⟩:=aD
    have e1:pe s k bI f (fN l i.bd) (fun q=>own q∧q≠m∧q≠p):=e1
    rw [Jf] at e1
    show cT (au.bind (au.of (fF bI p)) fun b5=>au.bind (au.of b5.j2.p) fun bU=>au.bind (au.of (iH bI bU)) fun eo=>au.bind (au.of (some (ch bI bU (Cell.hE (gW eo i.bt))))) fun b9=>au.ret b9) _
    have cq:pat bI p=some (.lf ⟨km k,(gV s k:Int),f,⟨some m⟩⟩):=by rw [ea.rest p (gS hp') (fun hq=>hq.2.2 rfl)]; exact hp'
    have cF:pat bI m=some (.hE em):=by rw [ea.rest m (gS hm) (fun hq=>hq.2.1 rfl)]; exact hm
    refine .eq (by unfold fF; rw [cq]) (.eq rfl (.eq (by unfold iH; rw [cF]) (.eq rfl (.ret ?_))))
    have Jg:cw hp bI own:=⟨ea.keys,fun q hq dN=>ea.rest q hq fun h=>dN h.1⟩
    have mT:cw hp (ch bI m (Cell.hE (gW em i.bt))) own:=Jg.trans (cw.up (own:=own) aO) fun q _ hq=>hq
    refine⟨⟨ai.ha.fN e,⟨f,m,_,by unfold fF; rw [jK hj.symm,cq],LO cF,av,aO,?_,e1.congr (fun q _ hq=>hq) fun q hq=>jK hq.2.1.symm⟩,fun q hq=>mT.keys q (ai.mW q hq)⟩,mT⟩
    unfold lC
    rw [FH (aS.EU ai.ha.ok),CX ai.ha ao jC]
    refine(aS.filter _).trans ?_
    rw [List.filter_map]
    have:((fun a:Int × aA=>decide (a.1≠i.bt)) ∘ fun c:aA=>(c.bt,c))=fun c=>c.bt !=i.bt:=by
     funext c
     show decide (c.bt≠i.bt)=_
     by_cases e:c.bt=i.bt <;> simp [e]
    rw [this]
 ·have aV:dE l e=none:=by
   cases aV:dE l e with
   | none=>rfl
   | some i=>rw [aV] at ag; cases ag
  have:fN l e=l:=by
   unfold fN
   exact List.filter_eq_self.2 fun c ag=>by rw [m8 aV c ag]; rfl
  rw [this]
  exact⟨ai,.refl⟩
theorem Ll {α:Type} {m:Option α} {d:α} (h:m.isSome=true):m=some (m.getD d):=by cases m with | none=>cases h | some _=>rfl
def EN:b0:=(ti ([]:List (BitVec 8)) 0).getD default
theorem MV:ti ([]:List (BitVec 8)) 0=some EN:=Ll (by kernel_rfl)
def Jh:a2 × b0:=(s5 EN).getD default
theorem MW:s5 EN=some Jh:=Ll (by kernel_rfl)
def qf:a2:=Jh.1
theorem rX:dH qf:=((KQ EN ((Mc [] 0 (by decide) (by decide)).of_eq MV)).of_eq MW).1
def Eg (aR:Nat):cJ:= { b6:=ByteArray.mk #[97],gf:=4,du:=(aR:Int) }
def g3 (aR:Nat):a2:= { qf with cA:=gv qf.cA 0 ({ (aJ qf.cA 0) with cj:= [Eg aR] } :bx) }
theorem Z5:g3 1=qf:=by decide +kernel
def jt (w:Nat):aw:= { (default:aw) with cv:=BitVec.ofNat 64 w }
def E4 (aR w:Nat):c5:=
 aJ [({ (default:c5) with ho:=true,cL:=jt w } :c5),({ (default:c5) with ho:=true,cL:=jt w,fk:=4 } :c5),
  ({ (default:c5) with ho:=true,cL:=jt w,iP:=({ (default:aw) with cv:=15#64 } :aw) } :c5),({ (default:c5) with ho:=true,cL:=jt w,lV:=jt w } :c5)] (aR - 1)
def dX (aR w:Nat):b1:= { (default:b1) with et:=1,cd:= [E4 aR w],m6:=1,jv:=if 3≤aR then 3 else 0 }
def hN (aR:Nat) (x:Nat × Int):aA:= { (default:aA) with bd:=dX aR x.1,bt:=x.2 }
def h1 (v:Nat):Vector aw 4:=fW (default:Vector aw 4) 0 (jt v)
def k5 (aR:Nat):Prop:=aR=2∨aR=3∨aR=4
theorem EO {aR:Nat} {w jZ:Nat} (ar:aR=1∨k5 aR) (h:w < 16) (cS:jZ < 16):fg (dX aR w) (dX aR jZ)=decide (w=jZ):=by
 have key:∀ k:Fin 5,k.1≠0→ ∀ a b:Fin 16,fg (dX k.1 a.1) (dX k.1 b.1)=decide (a.1=b.1):=by decide +kernel
 exact key ⟨aR,by unfold k5 at ar; omega⟩ (by show aR≠0; unfold k5 at ar; omega) ⟨w,h⟩ ⟨jZ,cS⟩
theorem U0:∀ k:Fin 5,ry (g3 k.1) 1=some 0:=by decide +kernel
theorem YE (aR w:Nat):(dX aR w).cd.length=1:=rfl
theorem U1 (aR:Nat) (x:Nat × Int):(hN aR x).bd.cd.length≤1000∧ (hN aR x).bd.qI.length≤1000:=⟨by show 1≤1000; decide,by show 0≤1000; decide⟩
theorem U2 {aR:Nat} (ar:aR=3∨aR=4) {w v:Nat} (h:w < 16) (cS:v < 16):pA (g3 aR) (dX aR w) (h1 v)=some (decide (w=v)):=by
 have eI:∀ a b:Fin 16,pA (g3 3) (dX 3 a.1) (h1 b.1)=some (decide (a.1=b.1)):=by decide +kernel
 have jD:∀ a b:Fin 16,pA (g3 4) (dX 4 a.1) (h1 b.1)=some (decide (a.1=b.1)):=by decide +kernel
 rcases ar with rfl | rfl
 ·exact eI ⟨w,h⟩ ⟨v,cS⟩
 ·exact jD ⟨w,h⟩ ⟨v,cS⟩
theorem HN {aR:Nat} (ar:aR=3∨aR=4) {w:Nat} (h:w < 16):m4 (g3 aR) (dX aR w)=m4 (g3 aR) (dX aR 0)∧ (m4 (g3 aR) (dX aR 0)).isSome=true:=by
 have eI:∀ a:Fin 16,m4 (g3 3) (dX 3 a.1)=m4 (g3 3) (dX 3 0)∧ (m4 (g3 3) (dX 3 0)).isSome=true:=by decide +kernel
 have jD:∀ a:Fin 16,m4 (g3 4) (dX 4 a.1)=m4 (g3 4) (dX 4 0)∧ (m4 (g3 4) (dX 4 0)).isSome=true:=by decide +kernel
 rcases ar with rfl | rfl
 ·exact eI ⟨w,h⟩
 ·exact jD ⟨w,h⟩
theorem Ji (v:Nat):iZ 1 (h1 v)=h1 v:=by
 refine u9 fun j aB=> ?_
 rw [lT aB]
 unfold h1
 rw [og _ _ (by decide)]
 by_cases e:j=0
 ·rw [if_pos (by omega),if_pos e]
 ·rw [if_neg (by omega),if_neg e,th]
theorem YF (aR w:Nat):cQ (dX aR w)=fW (default:Vector aw 4) 0 (E4 aR w).cL:=by
 refine u9 fun j aB=> ?_
 rw [kK aB,og _ _ (by decide),YE]
 by_cases e:j=0
 ·subst e; rfl
 ·rw [if_neg (by omega),if_neg e,th]
theorem YG {aR:Nat} (ar:aR=1∨k5 aR) (w:Nat):(E4 aR w).cL=jt w:=by
 rcases ar with rfl | rfl | rfl | rfl <;> rfl
theorem N2 {aR:Nat} (ar:aR=1∨k5 aR) (w:Nat):cQ (dX aR w)=h1 w:=by rw [YF,YG ar]; rfl
def dK:Vector aw 4:=default
theorem Pk (w:Nat):dm (h1 w)=dK:=by
 refine u9 fun j aB=> ?_
 rw [zB]
 unfold h1 dK
 by_cases e:j=0
 ·rw [if_pos e,th]
 ·rw [if_neg e,og _ _ (by decide),if_neg e]
theorem YH:∀ v:Fin 16,rD (jt v.1) (jt 15)=some (jt v.1):=by decide +kernel
theorem Xa:tg 4=some (jt 15):=by decide +kernel
def mv (aR:Nat):Prop:=aR=3∨aR=4
def nA (aR:Nat) (e:b1):Prop:= ∃ w,w < 16∧e=dX aR w
structure m2 (aR:Nat) (i:aA):Prop where
 dA:nA aR i.bd
theorem m2.small {aR:Nat} {i:aA} (h:m2 aR i):i.bd.cd.length≤1000∧i.bd.qI.length≤1000:=by
 obtain⟨w,_,e⟩:=h.dA
 rw [e]; exact U1 aR (w,0)
theorem zD {aR:Nat} {i:aA} (h:m2 aR i):lO i=some i:=Mf h.small.1 h.small.2
def fI (a c:aA):Bool:=decide (c.bt < a.bt)
theorem zE:q9 fI where
 asymm x y h:=by
  unfold fI at *
  rw [decide_eq_true_eq] at h
  rw [decide_eq_false_iff_not]; omega
 trans x y z h cS:=by
  unfold fI at *
  rw [decide_eq_true_eq] at *
  omega
theorem TZ {a c:aA} (h:a.bt≠c.bt):qc fI a c:=by
 unfold qc fI
 rw [decide_eq_true_eq,decide_eq_true_eq]; omega
theorem LQ {x y:Int} :uy x y=0↔x=y:=by unfold uy; split <;> (try split) <;> omega
theorem KY {aR:Nat} (ar:mv aR) {a c:aA} (a9:nA aR a.bd) (ag:nA aR c.bd):tf (g3 aR) a c=some (fI a c):=by
 obtain⟨w,hw,e⟩:=a9
 obtain⟨jZ,sv,e'⟩:=ag
 unfold tf fI
 obtain⟨z,dc⟩:=Option.isSome_iff_exists.1 (HN ar (w:=0) (by decide)).2
 rw [xC,Option.bind_some,e,e',(HN ar hw).1,(HN ar sv).1,dc,Option.bind_some,Option.bind_some,xC,Option.bind_some,xC,Option.bind_some,LI,Option.bind_some]
 congr 1
 rw [decide_eq_decide,show uy (dX aR w).jv (dX aR jZ).jv=0 from LQ.2 rfl,show uy z z=0 from LQ.2 rfl,if_neg (by simp),if_neg (by simp)]
 unfold uy
 split <;> (try split) <;> omega
theorem Rn {aR:Nat} (ar:mv aR) {e:b1} (he:nA aR e) {v:Nat} (a3:v < 16):pA (g3 aR) e (h1 v)=some (fg e (dX aR v)):=by
 obtain⟨w,hw,rfl⟩:=he
 rw [U2 ar hw a3,EO (.inr (.inr ar)) hw a3]
structure kI (aR:Nat) (l:List aA):Prop where
 ok:∀ i∈l,m2 aR i
 num:l.Pairwise fun a c=>a.bt≠c.bt
 len:l.length≤900
theorem kI.qd {aR:Nat} {l:List aA} (h:kI aR l):ph fI l:=h.num.imp fun bS=>TZ bS
theorem kI.cO {aR:Nat} {l:List aA} (h:kI aR l):(∀ i∈cO fI l,m2 aR i)∧ (cO fI l).length≤900:=
 ⟨fun i ao=>h.ok i (na.1 ao),by rw [MQ]; exact h.len⟩
theorem CY {l:List aA} {n:Int} :fM (cO fI l) n=fM l n:=by
 unfold fM
 rw [Bool.eq_iff_iff,List.any_eq_true,List.any_eq_true]
 exact⟨fun⟨c,J,aa⟩=>⟨c,na.1 J,aa⟩,fun⟨c,J,aa⟩=>⟨c,na.2 J,aa⟩⟩
theorem kI.snoc {aR:Nat} {l:List aA} (h:kI aR l) {i:aA} (ao:m2 aR i) (aF:fM l i.bt=false) (an:l.length < 900):kI aR (l ++ [i]) where
 ok c ag:=by
  rcases List.mem_append.1 ag with ag | ag
  ·exact h.ok c ag
  ·rw [List.mem_singleton.1 ag]; exact ao
 num:=by
  rw [List.pairwise_append]
  exact⟨h.num,by simp,fun a a9 c ag=>by rw [List.mem_singleton.1 ag]; exact Dh aF a a9⟩
 len:=by simp; omega
theorem kI.filter {aR:Nat} {l:List aA} (h:kI aR l) (q:aA→Bool):kI aR (l.filter q) where
 ok i ao:=h.ok i (List.mem_filter.1 ao).1
 num:=h.num.sublist List.filter_sublist
 len:=Nat.le_trans (List.length_filter_le _ _) h.len
theorem kI.uniq {aR:Nat} :∀ {l:List aA},kI aR l→ ∀ {a c:aA},a∈l→c∈l→a.bt=c.bt→a=c:=fun {l} h {a c} a9 ag e=>by
 have aF:=h.num
 clear h
 induction l with
 | nil=>cases a9
 | cons x l bD=>
   obtain⟨J,aa⟩:=List.pairwise_cons.1 aF
   rcases List.mem_cons.1 a9 with ax | ax <;> rcases List.mem_cons.1 ag with a5 | a5
   ·rw [ax,a5]
   ·rw [ax] at e; exact absurd e (J c a5)
   ·rw [a5] at e; exact absurd e.symm (J a ax)
   ·exact bD ax a5 aa
def n3 (aR:Nat) (l:List aA):ca:= { mA:=g3 aR,bP:=cO fI l }
theorem SH {aR:Nat} (ar:mv aR) {x:ca} (ai:x.mA=g3 aR) {a c:aA} (a9:m2 aR a) (ag:m2 aR c):
 br (s4 x a c) (fun r=>r < 0↔fI a c=true):=by
 unfold s4
 rw [ai]
 refine .eq (KY ar a9.dA ag.dA) (.cond (fun hb=> .ret ⟨fun _=>hb,fun _=>by omega⟩) fun hb=> .eq (KY ar ag.dA a9.dA) (.cond (fun _=> .ret ?_) fun _=> .ret ?_))
 ·rw [hb]; simp
 ·rw [hb]; simp
theorem T0 {aR:Nat} (ar:mv aR) {l:List aA} (an:kI aR l) {i:aA} (ao:m2 aR i) (hlen:l.length < 900):
 uH (n3 aR l) i=some (!fM l i.bt,if fM l i.bt=true then n3 aR l else n3 aR (l ++ [i])):=by
 refine br.get ?_
 unfold uH
 obtain⟨e1,ea⟩:=an.cO
 refine .cb (fun _=>HG (n3 aR l) _ (by show(cO _ l).length≤1000; omega)) fun aG J=> ?_
 have J:=J rfl
 rw [Bool.false_or]
 rcases J with⟨rfl,aa⟩ | ⟨j,aa,rfl,av,aO,aS⟩
 ·have ji:fM l i.bt=false:=by rw [← aa]; exact CY.symm
  refine .cond (fun ag=>by simp at ag) fun _=> ?_
  refine(Li (b:=fI) zE (CL zE an.qd) (by omega) fun a a9=>SH ar rfl (e1 a a9) ao).bind fun aQ cR=> .eq (zD ao) ?_
  rw [cR]
  unfold yx
  have gK:=Dz (b:=fI) (l:=cO fI l) (x:=i)
  refine .eq (a:=cO fI (l ++ [i])) ?_ (.ret ?_)
  ·show vU 88 (cO fI l) _ _=_
   unfold vU
   have mc:maxLen=9223372036854775807:=rfl
   rw [if_pos ⟨by omega,by omega,by simp,by simp <;> omega,by simp <;> omega⟩,zA,G7]
   simp
  ·rw [ji]; rfl
 ·have oP:fM l i.bt=true:=by rw [← aO]; exact CY.symm
  refine .cond (fun _=> .ret ?_) fun ag=>by simp at ag <;> omega
  rw [oP]; rfl
theorem R1 {aR:Nat} (ar:mv aR) {l:List aA} (an:kI aR l) {v:Nat} (a3:v < 16):
 rj (n3 aR l) (h1 v)=some (match (cO fI l).find? (fun c=>fg c.bd (dX aR v)) with | some c=>(c,true) | none=>(default,false)):=by
 refine br.get ?_
 obtain⟨e1,ea⟩:=an.cO
 unfold rj
 refine .eq (a:=h1 v) rfl ?_
 unfold w3
 have Bi:∀ i (ao:i < (cO fI l).length),pA (g3 aR) (aJ (cO fI l) i).bd (h1 v)=some (fg (aJ (cO fI l) i).bd (dX aR v))∧lO (aJ (cO fI l) i)=some (aJ (cO fI l) i):=fun i ao=>by
  have hm:=e1 (aJ (cO fI l) i) (by rw [gh _ ao]; exact List.getElem_mem _)
  exact⟨Rn ar hm.dA a3,zD hm⟩
 show br ((Option.bind (Option.bind (gG fX _ _) _) _)) _
 rw [Option.bind_assoc]
 refine br.loop (cO fI l).length (fun i st=>st=((i:Int),())∧ ∀ j,j < i→fg (aJ (cO fI l) j).bd (dX aR v)=false) (by omega) ⟨rfl,fun j aB=>by omega⟩ (fun i st ao hs=> ?_) (fun st hs=> ?_)
 ·obtain⟨rfl,hs⟩:=hs
  obtain⟨ax,a5⟩:=Bi i ao
  refine .cond (fun _=> ?_) (fun ag=>by simp [n3] at ag; omega)
  refine .idx rfl ao (.eq ax (.cond (fun hm=> .eq (a:=(Sum.inr (true,aJ (cO fI l) i):Unit ⊕ (Bool × aA))) (by show Option.bind (lO (aJ (cO fI l) i)) _=_; rw [a5]; rfl) (.ret ?_)) fun hm=> .ret ⟨?_,fun j aB=> ?_⟩))
  ·refine .ret ?_
   rw [Dd (xs:=cO fI l) (p:=fun c=>fg c.bd (dX aR v)) ao hm hs]
  ·rw [g5 (by omega)]
  ·by_cases eX:j=i
   ·subst eX; exact hm
   ·exact hs j (by omega)
 ·obtain⟨rfl,hs⟩:=hs
  have ag:decide (((cO fI l).length:Int) < ((n3 aR l).bP.length:Int))=false:=by simp [n3]
  simp only [ag,cond_false]
  refine⟨_,rfl,.ret ?_⟩
  rw [De fun c ag=> ?_]
  obtain⟨j,aB,rfl⟩:=List.mem_iff_getElem.1 ag
  rw [← gh _ aB]; exact hs j aB
theorem RG {aR:Nat} (ar:mv aR) {l:List aA} (an:kI aR l) {v:Nat} (a3:v < 16):
 rj (n3 aR l) (h1 v)=some (ml ((cO fI l).find? (fun c=>fg c.bd (dX aR v)))):=by
 rw [R1 ar an a3]; unfold ml; cases List.find? (fun c=>fg c.bd (dX aR v)) (cO fI l) <;> rfl
theorem RH {aR:Nat} (ar:mv aR) {l:List aA} (an:∀ i∈l,m2 aR i) (aF:l.length≤1000):rB l=some l:=by
 refine br.get ?_
 unfold rB
 refine br.loop l.length (fun i st=>st=((i:Int),l.take i)) (by omega) rfl (fun i st ao hs=> ?_) (fun st hs=> ?_)
 ·subst hs
  refine .cond (fun _=> ?_) (fun ag=>by simp at ag; omega)
  refine .idx rfl ao (.eq (zD (an _ (by rw [gh _ ao]; exact List.getElem_mem _))) (.eq (ko _ _ (by simp; omega) (by omega)) (.ret ?_)))
  rw [g5 (by omega),Km l ao]
 ·subst hs
  refine⟨_,by simp; rfl,.ret ?_⟩
  simp
theorem T1 {aR:Nat} (ar:mv aR) {l:List aA} (an:kI aR l):uG (n3 aR l)=some (cO fI l):=by
 unfold uG
 obtain⟨e1,ea⟩:=an.cO
 show Option.bind (rB (cO fI l)) _=_
 rw [RH ar e1 (by omega)]; rfl
theorem R2 {aR:Nat} {l:List aA} (an:kI aR l) (n:Int):
 uB (n3 aR l) n=some (fM l n,n3 aR (l.filter fun c=>c.bt !=n)):=by
 refine br.get ?_
 unfold uB
 obtain⟨e1,ea⟩:=an.cO
 refine(LP (n3 aR l) n (by show(cO _ l).length≤1000; omega)).bind fun aG J=> ?_
 rcases J with⟨rfl,aa⟩ | ⟨j,aa,rfl,av,aO,aS⟩
 ·have ji:fM l n=false:=by rw [← aa]; exact CY.symm
  refine .cond (fun _=> .ret ?_) fun ag=>by simp at ag
  rw [ji,List.filter_eq_self.2 fun c ag=>by simpa using Dh ji c ag]
 ·have oP:fM l n=true:=by rw [← aO]; exact CY.symm
  refine .cond (fun ag=>by simp at ag; omega) fun _=> ?_
  have aB:j < (cO fI l).length:=aa
  refine .eq (a:=cO fI (l.filter fun c=>c.bt !=n)) ?_ (.ret ?_)
  ·show vV (cO fI l) _ _=_
   unfold vV
   rw [g5 (by omega),if_pos ⟨by omega,by omega,by omega⟩]
   have Jd:(cO fI l).Pairwise fun a c=>a.bt≠c.bt:=((Df l).symm.pairwise_iff fun bS=>fun e=>bS e.symm).1 an.num
   rw [← Lf zE an.qd,← Mq Jd aB av]
   simp
  ·rw [oP]; rfl
structure iW (aR:Nat) (l:List aA):Prop where
 ok:kI aR l
 key:l.Pairwise fun a c=>fg a.bd c.bd=false
theorem iW.uniq {aR:Nat} {l:List aA} (h:iW aR l) {a c:aA} (a9:a∈l) (ag:c∈l) (e:fg a.bd c.bd=true):a=c:=by
 have aF:=h.key
 clear h
 induction l with
 | nil=>cases a9
 | cons x l bD=>
   obtain⟨J,aa⟩:=List.pairwise_cons.1 aF
   rcases List.mem_cons.1 a9 with ax | ax <;> rcases List.mem_cons.1 ag with a5 | a5
   ·rw [ax,a5]
   ·rw [ax,J c a5] at e; cases e
   ·rw [a5,tz,J a ax] at e; cases e
   ·exact bD ax a5 aa
theorem iW.fN {aR:Nat} {l:List aA} (h:iW aR l) (e:b1):iW aR (Go.Proofs.YthkfkliknjiecaaGreat.fN l e):=
 ⟨h.ok.filter _,h.key.sublist List.filter_sublist⟩
theorem CM {aR:Nat} {l:List aA} (h:iW aR l) {e:b1} {i:aA} (ao:i∈l) (ar:fg i.bd e=true):fN l e=l.filter fun c=>c.bt !=i.bt:=by
 unfold fN
 refine List.filter_congr fun c ag=> ?_
 by_cases az:c=i
 ·rw [az,ar]; simp
 ·have J:fg c.bd e=false:=by
   rw [Bool.eq_false_iff]; intro aa
   exact az (h.uniq ag ao (xo aa (by rw [tz]; exact ar)))
  have aa:c.bt≠i.bt:=fun aa=>az (h.ok.uniq ag ao aa)
  rw [J]; simp [aa]
structure vJ (aR:Nat) (hp:aH Cell) (q:Nat) (l:List aA) (own:Nat→Prop):Prop where
 ok:∃ key cap,lZ hp q=some (n3 aR l,key,cap)∧own q
theorem U3 {aR:Nat} (ar:mv aR) {hp:aH Cell} {q:Nat} {l:List aA} {own:Nat→Prop} (hq:vJ aR hp q l own) (an:iW aR l) {e:b1} (he:nA aR e):uN hp ⟨some q⟩ e=some (jH (dE l e)):=by
 obtain⟨key,cap,J,_⟩:=hq.ok
 refine br.get ?_
 unfold uN
 refine .eq rfl (.eq J (.eq (T1 ar an.ok) ?_))
 obtain⟨e1,ea⟩:=an.ok.cO
 have aV:dE l e=(cO fI l).find? fun i=>fg i.bd e:=by
  cases aV:dE l e with
  | none=>
    symm
    rw [List.find?_eq_none]
    intro x ai
    rw [m8 aV x (na.1 ai)]; simp
  | some i=>
    obtain⟨ao,jC⟩:=mB aV
    exact(xv zE an.ok.qd ao jC fun d hd wN=> .inl (an.uniq hd ao (xo wN (by rw [tz]; exact jC)))).symm
 rw [aV]
 refine br.loop (cO fI l).length (fun i st=>st=(i:Int)∧ ∀ j,j < i→fg (aJ (cO fI l) j).bd e=false) (by omega) ⟨rfl,fun j aB=>by omega⟩ (fun i st ao hs=> ?_) (fun st hs=> ?_)
 ·obtain⟨rfl,hs⟩:=hs
  refine .cond (fun _=> ?_) (fun ag=>by simp at ag; omega)
  have hm:=e1 (aJ (cO fI l) i) (by rw [gh _ ao]; exact List.getElem_mem _)
  refine .idx rfl ao (.eq (KX (hm.small).1) (.cond (fun ag=> .ret ?_) fun ag=> .ret ⟨g5 (by omega),fun j aB=> ?_⟩))
  ·simp only [Sum.elim_inr]
   refine .ret ?_
   rw [Dd (p:=fun i=>fg i.bd e) ao ag hs]; rfl
  ·by_cases eX:j=i
   ·subst eX; exact ag
   ·exact hs j (by omega)
 ·obtain⟨rfl,hs⟩:=hs
  refine⟨_,by simp; rfl,?_⟩
  simp only [Sum.elim_inl]
  refine .ret ?_
  rw [De fun c ag=> ?_]
  ·rfl
  ·obtain⟨j,aB,rfl⟩:=List.mem_iff_getElem.1 ag
   rw [← gh _ aB]; exact hs j aB
theorem U4 {aR:Nat} (ar:mv aR) {hp:aH Cell} {q:Nat} {l:List aA} {own:Nat→Prop} (hq:vJ aR hp q l own) (an:iW aR l) {i:aA} (ao:m2 aR i) (jn:fM l i.bt=false) (hlen:l.length < 900):
 cT (uO hp ⟨some q⟩ i) (fun hp'=>vJ aR hp' q (l ++ [i]) (iu own hp hp')∧cw hp hp' own):=by
 obtain⟨key,cap,J,aa⟩:=hq.ok
 unfold uO
 refine .eq rfl (.eq J (.eq (T0 ar an.ok ao hlen) (.any fun aN=> .eq rfl (.ret ?_))))
 rw [jn]
 exact⟨⟨aN.1,aN.2,CW (pa J),.inl aa⟩,.up aa⟩
theorem Xb {aR:Nat} {hp:aH Cell} {q:Nat} {l:List aA} {own:Nat→Prop} (hq:vJ aR hp q l own) (an:iW aR l) {i:aA} (ao:i∈l):
 cT (uJ hp ⟨some q⟩ i) (fun hp'=>vJ aR hp' q (fN l i.bd) own∧cw hp hp' own):=by
 obtain⟨key,cap,J,aa⟩:=hq.ok
 unfold uJ
 refine .eq rfl (.eq J (.eq (R2 an.ok _) (.any fun aN=> .eq rfl (.ret ?_))))
 rw [CM an ao (Dk _)]
 exact⟨⟨aN.1,aN.2,CW (pa J),aa⟩,.up aa⟩
structure YI (m:c5):Prop where
 pre:0≤m.fk∧m.fk≤4
 Jj:∀ j,j < 128→b4 m.cL j=true→lead 4 m.fk j=true
theorem Xc:∀ w:Fin 16,∀ j:Fin 128,b4 (jt w.1) j.1=true→lead 4 4 j.1=true:=by decide +kernel
theorem HO {e:b1} (he:nA 2 e):YI (aJ e.cd 0):=by
 obtain⟨w,hw,rfl⟩:=he
 exact⟨⟨by show(0:Int)≤4; decide,by show(4:Int)≤4; decide⟩,fun j aB a3=>Xc ⟨w,hw⟩ ⟨j,aB⟩ a3⟩
def iU (e:b1):List Bool:=dC (aJ e.cd 0).cL (aJ e.cd 0).fk.toNat
theorem S9:∀ w jZ:Fin 16,iU (dX 2 w.1)=iU (dX 2 jZ.1)→w.1=jZ.1:=by decide +kernel
theorem sg {a c:b1} (a9:nA 2 a) (ag:nA 2 c):fg a c=true↔dm (cQ a)=dm (cQ c)∧iU a=iU c:=by
 obtain⟨w,hw,rfl⟩:=a9
 obtain⟨jZ,sv,rfl⟩:=ag
 rw [EO (.inr (.inl rfl)) hw sv,decide_eq_true_eq]
 constructor
 ·rintro rfl; exact⟨rfl,rfl⟩
 ·intro h; exact S9 ⟨w,hw⟩ ⟨jZ,sv⟩ h.2
theorem Gk {e:b1} (he:nA 2 e) (m:fT):rk ⟨0,4,m⟩ e=some (dm (cQ e),(aJ e.cd 0).cL,(aJ e.cd 0).fk):=by
 obtain⟨w,hw,rfl⟩:=he
 have an:(dX 2 w).cd.length=1:=rfl
 refine br.get ?_
 unfold rk s3
 refine .eq (zC (by omega)) (.eq (a:=(dm (cQ (dX 2 w)),bB (cQ (dX 2 w)) 0)) rfl (.cond (fun ag=>by have ag:(0:Int)≥ ((dX 2 w).cd.length:Int):=of_decide_eq_true ag; omega) fun _=> .idx (k:=0) rfl (by omega) (.ret ?_)))
 rw [kK (by decide),if_pos (by omega)]
structure lX (hp:aH Cell) (m:Nat) (l:List aA) (own:Nat→Prop):Prop where
 ok:∃ em,g6 hp m=some em∧own m∧
  (∀ bu r,cK em bu=some r→ ∃ t g,r=some t∧iE hp t g∧ (∀ q,Own hp t q→own q)∧ ∀ aE n,g aE=some n↔ ∃ i∈l,dm (cQ i.bd)=bu∧iU i.bd=aE∧i.bt=n)∧
  (∀ bu,cK em bu=none→ ∀ i∈l,dm (cQ i.bd)≠bu)∧
  (∀ bu fj t cI,cK em bu=some (some t)→cK em fj=some (some cI)→bu≠fj→ ∀ q,Own hp t q→ ¬ Own hp cI q)∧mu em
theorem lX.mono {hp:aH Cell} {m:Nat} {l:List aA} {own own':Nat→Prop} (h:lX hp m l own) (a6:∀ q,own q→own' q):lX hp m l own':=by
 obtain⟨em,J,aa,av,aO,aS,gM⟩:=h.ok
 exact⟨em,J,a6 m aa,fun bu r aD=>by obtain⟨t,g,e,a,b,c⟩:=av bu r aD; exact⟨t,g,e,a,fun q hq=>a6 q (b q hq),c⟩,aO,aS,gM⟩
theorem U5 {hp:aH Cell} {m:Nat} {l:List aA} {own:Nat→Prop} (hq:lX hp m l own) (an:iW 2 l) {e:b1} (he:nA 2 e):uI hp ⟨0,4,⟨some m⟩⟩ e=some (jH (dE l e)):=by
 obtain⟨em,J,_,av,aO,_⟩:=hq.ok
 have fi:=HO he
 refine br.get ?_
 unfold uI
 refine .eq (Gk he _) (.eq rfl (.eq J (.eq rfl ?_)))
 obtain⟨n,aF⟩:=Int.eq_ofNat_of_zero_le fi.pre.1
 have pU:n≤4:=by have:=fi.pre.2; omega
 have l1:=fi.Jj
 refine .eq (a:=jH (dE l e)) ?_ (.ret rfl)
 simp only
 cases aD:cK em (dm (cQ e)) with
 | none=>
   have aV:dE l e=none:=by
    cases aV:dE l e with
    | none=>rfl
    | some i=>
      obtain⟨ao,ar⟩:=mB aV
      exact absurd ((sg (an.ok.ok i ao).dA he).1 ar).1 (aO _ aD i ao)
   rw [aV]; rfl
 | some r=>
   obtain⟨t,g,rfl,ax,_,bH⟩:=av _ _ aD
   have bg:g (iU e)=(dE l e).map (·.bt):=by
    cases aV:dE l e with
    | none=>
      cases sJ:g (iU e) with
      | none=>rfl
      | some n=>
        obtain⟨i,ao,aY,b7,_⟩:=(bH _ _).1 sJ
        have:=m8 aV i ao
        rw [(sg (an.ok.ok i ao).dA he).2 ⟨aY,b7⟩] at this; cases this
    | some i=>
      obtain⟨ao,ar⟩:=mB aV
      obtain⟨aY,b7⟩:=(sg (an.ok.ok i ao).dA he).1 ar
      exact(bH _ _).2 ⟨i,ao,aY,b7,rfl⟩
   rw [aF] at l1 ⊢
   show qw hp (some t) _ (n:Int)=_
   rw [Mn ax pU l1]
   have hp':dC (aJ e.cd 0).cL n=iU e:=by unfold iU; rw [aF]; rfl
   rw [hp',bg]
   cases dE l e <;> rfl
theorem Xd {hp:aH Cell} {m:Nat} {l:List aA} {own:Nat→Prop} (hq:lX hp m l own)
 {em:List (Vector aw 4 × Ref)} (gO:g6 hp m=some em) {bu:Vector aw 4} (dN:cK em bu=none) {a:Nat} (a9:a ∉ cX hp) {z:eJ} (dc:z.eu=4) (aD:z.bK=none):
 lX (ch ((a,Cell.gL z) :: hp) m (.iT (fc em bu (some a)))) m l (iu own hp (ch ((a,Cell.gL z) :: hp) m (.iT (fc em bu (some a)))))∧cw hp (ch ((a,Cell.gL z) :: hp) m (.iT (fc em bu (some a)))) own∧
  g6 (ch ((a,Cell.gL z) :: hp) m (.iT (fc em bu (some a)))) m=some (fc em bu (some a)):=by
 obtain⟨Ja,J,aa,av,aO,aS,gM⟩:=hq.ok
 rw [gO] at J; cases J
 have hj:=iR gO
 have Bx:=qA a9 hj
 have cn:pat ((a,Cell.gL z) :: hp) m=some (.iT em):=by rw [o1,if_neg Bx]; exact hj
 generalize ck:ch ((a,Cell.gL z) :: hp) m (.iT (fc em bu (some a)))=b9
 have ax:g6 b9 m=some (fc em bu (some a)):=by rw [← ck]; exact CV cn
 have a5:pat b9 a=some (.gL z):=by rw [← ck,jK Bx.symm,o1,if_pos rfl]
 have bH:∀ q,q≠m→q≠a→pat b9 q=pat hp q:=fun q wO nt=>by rw [← ck,jK wO.symm,o1,if_neg nt.symm]
 have ar:cw hp b9 own:=by
  rw [← ck]
  exact(cw.mk' (own:=own) a9).trans (cw.up aa) fun q _ h=>h
 have By:ey b9 a=some z:=my.2 a5
 have HM:iE b9 a (fun _=>none):=⟨z,By,dc,by rw [aD]; exact⟨fun aE p h=>(by rw [eN] at h; cases h),fun aE cs p h _=>(by rw [eN] at h; cases h),fun aE p h=>(by rw [eN] at h; cases h)⟩,fun aE=>by rw [aD]; exact hc eN⟩
 have vI:∀ q,Own b9 a q→q=a:=fun q jl=>by
  rcases jl with h | ⟨c,aE,aY,b7⟩
  ·exact h
  ·rw [By] at aY; cases aY
   rw [aD,eN] at b7; cases b7
 have hold:∀ t g,iE hp t g→iE b9 t g∧ ∀ q,Own b9 t q↔Own hp t q:=fun t g bl=>bl.congr fun q jl=>by
  refine bH q (fun e=> ?_) fun e=>a9 (by rw [← e]; exact bl.nb jl)
  rw [← e] at hj
  rcases bl.rW jl with⟨c,ag⟩ | ⟨c,ag⟩ <;> rw [ag] at hj <;> cases hj
 refine⟨⟨_,ax,.inl aa,fun fj r eP=> ?_,fun fj eP=> ?_,fun wQ sK t1 t2 eY fq cN q fp iy=> ?_,gM.put⟩,ar,ax⟩
 ·rw [rE] at eP
  by_cases e:fj=bu
  ·rw [if_pos e] at eP; cases eP
   exact⟨a,_,rfl,HM,fun q jl=>by rw [vI q jl]; exact .inr ⟨a9,gS a5⟩,fun aE n=>⟨fun h=>(by cases h),fun⟨i,ao,aY,_⟩=>absurd (aY.trans e) (aO bu dN i ao)⟩⟩
  ·rw [if_neg e] at eP
   obtain⟨t,g,rfl,cq,cF,eM⟩:=av fj r eP
   obtain⟨c4,dq⟩:=hold t g cq
   exact⟨t,g,rfl,c4,fun q jl=> .inl (cF q ((dq q).1 jl)),eM⟩
 ·rw [rE] at eP
  by_cases e:fj=bu
  ·rw [if_pos e] at eP; cases eP
  ·rw [if_neg e] at eP; exact aO fj eP
 ·rw [rE] at eY fq
  have ai:∀ fj cI,cK em fj=some (some cI)→ ∀ q,q=a→ ¬ Own b9 cI q:=fun fj cI nw q e jl=>by
   obtain⟨t,g,e',cq,_⟩:=av fj _ nw
   cases e'
   have:=(hold cI g cq).2 q |>.1 jl
   exact a9 (by rw [← e]; exact cq.nb this)
  by_cases az:wQ=bu
  ·rw [if_pos az] at eY; cases eY
   by_cases aX:sK=bu
   ·exact cN (az.trans aX.symm)
   ·rw [if_neg aX] at fq
    exact ai sK t2 fq q (vI q fp) iy
  ·rw [if_neg az] at eY
   by_cases aX:sK=bu
   ·rw [if_pos aX] at fq; cases fq
    exact ai wQ t1 eY q (vI q iy) fp
   ·rw [if_neg aX] at fq
    obtain⟨t,g,e',cq,_⟩:=av wQ _ eY
    cases e'
    obtain⟨cI,de,Bm,Jc,_⟩:=av sK _ fq
    cases Bm
    exact aS _ _ _ _ eY fq cN q (((hold _ _ cq).2 q).1 fp) (((hold _ _ Jc).2 q).1 iy)
theorem Xe {hp:aH Cell} {m:Nat} {l:List aA} {own:Nat→Prop} (hq:lX hp m l own) (dQ:∀ q,own q→q∈cX hp) (an:iW 2 l) {i:aA} (ao:m2 2 i) (aV:dE l i.bd=none)
 {em:List (Vector aw 4 × Ref)} (gO:g6 hp m=some em) {t:Nat} (bl:cK em (dm (cQ i.bd))=some (some t)):
 cT (rA hp (some t) (aJ i.bd.cd 0).cL (aJ i.bd.cd 0).fk i.bt) (fun r=>lX r.2 m (l ++ [i]) (iu own hp r.2)∧cw hp r.2 own):=by
 obtain⟨Ja,J,aa,av,aO,aS,gM⟩:=hq.ok
 rw [gO] at J; cases J
 have fi:=HO ao.dA
 obtain⟨cI,g,e,ax,a5,bH⟩:=av _ _ bl
 cases e
 obtain⟨n,aF⟩:=Int.eq_ofNat_of_zero_le fi.pre.1
 have pU:n≤4:=by have:=fi.pre.2; omega
 have l1:=fi.Jj
 have hp':dC (aJ i.bd.cd 0).cL n=iU i.bd:=by unfold iU; rw [aF]; rfl
 have dN:g (iU i.bd)=none:=by
  cases sJ:g (iU i.bd) with
  | none=>rfl
  | some n=>
    obtain⟨c,ag,aY,b7,_⟩:=(bH _ _).1 sJ
    have:=m8 aV c ag
    rw [(sg (an.ok.ok c ag).dA ao.dA).2 ⟨aY,b7⟩] at this; cases this
 rw [aF] at l1 ⊢
 refine(UW ax pU l1 i.bt (by rw [hp']; exact dN)).mono fun r aD=> ?_
 obtain⟨_,e1,ea,kH⟩:=aD
 rw [hp'] at e1
 have rb:∀ q,Own hp t q→q≠m:=fun q wP e=>by
  have:=iR gO
  rw [← e] at this
  rcases ax.rW wP with⟨c,ag⟩ | ⟨c,ag⟩ <;> rw [ag] at this <;> cases this
 have hj:pat r.2 m=pat hp m:=ea.rest m (gS (iR gO)) fun hq=>rb m hq rfl
 have ks:∀ bu cI,bu≠dm (cQ i.bd)→cK em bu=some (some cI)→ ∃ de,iE hp cI de∧iE r.2 cI de∧ (∀ q,Own hp cI q→own q)∧ (∀ q,Own r.2 cI q↔Own hp cI q)∧ ∀ aE n,de aE=some n↔ ∃ i∈l,dm (cQ i.bd)=bu∧iU i.bd=aE∧i.bt=n:=fun bu cI cN aD=>by
  obtain⟨Jb,de,e,cq,cF,eM⟩:=av bu _ aD
  cases e
  obtain⟨c4,dq⟩:=cq.congr (hp':=r.2) fun q hq=>ea.rest q (cq.nb hq) fun gN=>aS _ _ _ _ bl aD cN.symm q gN hq
  exact⟨de,cq,c4,cF,dq,eM⟩
 have pT:∀ q,Own r.2 t q→iu own hp r.2 q:=fun q hq=>by
  rcases kH q hq with aY | aY
  ·exact .inl (a5 q aY)
  ·exact .inr ⟨aY,e1.nb hq⟩
 refine⟨⟨em,by rw [tm hj]; exact gO,.inl aa,fun bu jr eP=> ?_,fun bu dZ c ag=> ?_,fun bu fj t1 t2 eY fq cN q fp iy=> ?_,gM⟩,⟨ea.keys,fun q hq dN=>ea.rest q hq fun gN=>dN (a5 q gN)⟩⟩
 ·by_cases dZ:bu=dm (cQ i.bd)
  ·subst dZ
   rw [bl] at eP; cases eP
   refine⟨t,_,rfl,e1,pT,fun aE ny=> ?_⟩
   by_cases gA:aE=iU i.bd
   ·simp only [if_pos gA]
    constructor
    ·intro e; cases e
     exact⟨i,by simp,rfl,gA.symm,rfl⟩
    ·rintro ⟨c,ag,aY,b7,dV⟩
     rcases List.mem_append.1 ag with ag | ag
     ·have:=(bH _ _).2 ⟨c,ag,aY,b7,dV⟩
      rw [gA,dN] at this; cases this
     ·rw [List.mem_singleton.1 ag] at dV; rw [dV]
   ·simp only [if_neg gA]
    rw [bH]
    constructor
    ·rintro ⟨c,ag,aY⟩; exact⟨c,by simp [ag],aY⟩
    ·rintro ⟨c,ag,aY,b7,dV⟩
     rcases List.mem_append.1 ag with ag | ag
     ·exact⟨c,ag,aY,b7,dV⟩
     ·rw [List.mem_singleton.1 ag] at b7; exact absurd b7.symm gA
  ·obtain⟨cI,de,e,_⟩:=av bu jr eP
   subst e
   obtain⟨nx,cq,cF,eM,gI,lu⟩:=ks bu cI dZ eP
   refine⟨cI,nx,rfl,cF,fun q hq=> .inl (eM q ((gI q).1 hq)),fun aE ny=> ?_⟩
   rw [lu]
   constructor
   ·rintro ⟨c,ag,aY⟩; exact⟨c,by simp [ag],aY⟩
   ·rintro ⟨c,ag,aY,b7⟩
    rcases List.mem_append.1 ag with ag | ag
    ·exact⟨c,ag,aY,b7⟩
    ·rw [List.mem_singleton.1 ag] at aY; exact absurd aY.symm dZ
 ·rcases List.mem_append.1 ag with ag | ag
  ·exact aO bu dZ c ag
  ·rw [List.mem_singleton.1 ag]
   intro e
   rw [← e,bl] at dZ; cases dZ
 ·
  have zS:∀ bu cI,bu≠dm (cQ i.bd)→cK em bu=some (some cI)→ ∀ q,Own r.2 t q→ ¬ Own r.2 cI q:=fun bu cI cN aD q hq gN=>by
   obtain⟨nx,cq,cF,eM,gI,lu⟩:=ks bu cI cN aD
   have gN:=(gI q).1 gN
   rcases kH q hq with aY | aY
   ·exact aS _ _ _ _ bl aD cN.symm q aY gN
   ·exact aY (cq.nb gN)
  by_cases az:bu=dm (cQ i.bd)
  ·subst az
   rw [bl] at eY; cases eY
   exact zS fj t2 cN.symm fq q fp iy
  ·by_cases aX:fj=dm (cQ i.bd)
   ·subst aX
    rw [bl] at fq; cases fq
    exact zS bu t1 az eY q iy fp
   ·obtain⟨_,_,_,_,gI,_⟩:=ks bu t1 az eY
    obtain⟨_,_,_,_,w2,_⟩:=ks fj t2 aX fq
    exact aS _ _ _ _ eY fq cN q ((gI q).1 fp) ((w2 q).1 iy)
theorem U6 {hp:aH Cell} {m:Nat} {l:List aA} {own:Nat→Prop} (hq:lX hp m l own) (dQ:∀ q,own q→q∈cX hp) (an:iW 2 l) {i:aA} (ao:m2 2 i) (aV:dE l i.bd=none):
 cT (uL hp ⟨0,4,⟨some m⟩⟩ i) (fun hp'=>lX hp' m (l ++ [i]) (iu own hp hp')∧cw hp hp' own):=by
 obtain⟨em,gO,aa,av,aO,aS,_⟩:=hq.ok
 unfold uL
 refine .eq (Gk ao.dA _) (.eq rfl (.eq gO (.eq rfl ?_)))
 simp only
 refine .bind (P:=fun bq=>lX bq m l (iu own hp bq)∧cw hp bq own∧ ∃ wR t,g6 bq m=some wR∧cK wR (dm (cQ i.bd))=some (some t)) (.cond (fun ag=> ?_) fun ag=> .ret ?_) fun bq cn=> ?_
 ·have dN:cK em (dm (cQ i.bd))=none:=by
   cases bg:cK em (dm (cQ i.bd)) with
   | none=>rfl
   | some r=>
     obtain⟨t,_,rfl,_⟩:=av _ _ bg
     rw [bg] at ag; cases ag
  unfold zd
  refine .bind (P:=fun r=> ∃ a,a ∉ cX hp∧r=((some a:Ref),(a,Cell.gL ({ (default:eJ) with eu:=4 })) :: hp)) (.eq rfl (.mk fun a a9=> .ret ⟨a,a9,rfl⟩)) fun bm aY=> ?_
  obtain⟨a,a9,rfl⟩:=aY
  have jT:g6 ((a,Cell.gL ({ (default:eJ) with eu:=4 })) :: hp) m=some em:=(tm (hp:=hp) (by rw [o1,if_neg (qA a9 (iR gO))])).trans gO
  obtain⟨ax,a5,bH⟩:=Xd hq gO dN a9 (z:= { (default:eJ) with eu:=4 }) rfl rfl
  refine .eq jT (.eq rfl (.ret ⟨ax,a5,_,a,bH,by rw [rE,if_pos rfl]⟩))
 ·cases bg:cK em (dm (cQ i.bd)) with
  | none=>rw [bg] at ag; cases ag
  | some r=>
    obtain⟨t,_,rfl,_⟩:=av _ _ bg
    exact⟨hq.mono fun q hq=> .inl hq,.refl,em,t,gO,bg⟩
 ·obtain⟨ax,a5,wR,t,bH,c9⟩:=cn
  refine .eq bH (.eq rfl ?_)
  simp only [c9]
  refine .bind (Xe ax (fun q hq=>hq.elim (fun hq=>a5.keys q (dQ q hq)) fun hq=>hq.2) an ao aV bH c9) fun r aD=> .ret ?_
  exact⟨aD.1.mono fun q hq=>Kr a5.keys aD.2.keys hq,a5.grow aD.2⟩
theorem Xf {hp:aH Cell} {m:Nat} {l:List aA} {own:Nat→Prop} (hq:lX hp m l own) (an:iW 2 l) {i:aA} (ao:i∈l):
 br (uE hp ⟨0,4,⟨some m⟩⟩ i) (fun hp'=>lX hp' m (fN l i.bd) own∧cw hp hp' own):=by
 obtain⟨em,gO,aa,av,aO,aS,gM⟩:=hq.ok
 have fO:=(an.ok.ok i ao).dA
 have fi:=HO fO
 have bl:∃ t,cK em (dm (cQ i.bd))=some (some t):=by
  cases bg:cK em (dm (cQ i.bd)) with
  | none=>exact absurd rfl (aO _ bg i ao)
  | some r=>obtain⟨t,g,rfl,_⟩:=av _ _ bg; exact⟨t,rfl⟩
 obtain⟨t,bl⟩:=bl
 obtain⟨cI,g,e,ax,a5,bH⟩:=av _ _ bl
 cases e
 obtain⟨n,aF⟩:=Int.eq_ofNat_of_zero_le fi.pre.1
 have pU:n≤4:=by have:=fi.pre.2; omega
 have l1:=fi.Jj
 have hp':dC (aJ i.bd.cd 0).cL n=iU i.bd:=by unfold iU; rw [aF]; rfl
 have Je:g (iU i.bd)=some i.bt:=(bH _ _).2 ⟨i,ao,rfl,rfl,rfl⟩
 have Bz:∀ c∈l,dm (cQ c.bd)=dm (cQ i.bd)→ (fg c.bd i.bd=false↔iU c.bd≠iU i.bd):=fun c ag ai=>by
  rw [Bool.eq_false_iff,ne_eq,sg (an.ok.ok c ag).dA fO]
  exact⟨fun J aa=>J ⟨ai,aa⟩,fun J aa=>J aa.2⟩
 have lI:∀ c∈l,dm (cQ c.bd)≠dm (cQ i.bd)→fg c.bd i.bd=false:=fun c ag ai=>by
  rw [Bool.eq_false_iff,ne_eq,sg (an.ok.ok c ag).dA fO]
  exact fun J=>ai J.1
 unfold uE
 refine .eq (Gk fO _) (.eq rfl (.eq gO (.eq rfl ?_)))
 simp only [bl]
 rw [aF] at l1 ⊢
 refine(show br (rq hp (some t) (aJ i.bd.cd 0).cL (n:Int)) _ from R0 ax pU l1 (by rw [hp']; exact Je)).bind fun aQ aD=> ?_
 obtain⟨_,e1,ea,kH⟩:=aD
 rw [hp'] at e1
 obtain⟨Z4,bI⟩:=aQ
 simp only at e1 ea kH ⊢
 have rb:∀ q,Own hp t q→q≠m:=fun q wP e=>by
  have:=iR gO
  rw [← e] at this
  rcases ax.rW wP with⟨c,ag⟩ | ⟨c,ag⟩ <;> rw [ag] at this <;> cases this
 have hj:pat bI m=pat hp m:=ea.rest m (gS (iR gO)) fun hq=>rb m hq rfl
 have v7:g6 bI m=some em:=by rw [tm hj]; exact gO
 have pV:∀ aE ny,(if aE=iU i.bd then none else g aE)=some ny↔ ∃ c∈fN l i.bd,dm (cQ c.bd)=dm (cQ i.bd)∧iU c.bd=aE∧c.bt=ny:=fun aE ny=>by
  by_cases gA:aE=iU i.bd
  ·rw [if_pos gA]
   refine⟨fun e=>(by cases e),fun⟨c,ag,aY,b7,_⟩=> ?_⟩
   obtain⟨cq,cF⟩:=jL.1 ag
   exact absurd (b7.trans gA) ((Bz c cq aY).1 cF)
  ·rw [if_neg gA,bH]
   constructor
   ·rintro ⟨c,ag,aY,b7,dV⟩
    exact⟨c,jL.2 ⟨ag,(Bz c ag aY).2 fun e=>gA (b7.symm.trans e)⟩,aY,b7,dV⟩
   ·rintro ⟨c,ag,aY⟩
    exact⟨c,(jL.1 ag).1,aY⟩
 have ks:∀ bu cI,bu≠dm (cQ i.bd)→cK em bu=some (some cI)→ ∃ de,iE hp cI de∧iE bI cI de∧ (∀ q,Own hp cI q→own q)∧ (∀ q,Own bI cI q↔Own hp cI q)∧ ∀ aE n,de aE=some n↔ ∃ c∈fN l i.bd,dm (cQ c.bd)=bu∧iU c.bd=aE∧c.bt=n:=fun bu cI cN aD=>by
  obtain⟨Jb,de,e,cq,cF,eM⟩:=av bu _ aD
  cases e
  obtain⟨c4,dq⟩:=cq.congr (hp':=bI) fun q hq=>ea.rest q (cq.nb hq) fun gN=>aS _ _ _ _ bl aD cN.symm q gN hq
  refine⟨de,cq,c4,cF,dq,fun aE n=> ?_⟩
  rw [eM]
  constructor
  ·rintro ⟨c,ag,aY,b7⟩
   exact⟨c,jL.2 ⟨ag,lI c ag (by rw [aY]; exact cN)⟩,aY,b7⟩
  ·rintro ⟨c,ag,aY⟩
   exact⟨c,(jL.1 ag).1,aY⟩
 have dj:cw hp bI own:=⟨ea.keys,fun q hq dN=>ea.rest q hq fun gN=>dN (a5 q gN)⟩
 have ck:lX bI m (fN l i.bd) own:=by
  refine⟨em,v7,aa,fun bu jr eP=> ?_,fun bu dZ c ag=>aO bu dZ c (jL.1 ag).1,fun bu fj t1 t2 eY fq cN q fp iy=> ?_,gM⟩
  ·by_cases dZ:bu=dm (cQ i.bd)
   ·subst dZ
    rw [bl] at eP; cases eP
    exact⟨t,_,rfl,e1,fun q hq=>a5 q (kH q hq),pV⟩
   ·obtain⟨cI,de,e,_⟩:=av bu jr eP
    subst e
    obtain⟨nx,cq,cF,eM,gI,lu⟩:=ks bu cI dZ eP
    exact⟨cI,nx,rfl,cF,fun q hq=>eM q ((gI q).1 hq),lu⟩
  ·have dQ:∀ bu t1,cK em bu=some (some t1)→ ∀ q,Own bI t1 q→Own hp t1 q:=fun bu t1 eY q fp=>by
    by_cases az:bu=dm (cQ i.bd)
    ·subst az
     rw [bl] at eY; cases eY
     exact kH q fp
    ·obtain⟨_,_,_,_,gI,_⟩:=ks bu t1 az eY
     exact(gI q).1 fp
   exact aS _ _ _ _ eY fq cN q (dQ bu t1 eY q fp) (dQ fj t2 fq q iy)
 refine .eq v7 (.eq rfl ?_)
 simp only [bl]
 refine(show br (rz bI (some t)) _ from TW e1 (fun aE cs id J aa=> ?_) (l.map (·.bt)) (fun aE id J=> ?_) (by rw [List.length_map]; have:=an.ok.len; omega)).bind fun bm aY=> ?_
 ·obtain⟨c,ag,_,c4,dq⟩:=(pV _ _).1 J
  obtain⟨d,hd,_,d1,d2⟩:=(pV _ _).1 aa
  have:=an.ok.uniq (jL.1 ag).1 (jL.1 hd).1 (dq.trans d2.symm)
  rw [← c4,← d1,this]
 ·obtain⟨c,ag,_,c4,dq⟩:=(pV _ _).1 J
  exact List.mem_map.2 ⟨c,(jL.1 ag).1,dq⟩
 refine .bind (P:=fun hp'=>lX hp' m (fN l i.bd) own∧cw hp hp' own) (.cond (fun dc=> .eq rfl (.ret ?_)) fun _=> .ret ⟨ck,dj⟩) fun bq cn=> .ret cn
 have aY:=aY (by simpa using dc)
 have sf:=iR v7
 have v8:∀ cI de,iE bI cI de→iE (ch bI m (Cell.iT (gW em (dm (cQ i.bd))))) cI de∧ ∀ q,Own (ch bI m (Cell.iT (gW em (dm (cQ i.bd))))) cI q↔Own bI cI q:=fun cI de nw=>nw.congr fun q jl=>jK fun e=>by
  rw [e] at sf
  rcases nw.rW jl with⟨c,ag⟩ | ⟨c,ag⟩ <;> rw [ag] at sf <;> cases sf
 refine⟨⟨_,CV sf,aa,fun bu jr eP=> ?_,fun bu dZ c ag=> ?_,fun bu fj t1 t2 eY fq cN q fp iy=> ?_,gM.del⟩,dj.trans (cw.up aa) fun q _ hq=>hq⟩
 ·rw [tq gM] at eP
  split at eP
  ·cases eP
  ·rename_i dZ
   obtain⟨cI,de,e,_⟩:=av bu jr eP
   subst e
   obtain⟨nx,cq,cF,eM,gI,lu⟩:=ks bu cI dZ eP
   obtain⟨c4,dq⟩:=v8 cI nx cF
   exact⟨cI,nx,rfl,c4,fun q hq=>eM q ((gI q).1 ((dq q).1 hq)),lu⟩
 ·rw [tq gM] at dZ
  split at dZ
  ·rename_i e
   intro ai
   have:=(pV _ _).2 ⟨c,ag,ai.trans e,rfl,rfl⟩
   rw [aY] at this; cases this
  ·exact aO bu dZ c (jL.1 ag).1
 ·rw [tq gM] at eY fq
  split at eY
  ·cases eY
  split at fq
  ·cases fq
  rename_i az aX
  obtain⟨I7,cq,cF,eM,gI,_⟩:=ks bu t1 az eY
  obtain⟨I8,c4,dq,hn,w2,_⟩:=ks fj t2 aX fq
  exact aS _ _ _ _ eY fq cN q ((gI q).1 (((v8 t1 _ cF).2 q).1 fp)) ((w2 q).1 (((v8 t2 _ dq).2 q).1 iy))
theorem Lm {g:List Bool→Option Int} (bg:∀ aE n,g aE=some n→aE.length=4) {v:aw} :∀ k,k < 4→lM g v k=none
 | 0,_=>by
   unfold lM
   cases h:g [] with
   | none=>rfl
   | some n=>have:=bg _ _ h; simp at this
 | k + 1,ar=>by
   unfold lM
   cases h:g (dC v (k + 1)) with
   | none=>exact Lm bg k (by omega)
   | some n=>have:=bg _ _ h; rw [FQ] at this; omega
theorem U7:∀ w:Fin 16,∀ j:Fin 128,b4 (jt w.1) j.1=true→j.1 < 4:=by decide +kernel
theorem U8 {hp:aH Cell} {m:Nat} {l:List aA} {own:Nat→Prop} (hq:lX hp m l own) (an:iW 2 l) {v:Nat} (a3:v < 16):uD hp ⟨0,4,⟨some m⟩⟩ (iZ 1 (h1 v))=some (jH (dE l (dX 2 v))):=by
 obtain⟨em,J,_,av,aO,_⟩:=hq.ok
 have he:nA 2 (dX 2 v):=⟨v,a3,rfl⟩
 refine br.get ?_
 unfold uD s3
 rw [Ji]
 refine .eq (a:=(dK,jt v)) (by show some (dm (h1 v),bB (h1 v) 0)=_; rw [Pk]; unfold h1; rw [og _ _ (by decide),if_pos rfl]) (.eq rfl (.eq J (.eq rfl (.eq Xa (.eq (YH ⟨v,a3⟩) ?_)))))
 simp only
 have ai:dm (cQ (dX 2 v))=dK:=by rw [N2 (.inr (.inl rfl)),Pk]
 have Pl:iU (dX 2 v)=dC (jt v) 4:=rfl
 cases aD:cK em dK with
 | none=>
   have aV:dE l (dX 2 v)=none:=by
    cases aV:dE l (dX 2 v) with
    | none=>rfl
    | some i=>
      obtain⟨ao,ar⟩:=mB aV
      exact absurd (((sg (an.ok.ok i ao).dA he).1 ar).1.trans ai) (aO _ aD i ao)
   rw [aV]
   exact .eq rfl (.ret rfl)
 | some r=>
   obtain⟨t,g,rfl,ax,_,bH⟩:=av _ _ aD
   have bg:g (dC (jt v) 4)=(dE l (dX 2 v)).map (·.bt):=by
    cases aV:dE l (dX 2 v) with
    | none=>
      cases sJ:g (dC (jt v) 4) with
      | none=>rfl
      | some n=>
        obtain⟨i,ao,aY,b7,_⟩:=(bH _ _).1 sJ
        have:=m8 aV i ao
        rw [(sg (an.ok.ok i ao).dA he).2 ⟨aY.trans ai.symm,b7.trans Pl.symm⟩] at this; cases this
    | some i=>
      obtain⟨ao,ar⟩:=mB aV
      obtain⟨aY,b7⟩:=(sg (an.ok.ok i ao).dA he).1 ar
      exact(bH _ _).2 ⟨i,ao,aY.trans ai,b7.trans Pl,rfl⟩
   have hlen:∀ aE n,g aE=some n→aE.length=4:=fun aE n h=>by
    obtain⟨i,ao,_,b7,_⟩:=(bH _ _).1 h
    obtain⟨w,hw,e⟩:=(an.ok.ok i ao).dA
    rw [← b7,e]
    exact FQ _ _
   have EM:lM g (jt v) 4=(dE l (dX 2 v)).map fun i=>(4,i.bt):=by
    show(match g (dC (jt v) (3 + 1)) with | some id=>some (3 + 1,id) | none=>lM g (jt v) 3)=_
    rw [bg]
    cases dE l (dX 2 v) with
    | none=>exact Lm hlen 3 (by decide)
    | some i=>rfl
   refine .eq (RE ax fun j aB hb=>U7 ⟨v,a3⟩ ⟨j,aB⟩ hb) (.ret ?_)
   rw [EM]
   cases dE l (dX 2 v) <;> rfl
def sX (aR:Nat):Int:=if aR=2 then 2 else 3
def pj (aR:Nat) (hp:aH Cell) (f:ft) (l:List aA) (own:Nat→Prop):Prop:=
 (aR=2∧ ∃ m,f= .kP ⟨0,4,⟨some m⟩⟩∧lX hp m l own)∨ (mv aR∧ ∃ q,f= .kQ ⟨some q⟩∧vJ aR hp q l own)
theorem pj.congr {aR:Nat} {hp hp':aH Cell} {f:ft} {l:List aA} {own:Nat→Prop} (h:pj aR hp f l own) {own':Nat→Prop} (a6:∀ q,q∈cX hp→own q→own' q) (a9:∀ q,own q→pat hp' q=pat hp q):pj aR hp' f l own':=by
 rcases h with⟨rfl,m,rfl,h⟩ | ⟨ar,q,rfl,h⟩
 ·obtain⟨em,J,aa,av,aO,aS,gM⟩:=h.ok
  have key:∀ bu r,cK em bu=some r→ ∃ t g,r=some t∧iE hp t g∧iE hp' t g∧ (∀ q,Own hp t q→own q)∧ (∀ q,Own hp' t q↔Own hp t q)∧ ∀ aE n,g aE=some n↔ ∃ i∈l,dm (cQ i.bd)=bu∧iU i.bd=aE∧i.bt=n:=fun bu r aD=>by
   obtain⟨t,g,rfl,ax,a5,bH⟩:=av bu r aD
   obtain⟨c9,kj⟩:=ax.congr fun q hq=>a9 q (a5 q hq)
   exact⟨t,g,rfl,ax,c9,a5,kj,bH⟩
  refine .inl (⟨rfl,m,rfl,⟨em,by rw [tm (a9 m aa)]; exact J,a6 m (gS (iR J)) aa,fun bu r aD=> ?_,aO,fun bu fj t cI bl nw cN q hq=> ?_,gM⟩⟩)
  ·obtain⟨t,g,rfl,g0,ax,a5,bH,c9⟩:=key bu r aD
   exact⟨t,g,rfl,ax,fun q hq=>a6 q (g0.nb ((bH q).1 hq)) (a5 q ((bH q).1 hq)),c9⟩
  ·obtain⟨_,g,e,g0,ax,a5,bH,c9⟩:=key bu _ bl
   obtain⟨_,de,e',Z2,I7,I8,I9,Z3⟩:=key fj _ nw
   cases e; cases e'
   rw [I9]
   exact aS bu fj t cI bl nw cN q ((bH q).1 hq)
 ·obtain⟨key,cap,J,aa⟩:=h.ok
  exact .inr (⟨ar,q,rfl,⟨key,cap,by rw [KD (a9 q aa)]; exact J,a6 q (gS (pa J)) aa⟩⟩)
theorem MX {aR:Nat} (ar:k5 aR) {hp:aH Cell} {f:ft} {l:List aA} {own:Nat→Prop} (hq:pj aR hp f l own) (an:iW aR l) {e:b1} (he:nA aR e):yN hp f e=some (jH (dE l e)):=by
 rcases hq with⟨rfl,m,rfl,hq⟩ | ⟨dj,q,rfl,hq⟩
 ·exact U5 hq an he
 ·exact U3 dj hq an he
theorem U9 {aR:Nat} (ar:mv aR) {hp:aH Cell} {q:Nat} {l:List aA} {own:Nat→Prop} (hq:vJ aR hp q l own) (an:iW aR l) {v:Nat} (a3:v < 16):uK hp ⟨some q⟩ (iZ 1 (h1 v))=some (jH (dE l (dX aR v))):=by
 obtain⟨key,cap,J,_⟩:=hq.ok
 refine br.get ?_
 unfold uK
 rw [Ji]
 refine .eq rfl (.eq J (.eq (RG ar an.ok a3) (.ret ?_)))
 have:((cO fI l).find? fun c=>fg c.bd (dX aR v))=dE l (dX aR v):=by
  cases aV:dE l (dX aR v) with
  | none=>
    rw [List.find?_eq_none]
    intro x ai
    rw [m8 aV x (na.1 ai)]; simp
  | some i=>
    obtain⟨ao,jC⟩:=mB aV
    exact xv zE an.ok.qd ao jC fun d hd wN=> .inl (an.uniq hd ao (xo wN (by rw [tz]; exact jC)))
 rw [this]
 cases dE l (dX aR v) <;> rfl
theorem Va {aR:Nat} (ar:k5 aR) {hp:aH Cell} {f:ft} {l:List aA} {own:Nat→Prop} (hq:pj aR hp f l own) (an:iW aR l) {v:Nat} (a3:v < 16):B5 hp f (iZ 1 (h1 v))=some (jH (dE l (dX aR v))):=by
 rcases hq with⟨rfl,m,rfl,hq⟩ | ⟨dj,q,rfl,hq⟩
 ·exact U8 hq an a3
 ·exact U9 dj hq an a3
theorem Vb {aR:Nat} (ar:k5 aR) {hp:aH Cell} {f:ft} {l:List aA} {own:Nat→Prop} (hq:pj aR hp f l own) (dQ:∀ q,own q→q∈cX hp) (an:iW aR l) {i:aA} (ao:m2 aR i) (aV:dE l i.bd=none) (jn:fM l i.bt=false) (hlen:l.length < 900):
 cT (Cm hp f i) (fun hp'=>pj aR hp' f (l ++ [i]) (iu own hp hp')∧cw hp hp' own):=by
 rcases hq with⟨rfl,m,rfl,hq⟩ | ⟨dj,q,rfl,hq⟩
 ·exact(U6 hq dQ an ao aV).mono fun hp' aD=>⟨.inl ⟨rfl,m,rfl,aD.1⟩,aD.2⟩
 ·exact(U4 dj hq an ao jn hlen).mono fun hp' aD=>⟨.inr ⟨dj,q,rfl,aD.1⟩,aD.2⟩
theorem Xg {aR:Nat} (ar:k5 aR) {hp:aH Cell} {f:ft} {l:List aA} {own:Nat→Prop} (hq:pj aR hp f l own) (an:iW aR l) {i:aA} (ao:i∈l):
 cT (B4 hp f i) (fun hp'=>pj aR hp' f (fN l i.bd) own∧cw hp hp' own):=by
 rcases hq with⟨rfl,m,rfl,hq⟩ | ⟨dj,q,rfl,hq⟩
 ·exact cT.of ((Xf hq an ao).mono fun hp' aD=>⟨.inl ⟨rfl,m,rfl,aD.1⟩,aD.2⟩)
 ·exact(Xb hq an ao).mono fun hp' aD=>⟨.inr ⟨dj,q,rfl,aD.1⟩,aD.2⟩
theorem lC.Ie {aR:Nat} {em:List (Int × aA)} {l:List aA} (h:lC em l) (an:kI aR l) (n:Int) (i:aA):cK em n=some i↔i∈l∧i.bt=n:=by
 have hd:em.Pairwise (fun a c=>a.1≠c.1):=by
  refine(h.pairwise_iff fun bS=>Ne.symm bS).2 ?_
  rw [List.pairwise_map]
  exact an.num.imp fun bS=>bS
 have hm:(n,i)∈em↔i∈l∧i.bt=n:=by
  rw [h.mem_iff,List.mem_map]
  constructor
  ·rintro ⟨c,ag,e⟩
   cases e; exact⟨ag,rfl⟩
  ·rintro ⟨ao,rfl⟩
   exact⟨i,ao,rfl⟩
 rw [← hm]
 exact⟨Gi,GI hd⟩
theorem lC.Z6 {aR:Nat} {em:List (Int × aA)} {l:List aA} (h:lC em l) (an:kI aR l) (n:Int):(cK em n).isSome=fM l n:=by
 rw [Bool.eq_iff_iff,Option.isSome_iff_exists]
 unfold fM
 rw [List.any_eq_true]
 constructor
 ·rintro ⟨i,ao⟩
  obtain⟨J,aa⟩:=(h.Ie an n i).1 ao
  exact⟨i,J,by simpa using aa⟩
 ·rintro ⟨i,ao,aa⟩
  exact⟨i,(h.Ie an n i).2 ⟨ao,by simpa using aa⟩⟩
theorem lC.Z7 {aR:Nat} {em:List (Int × aA)} {l:List aA} (h:lC em l) (an:kI aR l):mu em:=by
 refine(h.pairwise_iff fun bS=>Ne.symm bS).2 ?_
 rw [List.pairwise_map]
 exact an.num.imp fun bS=>bS
structure kY (aR:Nat) (hp:aH Cell) (p:Nat) (l:List aA) (own:Nat→Prop):Prop where
 ha:iW aR l
 cell:∃ f m em,fF hp p=some ⟨(sX aR),(1:Int),f,⟨some m⟩⟩∧iH hp m=some em∧own p∧own m∧lC em l∧pj aR hp f l (fun q=>own q∧q≠m∧q≠p)
 mW:∀ q,own q→q∈cX hp
theorem kY.congr {aR:Nat} {hp hp':aH Cell} {p:Nat} {l:List aA} {own:Nat→Prop} (h:kY aR hp p l own) (ar:∀ q,q∈cX hp→q∈cX hp') (a9:∀ q,own q→pat hp' q=pat hp q):kY aR hp' p l own:=by
 obtain⟨f,m,em,J,aa,av,aO,aS,aY⟩:=h.cell
 exact⟨h.ha,⟨f,m,em,by rw [KE (a9 p av)]; exact J,by rw [KF (a9 m aO)]; exact aa,av,aO,aS,aY.congr (fun q _ hq=>hq) fun q hq=>a9 q hq.1⟩,fun q hq=>ar q (h.mW q hq)⟩
theorem kY.nW {aR:Nat} {hp hp':aH Cell} {p:Nat} {l:List aA} {own own':Nat→Prop} (h:kY aR hp p l own) (ar:cw hp hp' own') (hd:∀ q,own q→ ¬ own' q):kY aR hp' p l own:=
 h.congr ar.keys fun q hq=>ar.rest q (h.mW q hq) (hd q hq)
theorem Ln {aR:Nat} (ar:k5 aR) {hp:aH Cell} {p:Nat} {l:List aA} {own:Nat→Prop} (ai:kY aR hp p l own) {o:Option aA} (a6:∀ i,o=some i→i∈l):s7 hp (some p) (jH o).1 (jH o).2=some (ml o):=by
 obtain⟨f,m,em,J,aa,av,aO,aS,aY⟩:=ai.cell
 refine br.get ?_
 unfold s7
 cases o with
 | none=>exact .cond (fun _=> .ret rfl) fun ag=>by cases ag
 | some i=>
   have ao:=a6 i rfl
   refine .cond (fun ag=>by cases ag) fun _=> .eq rfl (.eq J (.eq rfl (.eq aa (.eq rfl ?_))))
   have bg:cK em i.bt=some i:=(aS.Ie ai.ha.ok _ _).2 ⟨ao,rfl⟩
   show br (Option.bind (lO ((cK em i.bt).getD default)) _) _
   rw [bg]
   exact .eq (zD (ai.ha.ok.ok i ao)) (.ret rfl)
theorem Ta {aR:Nat} (ar:k5 aR) {hp:aH Cell} {p:Nat} {l:List aA} {own:Nat→Prop} (ai:kY aR hp p l own) {e:b1} (he:nA aR e):uP hp (some p) e=some (ml (dE l e)):=by
 obtain⟨f,m,em,J,aa,av,aO,aS,aY⟩:=ai.cell
 refine br.get ?_
 unfold uP
 refine .cond (fun ag=>by cases ag) fun _=> .eq rfl (.eq J (.eq (MX ar aY ai.ha he) (.eq (Ln ar ai fun i ao=>(mB ao).1) (.ret rfl))))
theorem R3 {aR:Nat} (ar:k5 aR) {hp:aH Cell} {p:Nat} {l:List aA} {own:Nat→Prop} (ai:kY aR hp p l own) {u:Nat} (hu:u < 16):rm hp (some p) (h1 u)=some (ml (dE l (dX aR u))):=by
 obtain⟨f,m,em,J,aa,av,aO,aS,aY⟩:=ai.cell
 refine br.get ?_
 unfold rm
 refine .cond (fun ag=>by cases ag) fun _=> ?_
 refine br.loop 4 (fun i st=>st.1=(i:Int)∧ ∀ j,j < 4→bB st.2 j=if j < i then(if j < 1 then bB (h1 u) j else default) else bB (h1 u) j) (by decide) ⟨rfl,fun j aB=>rfl⟩ (fun i st ao hs=> ?_) (fun st hs=> ?_)
 ·obtain⟨j,v⟩:=st
  obtain⟨az,aX⟩:=hs
  simp only at az aX; subst az
  refine .cond (fun _=> .eq rfl (.eq J ?_)) (fun ag=>by simp at ag; omega)
  refine .bind (P:=fun rh=> ∀ j,j < 4→bB rh j=if j < i + 1 then(if j < 1 then bB (h1 u) j else default) else bB (h1 u) j) (.cond (fun ag=> .idx rfl ao (.ret fun j aB=> ?_)) fun ag=> .ret fun j aB=> ?_) fun rh lJ=> .ret ⟨g5 (by omega),lJ⟩
  ·have ag:1≤i:=by simp at ag; omega
   rw [og _ _ ao]
   by_cases eX:j=i
   ·rw [if_pos eX,if_pos (show j < i + 1 by omega),if_neg (show ¬ j < 1 by omega)]
   ·rw [if_neg eX,aX j aB]
    by_cases bY:j < i
    ·rw [if_pos bY,if_pos (show j < i + 1 by omega)]
    ·rw [if_neg bY,if_neg (show ¬ j < i + 1 by omega)]
  ·have ag:i < 1:=by simp at ag; omega
   rw [aX j aB]
   by_cases eX:j=i
   ·rw [if_neg (show ¬ j < i by omega),if_pos (show j < i + 1 by omega),if_pos (show j < 1 by omega)]
   ·by_cases bY:j < i
    ·rw [if_pos bY,if_pos (show j < i + 1 by omega)]
    ·rw [if_neg bY,if_neg (show ¬ j < i + 1 by omega)]
 ·obtain⟨j,v⟩:=st
  obtain⟨az,aX⟩:=hs
  simp only at az aX; subst az
  refine⟨_,by simp; rfl,?_⟩
  have a3:v=iZ (1) (h1 u):=u9 fun j aB=>by rw [aX j aB,if_pos aB,lT aB]
  subst a3
  exact .eq rfl (.eq J (.eq (Va ar aY ai.ha hu) (.eq (Ln ar ai fun i ao=>(mB ao).1) (.ret rfl))))
theorem T2 {aR:Nat} {hp:aH Cell} {p:Nat} {l:List aA} {own:Nat→Prop} (ai:kY aR hp p l own):rr hp (some p)=some (l.length:Int):=by
 obtain⟨f,m,em,J,aa,av,aO,aS,aY⟩:=ai.cell
 have an:em.length=l.length:=by rw [aS.length_eq,List.length_map]
 refine br.get ?_
 unfold rr
 refine .cond (fun ag=>by cases ag) fun _=> .eq rfl (.eq J (.eq rfl (.eq aa ?_)))
 rw [an]
 first | exact .ret rfl | exact .eq rfl (.ret rfl)
theorem kY.mono {aR:Nat} {hp:aH Cell} {p:Nat} {l:List aA} {own own':Nat→Prop} (h:kY aR hp p l own) (a6:∀ q,own q→own' q) (ao:∀ q,own' q→q∈cX hp):kY aR hp p l own':=by
 obtain⟨f,m,em,J,aa,av,aO,aS,aY⟩:=h.cell
 exact⟨h.ha,⟨f,m,em,J,aa,a6 p av,a6 m aO,aS,aY.congr (fun q _ hq=>⟨a6 q hq.1,hq.2⟩) fun q hq=>rfl⟩,ao⟩
theorem iW.snoc {aR:Nat} {l:List aA} (h:iW aR l) {i:aA} (ao:m2 aR i) (aV:dE l i.bd=none) (aF:fM l i.bt=false) (an:l.length < 900):iW aR (l ++ [i]) where
 ok:=h.ok.snoc ao aF an
 key:=by
  rw [List.pairwise_append]
  exact⟨h.key,by simp,fun a a9 c ag=>by rw [List.mem_singleton.1 ag]; exact m8 aV a a9⟩
theorem T3 {aR:Nat} (ar:k5 aR) {hp:aH Cell} {p:Nat} {l:List aA} {own:Nat→Prop} (ai:kY aR hp p l own) {i:aA} (ao:m2 aR i) (hlen:l.length < 900):
 cT (ru hp (some p) i) (fun r=>r.1=oR l i∧kY aR r.2 p (added l i) (iu own hp r.2)∧cw hp r.2 own):=by
 obtain⟨f,m,em,J,aa,av,aO,aS,aY⟩:=ai.cell
 have hm:=pD aa
 have hp':=kp J
 have hj:p≠m:=fun e=>by rw [e,hm] at hp'; cases hp'
 have dN:=aS.Z6 ai.ha.ok i.bt
 unfold ru
 refine .cond (fun ag=>by cases ag) fun _=> .eq rfl (.eq J (.eq rfl (.eq aa (.eq rfl (.eq rfl (.eq J (.eq (MX ar aY ai.ha ao.dA) (.cond (fun ag=> .ret ?_) fun ag=> ?_))))))))
 ·rw [dN,DC,Bool.or_eq_true] at ag
  have bl:oR l i=false:=by
   unfold oR
   rcases ag with ag | ag
   ·cases aV:dE l i.bd with
    | none=>rw [aV] at ag; cases ag
    | some _=>rfl
   ·rw [ag]; simp
  refine⟨bl.symm,?_,.refl⟩
  unfold added
  rw [bl]
  exact ai.mono (fun q hq=> .inl hq) fun q hq=>hq.elim (ai.mW q) fun hq=>absurd hq.2 hq.1
 ·rw [dN,DC,Bool.or_eq_false_iff] at ag
  obtain⟨bw,b5⟩:=ag
  have aV:dE l i.bd=none:=by
   cases aV:dE l i.bd with
   | none=>rfl
   | some _=>rw [aV] at bw; cases bw
  have bl:oR l i=true:=by unfold oR; rw [aV,b5]; rfl
  have bg:cK em i.bt=none:=by
   cases bg:cK em i.bt with
   | none=>rfl
   | some _=>rw [bg,b5] at dN; cases dN
  have aN:pat (ch hp m (Cell.hE (fc em i.bt i))) p=some (.lf ⟨(sX aR),(1:Int),f,⟨some m⟩⟩):=by rw [jK hj.symm]; exact hp'
  have f1:pj aR (ch hp m (Cell.hE (fc em i.bt i))) f l (fun q=>own q∧q≠m∧q≠p):=aY.congr (fun q _ hq=>hq) fun q hq=>jK hq.2.1.symm
  refine .eq rfl (.eq J (.eq (zD ao) (.eq rfl (.eq aa (.eq rfl (.eq (by unfold fF; rw [aN]) (.bind (Vb ar f1 (fun q hq=>by rw [o5]; exact ai.mW q hq.1) ai.ha ao aV b5 hlen) fun fH aD=> .ret ⟨bl.symm,?_,?_⟩)))))))
  ·obtain⟨e1,ea⟩:=aD
   have cq:pat fH p=some (.lf ⟨(sX aR),(1:Int),f,⟨some m⟩⟩):=by rw [ea.rest p (gS aN) (fun hq=>hq.2.2 rfl)]; exact aN
   have cF:pat fH m=some (.hE (fc em i.bt i)):=by
    have:pat (ch hp m (Cell.hE (fc em i.bt i))) m=some (.hE (fc em i.bt i)):=tF hm
    rw [ea.rest m (gS this) (fun hq=>hq.2.1 rfl)]; exact this
   unfold added
   rw [if_pos bl]
   refine⟨ai.ha.snoc ao aV b5 hlen,⟨f,m,_,by unfold fF; rw [cq],by unfold iH; rw [cF],.inl av,.inl aO,?_,e1.congr (fun q _ hq=> ?_) fun q _=>rfl⟩,fun q hq=> ?_⟩
   ·unfold lC
    rw [Gj bg,List.map_append]
    exact List.Perm.append_right _ aS
   ·rcases hq with hq | ⟨ax,a5⟩
    ·exact⟨.inl hq.1,hq.2⟩
    ·rw [o5] at ax
     exact⟨.inr ⟨ax,a5⟩,fun e=>ax (e ▸ gS hm),fun e=>ax (e ▸ gS hp')⟩
   ·rcases hq with hq | hq
    ·exact ea.keys q (by rw [o5]; exact ai.mW q hq)
    ·exact hq.2
  ·exact(cw.up (own:=own) aO).trans aD.2 fun q _ hq=>hq.1
theorem R4 {aR:Nat} (ar:k5 aR) {hp:aH Cell} {p:Nat} {l:List aA} {own:Nat→Prop} (ai:kY aR hp p l own) {e:b1} (he:nA aR e):
 cT (rl hp (some p) e) (fun r=>(r.1,r.2.1)=ml (dE l e)∧kY aR r.2.2 p (fN l e) own∧cw hp r.2.2 own):=by
 obtain⟨f,m,em,J,aa,av,aO,aS,aY⟩:=ai.cell
 have hm:=pD aa
 have hp':=kp J
 have hj:p≠m:=fun e=>by rw [e,hm] at hp'; cases hp'
 unfold rl
 refine .eq (Ta ar ai he) ?_
 refine .bind (P:=fun bq=>kY aR bq p (fN l e) own∧cw hp bq own) (.cond (fun ag=> ?_) fun ag=> .ret ?_) fun bq cn=> .ret ⟨rfl,cn⟩
 ·cases aV:dE l e with
  | none=>rw [aV] at ag; cases ag
  | some i=>
    obtain⟨ao,jC⟩:=mB aV
    have Jf:fN l i.bd=fN l e:=by
     rw [CM ai.ha ao (Dk _),CM ai.ha ao jC]
    refine .eq rfl (.eq J (.bind (Xg ar aY ai.ha ao) fun bI aD=> ?_))
    obtain⟨e1,ea⟩:=aD
    have e1:pj aR bI f (fN l i.bd) (fun q=>own q∧q≠m∧q≠p):=e1
    rw [Jf] at e1
    show cT (au.bind (au.of (fF bI p)) fun b5=>au.bind (au.of b5.j2.p) fun bU=>au.bind (au.of (iH bI bU)) fun eo=>au.bind (au.of (some (ch bI bU (Cell.hE (gW eo i.bt))))) fun b9=>au.ret b9) _
    have cq:pat bI p=some (.lf ⟨(sX aR),(1:Int),f,⟨some m⟩⟩):=by rw [ea.rest p (gS hp') (fun hq=>hq.2.2 rfl)]; exact hp'
    have cF:pat bI m=some (.hE em):=by rw [ea.rest m (gS hm) (fun hq=>hq.2.1 rfl)]; exact hm
    refine .eq (by unfold fF; rw [cq]) (.eq rfl (.eq (by unfold iH; rw [cF]) (.eq rfl (.ret ?_))))
    have Jg:cw hp bI own:=⟨ea.keys,fun q hq dN=>ea.rest q hq fun h=>dN h.1⟩
    have mT:cw hp (ch bI m (Cell.hE (gW em i.bt))) own:=Jg.trans (cw.up (own:=own) aO) fun q _ hq=>hq
    refine⟨⟨ai.ha.fN e,⟨f,m,_,by unfold fF; rw [jK hj.symm,cq],LO cF,av,aO,?_,e1.congr (fun q _ hq=>hq) fun q hq=>jK hq.2.1.symm⟩,fun q hq=>mT.keys q (ai.mW q hq)⟩,mT⟩
    unfold lC
    rw [FH (aS.Z7 ai.ha.ok),CM ai.ha ao jC]
    refine(aS.filter _).trans ?_
    rw [List.filter_map]
    have:((fun a:Int × aA=>decide (a.1≠i.bt)) ∘ fun c:aA=>(c.bt,c))=fun c=>c.bt !=i.bt:=by
     funext c
     show decide (c.bt≠i.bt)=_
     by_cases e:c.bt=i.bt <;> simp [e]
    rw [this]
 ·have aV:dE l e=none:=by
   cases aV:dE l e with
   | none=>rfl
   | some i=>rw [aV] at ag; cases ag
  have:fN l e=l:=by
   unfold fN
   exact List.filter_eq_self.2 fun c ag=>by rw [m8 aV c ag]; rfl
  rw [this]
  exact⟨ai,.refl⟩
theorem YJ:∀ k:Fin 5,(g3 k.1).cA.length=4:=by decide +kernel
theorem Vc:qx (aJ (g3 2).cA 0)=some (2,0):=by decide +kernel
theorem Vd:qx (aJ (g3 3).cA 0)=some (3,0):=by decide +kernel
theorem Ve:qx (aJ (g3 4).cA 0)=some (3,0):=by decide +kernel
theorem Xh (aR:Nat) (h:aR < 5):(aJ (g3 aR).cA 0).cj= [Eg aR]:=by
 have key:∀ k:Fin 5,(aJ (g3 k.1).cA 0).cj= [Eg k.1]:=by decide +kernel
 exact key ⟨aR,h⟩
theorem Vf:td (g3 2) 4=some 3:=by decide +kernel
theorem T4:(g3 2).hP.length=9:=by decide +kernel
theorem Xi:(aJ (g3 2).hP 3).fz=4:=by decide +kernel
theorem iW.nil {aR:Nat} :iW aR []:=⟨⟨fun i ao=>by(cases ao),.nil,by simp⟩,.nil⟩
structure Ag (aR:Nat) (ga hp:aH Cell) (p:Nat):Prop where
 cell:∃ f m,fF hp p=some ⟨sX aR,1,f,⟨some m⟩⟩∧iH hp m=some []∧
  (aR=2→ ∃ eg,f= .kP ⟨0,4,⟨some eg⟩⟩∧g6 hp eg=some []∧eg ∉ cX ga)∧
  (mv aR→ ∃ q key cap,f= .kQ ⟨some q⟩∧lZ hp q=some (({ mA:=g3 aR,bP:= [] } :ca),key,cap)∧q ∉ cX ga)∧
  p ∉ cX ga∧m ∉ cX ga∧ (∀ q,q∈cX ga→q∈cX hp)∧ ∀ q,q∈cX ga→pat hp q=pat ga q
theorem Vg {aR:Nat} (ar:k5 aR) (hp:aH Cell):cT (lP hp (g3 aR) 1) (fun r=> ∃ p,r.1=some p∧Ag aR hp r.2 p):=by
 have aS:aR < 5:=by unfold k5 at ar; omega
 unfold lP
 refine .eq (U0 ⟨aR,aS⟩) ?_
 refine .cond (fun ag=>by simp at ag) fun _=> ?_
 refine .idx (k:=0) rfl (by rw [YJ ⟨aR,aS⟩]; decide) ?_
 have sN:qx (aJ (g3 aR).cA 0)=some (sX aR,0):=by
  rcases ar with rfl | rfl | rfl
  ·exact Vc
  ·exact Vd
  ·exact Ve
 refine .eq sN (.mk fun m hm=> .eq rfl (.mk fun p b9=> ?_))
 rw [Xh aR aS] at *
 simp only at b9
 have hj:p≠m:=fun e=>by subst e; simp [cX] at b9
 have az:(sX aR ==1)=false:=by
  rcases ar with rfl | rfl | rfl <;> rfl
 have:aR=2∨mv aR:=ar
 rcases this with rfl | dj
 ·have aX:(sX 2 ==2)=true:=rfl
  simp only [az,aX,cond_true,cond_false]
  refine .bind (P:=fun bI=>Ag 2 hp bI p) (.bind (P:=fun bI=>Ag 2 hp bI p) ?_ fun _ aY=> .ret aY) fun bI aS=> .ret ⟨p,rfl,aS⟩
  refine .idx (k:=0) rfl (by decide) ?_
  refine .eq (show td (g3 2) (aJ [Eg 2] 0).gf=some 3 from Vf) ?_
  refine .ps (P:=fun r=>r=4) (.cond (fun _=> .idx (k:=3) rfl (by rw [T4]; decide) (.ret Xi)) (fun ag=>by simp at ag)) fun b hb=> ?_
  subst hb
  refine .mk fun eg fh=> ?_
  simp only [cX,List.map_cons,List.mem_cons,not_or] at fh b9
  refine .eq rfl (.eq (by simp [fF,pat,fh.1]; rfl) (.eq rfl (.ret ?_)))
  refine⟨.kP ⟨0,4,⟨some eg⟩⟩,m,?_,?_,?_,fun ag=>by unfold mv at ag; omega,b9.2,hm,fun x ai=>by rw [o5]; exact List.mem_cons_of_mem _ (List.mem_cons_of_mem _ (List.mem_cons_of_mem _ ai)),fun x ai=> ?_⟩
  ·simp [fF,pat,ch,fh.1]
  ·simp [iH,pat,ch,fh.1,fh.2.1,b9.1]
  ·intro _
   refine⟨eg,rfl,?_,fh.2.2⟩
   simp [g6,pat,ch,fh.1,fh.2.1,b9.1]
  ·have oY:eg≠x:=fun e=>fh.2.2 (by rw [e]; exact ai)
   have sV:p≠x:=fun e=>b9.2 (by rw [e]; exact ai)
   have sW:m≠x:=fun e=>hm (by rw [e]; exact ai)
   simp [vf,pat,oY,sV,sW]
 ·have aX:(sX aR ==2)=false:=by
   rcases dj with rfl | rfl <;> rfl
  simp only [az,aX,cond_true,cond_false]
  refine .bind (P:=fun bI=>Ag aR hp bI p) (.bind (P:=fun bI=>Ag aR hp bI p) ?_ fun _ aY=> .ret aY) fun bI aS=> .ret ⟨p,rfl,aS⟩
  refine .eq rfl (.any fun hJ=> .mk fun q hq=> ?_)
  simp only [cX,List.map_cons,List.mem_cons,not_or] at hq b9
  refine .eq (by simp [fF,pat,hq.1]; rfl) (.eq rfl (.ret ?_))
  refine⟨.kQ ⟨some q⟩,m,?_,?_,fun ag=>by subst ag; unfold mv at dj; omega,fun _=>⟨q,hJ.1,hJ.2,rfl,?_,hq.2.2⟩,b9.2,hm,fun x ai=>by rw [o5]; exact List.mem_cons_of_mem _ (List.mem_cons_of_mem _ (List.mem_cons_of_mem _ ai)),fun x ai=> ?_⟩
  ·simp [fF,pat,ch,hq.1]
  ·simp [iH,pat,ch,hq.1,hq.2.1,b9.1]
  ·simp [lZ,pat,ch,hq.1]
  ·have oY:q≠x:=fun e=>hq.2.2 (by rw [e]; exact ai)
   have sV:p≠x:=fun e=>b9.2 (by rw [e]; exact ai)
   have sW:m≠x:=fun e=>hm (by rw [e]; exact ai)
   simp [vf,pat,oY,sV,sW]
theorem T5 {aR:Nat} (ar:k5 aR) (hp:aH Cell):cT (lP hp (g3 aR) 1) (fun r=> ∃ p,r.1=some p∧kY aR r.2 p [] (iu mX hp r.2)∧cw hp r.2 mX):=by
 refine(Vg ar hp).mono fun r aD=> ?_
 obtain⟨p,e,aD⟩:=aD
 obtain⟨f,m,J,aS,b7,dV,eQ,iz,pt,Br⟩:=aD.cell
 have hm:=pD aS
 have hp':=kp J
 refine⟨p,e,⟨iW.nil,⟨f,m,[],J,aS,.inr ⟨eQ,gS hp'⟩,.inr ⟨iz,gS hm⟩,List.Perm.refl _,?_⟩,fun q hq=>hq.elim (fun h=>h.elim) fun h=>h.2⟩,⟨pt,fun q hq _=>Br q hq⟩⟩
 have key:∀ q c,pat r.2 q=some c→ (∀ x,c≠ .hE x)→ (∀ x,c≠ .lf x)→q ∉ cX hp→iu mX hp r.2 q∧q≠m∧q≠p:=fun q c ag oY BP aF=>
  ⟨.inr ⟨aF,gS ag⟩,fun e=>by rw [e,hm] at ag; cases ag; exact oY _ rfl,fun e=>by rw [e,hp'] at ag; cases ag; exact BP _ rfl⟩
 have:aR=2∨mv aR:=ar
 rcases this with rfl | dj
 ·obtain⟨eg,rfl,ax,a5⟩:=b7 rfl
  exact .inl ⟨rfl,eg,rfl,⟨[],ax,key eg _ (iR ax) (fun _ h=>by cases h) (fun _ h=>by cases h) a5,fun bu r h=>(by cases h),fun bu _ i ao=>(by cases ao),fun bu fj t cI h=>(by cases h),.nil⟩⟩
 ·obtain⟨q,JL,cap,rfl,ax,a5⟩:=dV dj
  exact .inr ⟨dj,q,rfl,⟨JL,cap,ax,key q _ (pa ax) (fun _ h=>by cases h) (fun _ h=>by cases h) a5⟩⟩
def sY (aR:Nat):Prop:=aR=1∨k5 aR
def qY (a:List (Nat × Int)) (w:Nat):Option (Nat × Int):=a.find? fun c=>decide (c.1=w)
def Ig (a:List (Nat × Int)) (w:Nat) (n:Int):Bool:=(qY a w).isNone && !a.any fun c=>c.2 ==n
def sh (a:List (Nat × Int)) (w:Nat) (n:Int):List (Nat × Int):=if Ig a w n=true then a ++ [(w,n)] else a
def x3 (a:List (Nat × Int)) (w:Nat):List (Nat × Int):=a.filter fun c=> !decide (c.1=w)
def n4 (a:List (Nat × Int)):Prop:= ∀ c∈a,c.1 < 16
theorem CZ {aR:Nat} (ar:sY aR) {w:Nat} (hw:w < 16):∀ {a:List (Nat × Int)},n4 a→dE (a.map (hN aR)) (dX aR w)=(qY a w).map (hN aR)
 | [],_=>rfl
 | c :: a,h=>by
   have bD:=CZ ar hw (a:=a) fun x ai=>h x (List.mem_cons_of_mem _ ai)
   have ag:=h c List.mem_cons_self
   unfold dE qY at *
   rw [List.map_cons,List.find?_cons,List.find?_cons,show fg (hN aR c).bd (dX aR w)=decide (c.1=w) from EO ar ag hw]
   by_cases e:c.1=w
   ·rw [decide_eq_true e]; rfl
   ·rw [decide_eq_false e]; exact bD
theorem Tb {aR:Nat} {n:Int} (a:List (Nat × Int)):fM (a.map (hN aR)) n=a.any fun c=>c.2 ==n:=by
 unfold fM
 rw [List.any_map]; rfl
theorem Tc {aR:Nat} (ar:sY aR) {w:Nat} (hw:w < 16) {n:Int} {a:List (Nat × Int)} (h:n4 a):oR (a.map (hN aR)) (hN aR (w,n))=Ig a w n:=by
 unfold oR Ig
 rw [show(hN aR (w,n)).bd=dX aR w from rfl,show(hN aR (w,n)).bt=n from rfl,CZ ar hw h,Tb]
 cases qY a w <;> rfl
theorem LR {aR:Nat} (ar:sY aR) {w:Nat} (hw:w < 16) {n:Int} {a:List (Nat × Int)} (h:n4 a):added (a.map (hN aR)) (hN aR (w,n))=(sh a w n).map (hN aR):=by
 unfold added sh
 rw [Tc ar hw h]
 split
 ·rw [List.map_append]; rfl
 ·rfl
theorem LS {aR:Nat} (ar:sY aR) {w:Nat} (hw:w < 16) {a:List (Nat × Int)} (h:n4 a):fN (a.map (hN aR)) (dX aR w)=(x3 a w).map (hN aR):=by
 unfold fN x3
 rw [List.filter_map]
 congr 1
 refine List.filter_congr fun c ag=> ?_
 show(!fg (hN aR c).bd (dX aR w))=_
 rw [show fg (hN aR c).bd (dX aR w)=decide (c.1=w) from EO ar (h c ag) hw]
theorem n4.add {a:List (Nat × Int)} (h:n4 a) {w:Nat} (hw:w < 16) (n:Int):n4 (sh a w n):=fun c ag=>by
 unfold sh at ag
 split at ag
 ·rcases List.mem_append.1 ag with J | J
  ·exact h c J
  ·rw [List.mem_singleton.1 J]; exact hw
 ·exact h c ag
theorem n4.rem {a:List (Nat × Int)} (h:n4 a) (w:Nat):n4 (x3 a w):=fun c ag=>h c (List.mem_filter.1 ag).1
theorem Td (a:List (Nat × Int)) (w:Nat) (n:Int):(sh a w n).length≤a.length + 1:=by
 unfold sh; split
 ·simp
 ·omega
theorem Te (a:List (Nat × Int)) (w:Nat):(x3 a w).length≤a.length:=List.length_filter_le _ _
theorem YK:∀ w:Fin 16,∀ j:Fin 128,b4 (jt w.1) j.1=true→ (j.1:Int) < j1 oa:=by decide +kernel
theorem Ih {w:Nat} (hw:w < 16):jz qf 0 (dX 1 w):=by
 have h:=rX
 refine⟨rfl,by rw [h.Ad]; rfl,fun i ao=> ?_,by show 0≤10; decide,fun _=>rfl⟩
 rw [h.Ad] at ao ⊢
 have:i=0:=by have:i < 1:=ao; omega
 subst this
 show r8 1 (j1 oa) { (default:c5) with ho:=true,cL:=jt w }
 exact⟨fun h=>(by cases h),fun _=>rfl,fun _ j aB a3=>YK ⟨w,hw⟩ ⟨j,aB⟩ a3,fun h=>(by cases h),fun h=>(by cases h),Yw,fun h=>(by cases h),fun _=>rfl,fun _=>rfl,fun h=>(by cases h),fun h=>(by cases h),fun h=>(by cases h),fun _=>rfl⟩
theorem OF {aR w:Nat} (hw:w < 16):nA aR (dX aR w):=⟨w,hw,rfl⟩
def ki (aR:Nat) (hp:aH Cell) (p:Nat) (a:List (Nat × Int)) (own:Nat→Prop):Prop:=
 (aR=1∧kS qf 0 hp p (a.map (hN 1)) own)∨ (k5 aR∧kY aR hp p (a.map (hN aR)) own)
theorem ki.nW {aR:Nat} {hp hp':aH Cell} {p:Nat} {a:List (Nat × Int)} {own own':Nat→Prop} (h:ki aR hp p a own) (ar:cw hp hp' own') (hd:∀ q,own q→ ¬ own' q):ki aR hp' p a own:=
 h.elim (fun h=> .inl ⟨h.1,h.2.nW ar hd⟩) fun h=> .inr ⟨h.1,h.2.nW ar hd⟩
theorem ki.ew {aR:Nat} {hp hp':aH Cell} {p:Nat} {a:List (Nat × Int)} {own:Nat→Prop} (h:ki aR hp p a own) (ar:cw hp hp' mX):ki aR hp' p a own:=h.nW ar fun _ _ h=>h
theorem ki.mW {aR:Nat} {hp:aH Cell} {p:Nat} {a:List (Nat × Int)} {own:Nat→Prop} (h:ki aR hp p a own):∀ q,own q→q∈cX hp:=
 h.elim (fun h=>h.2.mW) fun h=>h.2.mW
theorem Xj {aR:Nat} (ar:sY aR) (hp:aH Cell):cT (lP hp (g3 aR) 1) (fun r=> ∃ p,r.1=some p∧ki aR r.2 p [] (iu mX hp r.2)∧cw hp r.2 mX):=by
 rcases ar with rfl | ar
 ·rw [Z5]
  exact(UY rX (k:=0) (by decide) hp).mono fun r ⟨p,J,aa,av⟩=>⟨p,J,.inl ⟨rfl,aa⟩,av⟩
 ·exact(T5 ar hp).mono fun r ⟨p,J,aa,av⟩=>⟨p,J,.inr ⟨ar,aa⟩,av⟩
theorem Xk {aR:Nat} {hp:aH Cell} {p:Nat} {a:List (Nat × Int)} {own:Nat→Prop} (ai:ki aR hp p a own) (a9:n4 a) {w:Nat} (hw:w < 16) (n:Int) (hlen:a.length < 900):
 cT (ru hp (some p) (hN aR (w,n))) (fun r=>ki aR r.2 p (sh a w n) (iu own hp r.2)∧cw hp r.2 own):=by
 rcases ai with⟨rfl,ai⟩ | ⟨ar,ai⟩
 ·refine(UZ rX (k:=0) (by decide) ai (i:=hN 1 (w,n)) ⟨Ih hw⟩ (by rw [List.length_map]; exact hlen)).mono fun r aD=>⟨.inl ⟨rfl,?_⟩,aD.2.2⟩
  rw [← LR (.inl rfl) hw a9]; exact aD.2.1
 ·refine(T3 ar ai (i:=hN aR (w,n)) ⟨OF hw⟩ (by rw [List.length_map]; exact hlen)).mono fun r aD=>⟨.inr ⟨ar,?_⟩,aD.2.2⟩
  rw [← LR (.inr ar) hw a9]; exact aD.2.1
theorem Tf {aR:Nat} {hp:aH Cell} {p:Nat} {a:List (Nat × Int)} {own:Nat→Prop} (ai:ki aR hp p a own) (a9:n4 a) {w:Nat} (hw:w < 16):
 cT (rl hp (some p) (dX aR w)) (fun r=>ki aR r.2.2 p (x3 a w) own∧cw hp r.2.2 own):=by
 rcases ai with⟨rfl,ai⟩ | ⟨ar,ai⟩
 ·refine(SG rX (k:=0) (by decide) ai (Ih hw)).mono fun r aD=>⟨.inl ⟨rfl,?_⟩,aD.2.2⟩
  rw [← LS (.inl rfl) hw a9]; exact aD.2.1
 ·refine(R4 ar ai (OF hw)).mono fun r aD=>⟨.inr ⟨ar,?_⟩,aD.2.2⟩
  rw [← LS (.inr ar) hw a9]; exact aD.2.1
theorem N3 {aR:Nat} {hp:aH Cell} {p:Nat} {a:List (Nat × Int)} {own:Nat→Prop} (ai:ki aR hp p a own):rr hp (some p)=some (a.length:Int):=by
 rcases ai with⟨rfl,ai⟩ | ⟨ar,ai⟩
 ·rw [UX ai,List.length_map]
 ·rw [T2 ai,List.length_map]
theorem Z8 {s:a2} (h:dH s):gV s 0=1:=by unfold gV; rw [h.Ad]; rfl
theorem LU {aR:Nat} {hp:aH Cell} {p:Nat} {a:List (Nat × Int)} {own:Nat→Prop} (ai:ki aR hp p a own) (a9:n4 a) {v:Nat} (a3:v < 16):
 rm hp (some p) (h1 v)=some (ml ((qY a v).map (hN aR))):=by
 rcases ai with⟨rfl,ai⟩ | ⟨ar,ai⟩
 ·rw [SE rX (by decide) ai,← CZ (.inl rfl) a3 a9]
  congr 2
  have an:=ai.ha
  have hm:∀ c∈a.map (hN 1),mt qf 0 (h1 v) c.bd=true↔fg c.bd (dX 1 v)=true:=fun c ag=>by
   have he:=(an.ok.ok c ag).dA
   rw [Dj rX he,yk rX he (Ih a3),Z8 rX,Ji,N2 (.inl rfl)]
   exact eq_comm
  unfold mn
  cases aV:dE (a.map (hN 1)) (dX 1 v) with
  | none=>
    refine GD fun d hd=> ?_
    rw [Bool.eq_false_iff,ne_eq,hm d hd,m8 aV d hd]; simp
  | some i=>
    obtain⟨ao,jC⟩:=mB aV
    refine xv (vn qf 0) an.ok.qd ao ((hm i ao).2 jC) fun d hd wN=> .inl (an.uniq hd ao (xo ((hm d hd).1 wN) (by rw [tz]; exact jC)))
 ·rw [R3 ar ai a3,CZ (.inr ar) a3 a9]
def AJ (al:BitVec 8) (xs:List (BitVec 8)) (a:List (Nat × Int)) (k:Nat):List (Nat × Int):=
 if ((aJ xs k % 16#8 ==al % 16#8) && ((k:Int).tmod 2 ==1))=true then x3 (sh a (aJ xs k % 16#8).toNat ((k + 1:Nat):Int)) (aJ xs k % 16#8).toNat else sh a (aJ xs k % 16#8).toNat ((k + 1:Nat):Int)
def oC (al:BitVec 8) (xs:List (BitVec 8)):Nat→List (Nat × Int)
 | 0=> []
 | k + 1=>AJ al xs (oC al xs k) k
theorem Pm (b:BitVec 8):(b % 16#8).toNat < 16:=by
 rw [BitVec.toNat_umod]
 exact Nat.mod_lt _ (by decide)
theorem GJ (al:BitVec 8) (xs:List (BitVec 8)):∀ k,n4 (oC al xs k)∧ (oC al xs k).length≤k
 | 0=>⟨fun c ag=>(by cases ag),Nat.le_refl 0⟩
 | k + 1=>by
   obtain⟨J,aa⟩:=GJ al xs k
   have av:=J.add (Pm (aJ xs k)) ((k + 1:Nat):Int)
   have aO:=Td (oC al xs k) (aJ xs k % 16#8).toNat ((k + 1:Nat):Int)
   unfold oC AJ
   split
   ·exact⟨av.rem _,Nat.le_trans (Te _ _) (by omega)⟩
   ·exact⟨av,by omega⟩
theorem cw.ew {bA J aa:aH Cell} {own:Nat→Prop} (a:cw bA J mX) (b:cw J aa own) (aV:∀ q,own q→q ∉ cX bA):cw bA aa mX:=
 a.trans b fun q hq a6=>absurd hq (aV q a6)
theorem Vh (b:BitVec 8):({ (default:aw) with cv:=b.setWidth 64 } :aw)=jt b.toNat:=by
 unfold jt
 rw [BitVec.ofNat_toNat]
theorem Tg (v:Nat):fW (default:Vector aw 4) 0 ({ (default:aw) with cv:=BitVec.ofInt 64 (v:Int) } :aw)=h1 v:=by
 unfold h1 jt
 rw [BitVec.ofInt_natCast]
theorem YL {aR:Nat} (ar:sY aR) (w:Nat) (e:b1) (he:e=({ (default:b1) with et:=1,cd:= [E4 aR w],m6:=1 } :b1)):cond (decide ((aR:Int)≥3)) (some ({ e with jv:=3 } :b1)) (some e)=some (dX aR w):=by
 subst he
 rcases ar with rfl | rfl | rfl | rfl <;> rfl
theorem T6 {aR:Nat} (ar:sY aR) (al:BitVec 8) (xs:List (BitVec 8)) (g7:xs.length≤12) (bA:aH Cell) {p:Nat} {b9:aH Cell} {Ii:Nat→Prop} (ai:ki aR b9 p [] Ii) (aV:∀ q,Ii q→q ∉ cX bA) (IS:cw bA b9 mX)
 {body:Int × aH Cell→au ((Int × aH Cell) ⊕ (Int × Bool × aH Cell))}
 (hb:∀ (k:Nat) (bI:aH Cell) (P:((Int × aH Cell) ⊕ (Int × Bool × aH Cell))→Prop),k < xs.length→cT (au.bind (ru bI (some p) (hN aR ((aJ xs k % 16#8).toNat,((k + 1:Nat):Int)))) fun e9=>au.bind (au.of (qO (aJ xs k) (16#8))) fun gm=>au.bind (au.of (qO al (16#8))) fun iD=>au.bind (au.of (cb (gm ==iD) true (vT (k:Int) 2))) fun ib=>au.bind (cond ((gm ==iD) && (ib ==1)) (au.bind (rl e9.2 (some p) (dX aR (aJ xs k % 16#8).toNat)) fun hU=>au.ret hU.2.2) (au.ret e9.2)) fun cx=>au.ret (.inl (bE ((k:Int) + 1),cx))) P→cT (body ((k:Int),bI)) P)
 (he:∀ (bI:aH Cell) (P:((Int × aH Cell) ⊕ (Int × Bool × aH Cell))→Prop),(∀ b,P (.inr ((xs.length:Int),b,bI)))→cT (body ((xs.length:Int),bI)) P):
 cT (ox fX body (0,b9)) (fun e=> ∃ own,ki aR e.2.2 p (oC al xs xs.length) own∧cw bA e.2.2 mX):=by
 refine cT.loop xs.length (fun k st=>st.1=(k:Int)∧ ∃ own,ki aR st.2 p (oC al xs k) own∧ (∀ q,own q→q ∉ cX bA)∧cw bA st.2 mX) (by omega) ⟨rfl,Ii,ai,aV,IS⟩ (fun k st sw hs=> ?_) (fun st hs=> ?_)
 ·obtain⟨j,bI⟩:=st
  obtain⟨e,own,i1,i2,i3⟩:=hs
  simp only at e i1 i3
  subst e
  refine hb k bI _ sw ?_
  obtain⟨bT,bU⟩:=GJ al xs k
  have hw:=Pm (aJ xs k)
  refine .bind (Xk i1 bT hw _ (by omega)) fun e9 b7=> ?_
  obtain⟨ax,a5⟩:=b7
  have Jk:∀ q,iu own bI e9.2 q→q ∉ cX bA:=fun q hq=>hq.elim (i2 q) fun hq h=>hq.1 (i3.keys q h)
  have Pn:cw bA e9.2 mX:=i3.ew a5 i2
  refine .eq (a:=aJ xs k % 16#8) (by unfold qO; rw [if_neg (by decide)]) (.eq (a:=al % 16#8) (by unfold qO; rw [if_neg (by decide)]) ?_)
  refine .cb (P:=fun y=>y=(k:Int).tmod 2) (fun _=>⟨_,by unfold vT; rw [if_neg (by decide)],rfl⟩) fun ib iz=> ?_
  have pd:oC al xs (k + 1)=AJ al xs (oC al xs k) k:=rfl
  refine .bind (P:=fun cx=> ∃ own,ki aR cx p (oC al xs (k + 1)) own∧ (∀ q,own q→q ∉ cX bA)∧cw bA cx mX) (.cond (fun ag=> ?_) fun ag=> ?_) fun cx ed=> .ret ⟨g5 (by omega),ed⟩
  ·have di:(aJ xs k % 16#8 ==al % 16#8)=true:=by rw [Bool.and_eq_true] at ag; exact ag.1
   rw [iz di] at ag
   refine .bind (Tf ax (bT.add hw _) hw) fun hU pt=> .ret ⟨_,?_,Jk,Pn.ew pt.2 Jk⟩
   rw [pd]; unfold AJ
   rw [if_pos ag]; exact pt.1
  ·refine .ret ⟨_,?_,Jk,Pn⟩
   rw [pd]; unfold AJ
   rw [if_neg]
   ·exact ax
   ·intro eW
    have di:(aJ xs k % 16#8 ==al % 16#8)=true:=by rw [Bool.and_eq_true] at eW; exact eW.1
    rw [← iz di,ag] at eW; cases eW
 ·obtain⟨j,bI⟩:=st
  obtain⟨e,own,i1,i2,i3⟩:=hs
  simp only at e i1 i3
  subst e
  exact he _ _ fun b=>⟨own,i1,i3⟩
theorem Ro (hp:aH Cell) (ab:List (BitVec 8)) (al:BitVec 8):cT (yT hp ab al) (fun r=>r.1=true):=by
 unfold yT
 refine .eq MV (.eq MW ?_)
 have bl:=rX.qX
 have wx:(ab.take 12).length≤12:=by rw [List.length_take]; omega
 refine .bind (P:=fun e=> ∀ j,j < 4→ ∃ p own,bB e.2.2.1 j=some p∧ki (j + 1) e.2.2.2 p (oC al (ab.take 12) (ab.take 12).length) own)
  (cT.loop 4 (fun i st=>st.1=((i + 1:Nat):Int)∧ ∀ j,j < i→ ∃ p own,bB st.2.1 j=some p∧ki (j + 1) st.2.2 p (oC al (ab.take 12) (ab.take 12).length) own) (by decide) ⟨rfl,fun j aB=>by omega⟩ (fun i st ao hs=> ?_) (fun st hs=> ?_)) fun az Po=> ?_
 ·obtain⟨JK,v,bA⟩:=st
  obtain⟨e,hs⟩:=hs
  simp only at e hs
  subst e
  have ar:sY (i + 1):=by unfold sY k5; omega
  refine .cond (fun _=> ?_) (fun ag=>by simp at ag; omega)
  refine .eq (a:=qf.cA) (by rw [show Jh.1.cA=qf.cA from rfl,ko _ _ (by rw [bl]; decide) (by decide)]; rfl) (.eq rfl (.idx (k:=0) rfl (by rw [bl]; decide) (.eq (a:=g3 (i + 1)) rfl (.bind (Xj ar bA) fun cD aO=> ?_))))
  obtain⟨p,gP,ax,a5⟩:=aO
  obtain⟨aa2,b9⟩:=cD
  simp only at gP ax a5
  subst gP
  refine .eq (a:=ab.take 12) (by unfold rU; rw [if_pos ⟨by omega,by omega,by omega⟩]; congr 1; simp only [List.drop_zero,Int.toNat_zero,Nat.sub_zero]; rw [show(min (ab.length:Int) 12).toNat=min ab.length 12 by omega]; rw [List.take_eq_take_iff]; omega) ?_
  generalize ab.take 12=xs at *
  refine .bind (T6 ar al xs wx bA ax (fun q hq=>hq.elim (fun h=>h.elim) fun h=>h.1) a5 (fun k bI P sw ck=> ?_) (fun bI P ck=> ?_)) fun aX aa=> ?_
  ·refine .cond (fun _=> ?_) (fun ag=>by simp at ag; omega)
   refine .idx rfl sw (.eq (a:=aJ xs k % 16#8) (by unfold qO; rw [if_neg (by decide)]) (.eq (congrArg some (Vh _)) (.eq rfl (.eq rfl (.eq rfl (.eq rfl (.idx (k:=i) (by rw [hr] <;> omega) ao (.eq rfl (.eq (YL ar (aJ xs k % 16#8).toNat _ rfl) (.eq (a:=hN (i + 1) ((aJ xs k % 16#8).toNat,((k + 1:Nat):Int))) (by rw [g5 (by omega)]; rfl) ?_))))))))))
   exact ck
  ·exact .cond (fun ag=>by simp at ag) fun _=> .ret (ck _)
  ·obtain⟨own,e1,ea⟩:=aa
   refine .idx (k:=i) (by rw [hr] <;> omega) ao (.ret ⟨g5 (by omega),fun j aB=> ?_⟩)
   show ∃ Pp own,bB (fW v i (some p)) j=some Pp∧ki (j + 1) aX.2.2 Pp _ own
   rw [og _ _ ao]
   by_cases eX:j=i
   ·subst eX
    rw [if_pos rfl]
    exact⟨p,own,rfl,e1⟩
   ·rw [if_neg eX]
    obtain⟨EW,own',aN,dR⟩:=hs j (by omega)
    exact⟨EW,own',aN,dR.ew ea⟩
 ·obtain⟨JK,v,bA⟩:=st
  obtain⟨e,hs⟩:=hs
  simp only at e hs
  subst e
  exact .cond (fun ag=>by simp at ag) fun _=> .ret hs
 ·generalize ab.take 12=xs at *
  obtain⟨bT,bU⟩:=GJ al xs xs.length
  generalize oC al xs xs.length=a at *
  obtain⟨abe,aaH,aar,i0⟩:=Po 0 (by decide)
  refine .ps (P:=fun e=> ∃ x,e= .inl x) (br.DU 16 (fun v st=>st=(v:Int)) (by decide) rfl (fun v st a3 hs=> ?_) (fun st hs=> ?_)) fun dS Z9=> ?_
  ·subst hs
   refine .cond (fun _=> ?_) (fun ag=>by simp at ag; omega)
   refine .eq rfl ?_
   simp only [Tg,aar]
   refine .eq (LU i0 bT a3) ?_
   refine .bind (P:=fun e=> ∃ x,e= .inl x) (br.DU 4 (fun j st=>st=(j:Int)) (by decide) rfl (fun j st aB hs=> ?_) (fun st hs=> ?_)) fun gP aaa=> ?_
   ·subst hs
    obtain⟨abf,aaI,aas,PJ⟩:=Po j aB
    refine .cond (fun _=> ?_) (fun ag=>by simp at ag; omega)
    refine .idx rfl aB ?_
    simp only [aas]
    refine .eq (LU PJ bT a3) ?_
    have hb:((ml ((qY a v).map (hN 1))).2 !=(ml ((qY a v).map (hN (j + 1)))).2 || (ml ((qY a v).map (hN 1))).1.bt !=(ml ((qY a v).map (hN (j + 1)))).1.bt)=false:=by
     cases qY a v with
     | none=>rfl
     | some c=>
       show(true !=true || c.2 !=c.2)=false
       simp
    simp only [Nat.zero_add,hb]
    refine .eq (N3 PJ) (.eq (N3 i0) (.eq rfl (.cond (fun ag=> ?_) fun _=> .ret (g5 (by omega)))))
    simp at ag
   ·subst hs
    exact .cond (fun ag=>by simp at ag) fun _=> .ret ⟨_,rfl⟩
   ·obtain⟨x,rfl⟩:=aaa
    exact .ret (g5 (by omega))
  ·subst hs
   exact .cond (fun ag=>by simp at ag) fun _=> .ret ⟨_,rfl⟩
  ·obtain⟨x,rfl⟩:=Z9
   simp only [Sum.elim_inl]
   exact .bind (TT _) fun mR aab=> .ret aab
theorem Rc (ab:List (BitVec 8)) (al:BitVec 8):yT [] ab al (fun r=>r.1=true):=(Ro [] ab al).run
end Go.Proofs.YthkfkliknjiecaaGreat
