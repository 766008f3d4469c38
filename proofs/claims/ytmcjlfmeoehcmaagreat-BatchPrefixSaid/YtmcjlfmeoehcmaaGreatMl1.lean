/-
  The library of the decompiler, as far as it is needed here. Conditions: none.
-/
import Derived.MapKept
import Derived.Maps.RangeRun
import Derived.Shelf.SlSortCmp.NoneTotal
import Derived.Lib.QuietBelow
import Derived.Test.YtmcjlfmeoehcmaaGreatMl0
set_option linter.defProp false
set_option linter.unusedVariables false
set_option linter.unusedSimpArgs false
namespace Gv
open Go
open Option renaming some->S,none->Y,map_some->cA,bind_some->d3,getD_some->d4
open List renaming length->T,take_append_drop->Z,range->b',getElem?_cons_succ->co,getElem?_cons_zero->c6,singleton_append->c',filterMap_cons->du,range'->d2,nil_append->d6,take_add->d'
open Bool renaming true->U,false->V
open Go.Result renaming andThen_ok->a',andThen->dh
open Decidable renaming decide->cb
open Nat renaming blt->cd,beq->ce,ble->c7,sub_zero->dN
open J renaming of->ci
open Go.Deferred renaming ofValue->cl
open Go.Instr renaming checkKey->cm,sameBits->cp,findNow->cq,sameNow->c1,findAsking->c4,mapUpdate->c8,makeFunc->df,endRound->di,findKey->dl,keyThatStays->dL,lookup->dQ,sliceBounds->dR,sliceBound->d1,enterLoop->d5,sliceAt->d9,slice->ei,index->em
open _root_.Array renaming replicate->cn
open Go.Region renaming ready->cr,wanted->ct,seqB->cw,waitsFor->cI,binds->cM
open Inhabited renaming default->c0
open Go.Sem renaming run->c2,run_pure->c5
open aG renaming idx->c3
open Go.Builtin renaming delete_->c9,len_->ea
open True renaming intro->d0
open b0 renaming put->d8
open aK renaming v7->eb
open Fr renaming drew->eo
def Kx{F:Fence}{n f:Nat}{P:cV}{c:ec}{Q:cK->cg->bj->Prop}{a:cg}{e:bj}(aq:F.depth=Y)(g:c.wpIn F n P Q a e):c.wpIn F f P Q a e:=
 λb k cs h i _=>g b k cs h i (λd j=>by simp_all)
def ft.is(ak:Obj):ft where
 holds _ _ x:=x=ak
 oX:=False
 mono _ h:=h
abbrev ft.gL:ft:=.is (.deferred (S []))
def J.jn(f:FuncId)(dF:R J):J where
 holds A W v:=∃h2:R bt,v=.func (.func f) #[] h2.toArray∧ha A W dF h2
 mono e h:=let⟨h2,h1,fx⟩:=h; ⟨h2,h1,fx.mono e⟩
def b0.tH{c E L a g}(b:b0 c E L a g){i d:Nat}{A iv:ft}(l:L[i]? =S ⟨S d,A⟩){rN:Obj}(B:iv.holds (aP L++c.cv) g rN):
 b0 c E (L.set i ⟨S d,iv⟩) a (g.putObj d rN):=by
 have f:aP (L.set i ⟨S d,iv⟩)=aP L:=Ln (gg:=iv) l
 have aC:d∈aP L:=tv.2 ⟨_,fM l,rfl⟩
 have m:Ext (aP L++c.cv) g (aP L++c.cv) (g.putObj d rN):=
  ⟨by simp,λk _ C=>M7 (λh=>C (h▸eN.2 (.inl aC))),λ_ b _=>b⟩
 exact
 {defers:=b.defers
  size:=b.size
  env:=λt p D=>by rw[f];exact let⟨F,j,G⟩:=b.env t p D; ⟨F,j,p.mono m G⟩
  ey:=⟨b.ey.os,b.ey.tape,b.ey.output,b.ey.drawn,by simpa using b.ey.size,λk q r=>by
   rw[M7 (λh:k=d=>r (by subst h;exact b.gl _ aC q))];exact b.ey.block k q r⟩
  own:=λh H=>by
   rw[f];obtain⟨N,e⟩:=ow.1 H;rw[Bu]at e;split at e
   ·rename_i n;subst n;split at e
    ·simp only[iG]at e;subst e;exact⟨_,World.putObj_heap_same (b.lt d aC),iv.mono m B⟩
    simp_all
   rename_i n;have j:=b.own h (fM e);unfold aK.ok at *;split at j
   ·rename_i I J;obtain⟨rN,O,K⟩:=j;have P:I≠d:=λM=>n (QA b.nodup l e o (M▸J));exact⟨rN,by simp_all[M7],ft.mono _ m K⟩
   omega
  nodup:=by rw[f];exact b.nodup
  lt:=by rw[f];simpa using b.lt
  gl:=by rw[f];exact b.gl
  eW:=by rw[f];simpa using b.eW}
def LX{c:cX}{E:R (Nat×J)}{L:R aK}{d:aw Tmp}{ty:bH}{pos:String}{a1:bE Edge}{g:aw (Nat×aI)}{f:FuncId}{b:R cx}{dF:R J}(e:iu c E L b dF):
 aZ c E L ⟨d,.makeFunc (.func f) #[] b.toArray,ty,pos,a1,g⟩ (.jn f dF):=.pure λa h i=>
 ⟨.func (.func f) #[] (b.map a.eval).toArray,by simp[execOp,df],_,rfl,e.holds a h i⟩
structure Hu(A:List Nat)(W:World)(L:List aK):Prop where
 eW:∀k∈A,k<W.heap.size∧k∉aP L
 nodup:(aP L).Nodup
 lt:∀k∈aP L,k<W.heap.size
 ok:∀e∈L,e.ok (aP L++A) W
def MB(P:cV)(m:bt){h f i e:aB}(n:h->J)(a:f->e->R aK)(o:i->e->R aK)(p:h->f->aw (f⊕i))(q:R Nat->bj->Prop):Prop:=
 ∃ l,m=.func (.yield l) #[] #[]∧∀x b j,p x b=S j->∀g d c k,q (aP (a b g)++d) c->Hu d c (a b g)->(n x).holds (aP (a b g)++d) c k->
   YieldAt Fence.wide 8 P l #[k] c (match j with
    | .inl r=>j4 (aP (a b g)) d c (λ_:e=>ci U) (λg=>a r g)
    | .inr A=>j4 (aP (a b g)) d c (λ_:e=>ci V) (λg=>o A g))
def b9{b c a:aB}(d:b->a->R aK)(e:c->a->R aK):b⊕c->a->R aK
 | .inl f,g=>d f g
 | .inr h,g=>e h g
section
variable{c:cX}{E:R (Nat×J)}{L:R aK}{ops:bE bA}{Q:cK->cg->bj->Prop}
variable{d:aw Tmp}{ty:bH}{pos:String}{a1:bE Edge}{g:aw (Nat×aI)}{x y:cx}{t t2:bH}
def b0.Z0{a:cg}{e:bj}(d:b0 c E L a e):Ext (c.X++c.cv) c.pV (aP L++c.cv) e:=
 ⟨d.ey.size,λk f g=>d.ey.block k f λh=>g (eN.2 (.inl h)),λk b i=>by
   rcases eN.1 b with b|b
   ·exact eN.2 (.inl (d.gl k b i))
   simp_all⟩
def b0.Mp{a:cg}{e:bj}{f b9:R aK}(d:b0 c E (f++b9) a e):Hu (aP b9++c.cv) e f:=by
 have g:=d.nodup;rw[fF]at g;obtain⟨h,n,i⟩:=rZ.1 g;exact
 {eW:=λk b=>by
   rcases eN.1 b with b|b
   ·exact⟨d.lt k (by simp_all[fF]),λj=>i k j k b o⟩
   obtain⟨p,q⟩:=d.eW k b;simp_all[fF]
  nodup:=h
  lt:=λk b=>d.lt k (by simp_all[fF])
  ok:=λl m=>eb (d.own l (eN.2 (.inl m))) (.drop λk b=>by
   simp_all[fF,eN]) λ_ _=>rfl}
def CQ{a b9:R aK}{b:R Nat}{c:bj}:Ext (aP (a++b9)++b) c (aP a++(aP b9++b)) c:=.drop λk d=>by
 simp_all[fF,eN]
def KF{a b9:R aK}{b:R Nat}{c:bj}:Ext (aP a++(aP b9++b)) c (aP (a++b9)++b) c:=.drop λk d=>by
 simp_all[fF,eN]
def aa.yield{q:R bA}{a8 i:Nat}{M:bE bH}{N:bt}{r f A B:aB}{j:r->J}{eJ:f->B->R aK}{js:A->B->R aK}{step:r->f->aw (f⊕A)}{dJ:R aK}{x:cx}{g:r}{s:f}{jr:B}{h:f⊕A}
 (ay:c.rd=Y) (C:MB c.P N j eJ js step (λag O=>Ext (c.X++c.cv) c.pV ag O)) (ah:look E i=S (.eq N)) (ai:aN c E (dJ++eJ s jr) x (j g)) (aF:step g s=S h) (aQ:cd a8 c.n=U)
 (aj:∀m,h=.inl m->∀d,aa c ops Q q ((a8,.of U)::E) (dJ++eJ m d)) (ak:∀n,h=.inr n->∀d,aa c ops Q q ((a8,.of V)::E) (dJ++js n d)):
 aa c ops Q (⟨S a8,.call ⟨.value (.tmp i),#[x],M⟩,ty,pos,a1,Y⟩::q) E (dJ++eJ s jr):=λa e D=>by
 obtain⟨l,rfl,C⟩:=C
 obtain⟨al,am,an⟩:=D.env i _ ah
 have ao:al=.func (.yield l) #[] #[]:=an
 subst ao
 have p:b0 c E (eJ s jr++dJ) a e:=D.perm ox
 have ap:=ai a e D
 have aq:(j g).holds (aP (eJ s jr)++(aP dJ++c.cv)) e (a.eval x):=(j g).mono (.drop λk b=>by
  rw[fF];simp only[eN]at b⊢;rcases b with b|b|b
  ·exact .inl (.inr b)
  ·exact .inl (.inl b)
  exact .inr b) ap
 obtain⟨P,ab,ac,ad,ar,au⟩:=C g s h aF jr (aP dJ++c.cv) e (a.eval x) (p.Z0.trans CQ) p.Mp aq
 have av:(execOp a.eval ⟨S a8,.call ⟨.value (.tmp i),#[x],M⟩,ty,pos,a1,Y⟩).run c.P e=.ok (.round l P ab ac ad) e:=by
  rw[<-ar];simp[execOp,resolve,cl,Act.eval,am,invoke,eH,c5,dh]
 refine wpListIn_plain o λaz ae=>?_
 refine⟨λ_ _=>trivial,?_⟩
 rw[N4 _ _ _ (λ_ F=>by cases F),av,Oper.uponIn_round]
 refine⟨λF=>by simp at F,?_⟩
 have ax:RoundIn c.F (9-1) c.P l P ab ac ad e _:=au
 refine ax.mono λaA O af=>?_
 cases h with
 | inl m=>
   obtain⟨w,d,rfl,G,H,I,K,L⟩:=af
   obtain rfl:=of_bool.1 L
   refine ae _ _ (aj m o d _ _ ?_)
   exact(((p.after G H I K).perm ox).put (by simp_all) (of_bool.2 o))
 | inr n=>
   obtain⟨w,d,rfl,G,H,I,K,L⟩:=af
   obtain rfl:=of_bool.1 L
   refine ae _ _ (ak n o d _ _ ?_)
   exact(((p.after G H I K).perm ox).put (by simp_all) (of_bool.2 o))
def aa.qE{l:R bA}{mC:R aK}(a:L=mC)(k:aa c ops Q l E mC):aa c ops Q l E L:=by simp_all
def ar.Q0{x:cx}{b:aI}{y z:ec}(a:aN c E L x (.of b))(d:b=U)(k:ar c Q y E L):ar c Q (.cond x y z) E L:=.cond a (λ_=>k) λe=>by simp_all
def ar.Da{x:cx}{b:aI}{y z:ec}(a:aN c E L x (.of b))(d:b=V)(k:ar c Q z E L):ar c Q (.cond x y z) E L:=.cond a (λe=>by simp_all) λ_=>k
def Lp:ec->cK
 | .ret=>.ret
 | .exit a=>.exit a
 | .goto t=>.goto t
 |_=>.normal
def G1:ec->aI
 | .ret| .exit _| .goto _=>U
 |_=>V
def MK{f b h:aB}(c:cX)(i:b->ec)(l j:Nat)(k:Loop)(m:f->h->R aK)(n:b->h->R aK):f⊕b->cK->cg->bj->Prop
 | .inl o,x,a,d=>x=.normal∧∃g,b0 c [] (⟨S l,.is (.loop k)⟩::⟨S j,.gL⟩::m o g) a d
 | .inr e,x,a,d=>G1 (i e)=U∧x=Lp (i e)∧∃g,b0 c [] (⟨S l,.is (.loop k)⟩::⟨S j,.gL⟩::n e g) a d
def ML(c:cX)(l:Nat)(d:ec)(Q:cK->cg->bj->Prop)(a:cg)(e:bj):Prop:=
 ∃b,(Instr.beginRound l).run c.P e=.ok () b∧c.wp d Q a b
def af.begin{l:Nat}{d:ec}{g:cK->cg->bj->Prop}(i:Nat){b:Loop}(e:L[i]? =S ⟨S l,.is (.loop b)⟩)(aF:b.state=.ready)
 (k:ar c Q d E (L.set i ⟨S l,.is (.loop {b with state:=.busy})⟩)):af c (Exit.then (ML c l d Q) g) .normal E L:=λa n f=>by
 obtain⟨ak,h,j⟩:=f.own _ (fM e)
 have m:ak=.loop b:=j
 subst m
 exact⟨_,run_beginRound h aF,k _ _ (f.tH e o)⟩
def af.abq{d e b:aB}{k:e->ec}{l f:Nat}{h:Loop}{i:d->b->R aK}{m:e->b->R aK}{j:d}(g:b)(n:Nat)(o:L.drop n=⟨S l,.is (.loop h)⟩::⟨S f,.gL⟩::i j g):
 af c (MK c k l f h i m (.inl j)) .normal E L:=λa q p=>⟨rfl,g,by rw[<-o];exact(p.sA n).less (λt r A=>by grind[look])⟩
def af.alq{k d e:aB}{f:d->ec}{l h:Nat}{i:Loop}{m:k->e->R aK}{j:d->e->R aK}{b:d}{x:cK}(g:e)(n:Nat)(o:G1 (f b)=U)(p:x=Lp (f b))(q:L.drop n=⟨S l,.is (.loop i)⟩::⟨S h,.gL⟩::j b g):
 af c (MK c f l h i m j (.inr b)) x E L:=λa A r=>⟨o,p,g,by rw[<-q];exact(r.sA n).less (λt B C=>by grind[look])⟩
def UG{P:cV}{l:Nat}{c:Ending->bj->Prop}{b:ec}{a:cg}{d e:bj}{f:bt}(g:G1 b=U)(h:(di l (S b)).run P d=.ok f e)(i:c (.returned f) e):
 roundPost P l c (Lp b) a d:=by
 cases b <;> simp only[G1]at g <;> first|exact⟨_,_,h,i⟩|cases g
def b0.mark{a:cg}{d:bj}(b:b0 c E L a d)(e:Nat):b0 {c with ds:=tG e::c.ds} E L {a with defers:=tG e::a.defers} d:=
 {defers:=by simp[b.defers],size:=b.size,env:=b.env,ey:=b.ey,own:=b.own,nodup:=b.nodup,lt:=b.lt,gl:=b.gl,eW:=b.eW}
def Sd(P:cV)(q:FuncId)(r:R J)(c:R aK){k a d h:aB}(A:k->J)(B:(k->a->aw (a⊕d))->a->aw (a⊕d))(b:a->h->R aK)(l:d->h->R aK):Prop:=
 ∀ (m:k->a->aw (a⊕d)) (e:a) (i:h) (n:a⊕d),B m e=S n->
   ∀ (j:R Nat) (f:bj) (o:bt) (p:R bt),Hu j f (c++b e i)->ha (aP (c++b e i)++j) f r p->
     MB P o A b l m (λC D=>Ext (aP (c++b e i)++j) f C D)->
     Calls P q (o::p).toArray f (j4 (aP (c++b e i)) j f (λ_:h=>.bO []) (λg=>c++b9 b l n g))
def ahS{gt p:Nat}{assign body:ec}{f:FuncId}{rD:R J}{dJ:R aK}{au bb bp aY:aB}{dm:au->J}{run:(au->bb->aw (bb⊕bp))->bb->aw (bb⊕bp)}
 {eJ:bb->aY->R aK} {js:bp->aY->R aK} {step:au->bb->aw (bb⊕bp)} {ks:bb} {g0:aY} {r:bb⊕bp} (bQ:bp->ec)
 (nH:c.rd=Y) (dj:bk c.P f) (nL:look E gt=S (.jn f rD)) (MI:∀vj vl rH,Sd c.P f rD dJ dm run (λs g=>vj::vl::eJ s g) rH) (aF:run step ks=S r) (av:L=dJ++eJ ks g0) (aC:cd p c.n=U)
 (GZ:∀x s r,step x s=S r->∀g (tO:bj) (tX tP:R Nat) (l D:Nat) (rec:Loop),rec.state=.ready->
  ar ⟨c.P,c.n,tO,tX,tP,S l,[]⟩ (Exit.then (ML ⟨c.P,c.n,tO,tX,tP,S l,[]⟩ l body (MK ⟨c.P,c.n,tO,tX,tP,S l,[]⟩ bQ l D {rec with state:=.busy} eJ js r)) (λ_ _ _=>False)) assign ((p,dm x)::E) (⟨S l,.is (.loop rec)⟩::⟨S D,.gL⟩::eJ s g))
 (Hg:∀nK,r=.inl nK->∀g D,af {c with ds:=tG D::c.ds} Q .normal E (⟨S D,.gL⟩::(dJ++eJ nK g)))
 (Hh:∀q,r=.inr q->∀g D,ar {c with ds:=tG D::c.ds} Q (bQ q) E (⟨S D,.gL⟩::(dJ++js q g))):
 ar c Q (.rangeFunc (.tmp gt) #[p] assign body) E L:=λa W st=>by
 subst av
 refine wpIn_rangeFunc λfn ar3=>?_
 show ∃l mark aqQ d aoX asx args aqR,(d5 fn a.tmps #[p] assign body c.rd).run c.P W=_∧_
 rw[nH]
 obtain⟨rec,pP⟩:∃rec:Loop,rec= {state:=.ready,pending:=Y,fn,tmps:=a.tmps,params:= #[p],assign,body,defers:=W.heap.size}:=⟨_,rfl⟩
 obtain⟨v,ar4,h2,ar5,ar6⟩:=st.env gt _ nL
 obtain⟨lb,HL⟩:∃lb,(W.alloc (.deferred (S []))).alloc (.loop rec)=lb:=⟨_,rfl⟩
 have s1:=(st.alloc (ak:=.deferred (S [])) (gg:=.gL) o).alloc (ak:=.loop rec) (gg:=.is (.loop rec)) o
 rw[HL,IS]at s1
 obtain⟨D,w6⟩:∃D,D=W.heap.size:=⟨_,rfl⟩
 obtain⟨l,jq⟩:∃l,l=W.heap.size+1:=⟨_,rfl⟩
 have HM:=run_enterLoop_outer (P:=c.P) (w:=W) fn a.tmps #[p] assign body
 rw[<-pP,HL,<-jq,<-w6]at HM
 rw[<-jq,<-w6]at s1
 obtain⟨na,yD⟩:∃na:bb->aY->R aK,na=λs g=>⟨S l,.is (.loop rec)⟩::⟨S D,.gL⟩::eJ s g:=⟨_,rfl⟩
 obtain⟨rH,HN⟩:∃rH:bp->aY->R aK,rH=λq g=>⟨S l,.is (.loop {rec with state:=.done,pending:=S (bQ q)})⟩::⟨S D,.gL⟩::js q g:=⟨_,rfl⟩
 have s2:b0 c E (dJ++na ks g0) a lb:=s1.perm (by
  rw[yD];exact(vy.trans (vy.cons _)).symm)
 have Se:ha (aP (dJ++na ks g0)++c.cv) lb rD h2:=by
  have h1:(J.jn f rD).holds (aP (dJ++na ks g0)++c.cv) lb v:=by
   obtain⟨asw,h1,fx⟩:=s2.env gt _ nL;simp_all
  obtain⟨ar7,vj,vl⟩:=h1;simp_all
 have HO:b0 c E ((dJ++na ks g0)++[]) a lb:=by simp_all
 have Hi:=HO.Mp
 simp only[aP,d6]at Hi
 have RT:MB c.P (.func (.yield l) #[] #[]) dm na rH step (λfh dE=>Ext (aP (dJ++na ks g0)++c.cv) lb fh dE):=by
  refine⟨l,rfl,λx s abY aR g A tY v2 RS hle sV=>?_⟩;have Hv:=hle;rw[yD]at Hv;obtain⟨ak,tM,tN⟩:=Hv.ok ⟨S l,.is (.loop rec)⟩ (by simp);have tI:ak=.loop rec:=tN;subst tI;have la:=run_yield (P:=c.P) (args:= #[v2]) tM (by simp_all);refine⟨_,_,_,_,la,roundIn_of_wpIn bo ?_⟩;have vj:rec.assign=assign:=by rw[pP]
  have vl:rec.body=body:=by rw[pP]
  have St:rec.params= #[p]:=by rw[pP]
  have Su:rec.tmps=a.tmps:=by rw[pP]
  rw[vj,vl,St,Su];refine Kx (n:=9) o ?_;have Rs:((#[p]:bE Tmp).zip #[v2]).foldl (λtmps (t,a)=>tmps.setIfInBounds t a) a.tmps=a.tmps.setIfInBounds p v2:=by simp
  rw[Rs];subst yD HN;refine wpIn_mono ((GZ x s abY aR g tY (aP (⟨S l,.is (.loop rec)⟩::⟨S D,.gL⟩::eJ s g)) A l D rec (by rw[pP])) {tmps:=a.tmps.setIfInBounds p v2,defers:=[]} tY ?_) ?_
  ·have wX:p<c.n:=by simp_all
   exact
   {defers:=rfl
    size:=by simp[s2.size]
    env:=λt AS pS=>by
     simp only[look]at pS;by_cases e:ce p t=U
     ·rw[e]at pS;simp only[cond_true,iG]at pS;subst pS;have:=kb.1 e;subst this;exact⟨v2,by simp[s2.size,wX],sV⟩
     simp only[qc]at e;rw[e]at pS;simp only[cond_false]at pS;obtain⟨u,h1,fx⟩:=s2.env t AS pS;have abx:p≠t:=λh=>by simp_all
     exact⟨u,by simp_all,AS.mono RS fx⟩
    ey:=.refl _ _
    own:=hle.ok
    nodup:=hle.nodup
    lt:=hle.lt
    gl:=λk hk _=>hk
    eW:=hle.eW}
  intro e a3 asy iD;cases e with
  | normal=>
    obtain⟨SB,Sf,ax⟩:=iD
    refine⟨SB,Sf,Kx (n:=9) o (wpIn_mono ax ?_)⟩
    intro e a5 H8 MC
    have fin:∀(jump:aw ec) {b9:R aK},b0 ⟨c.P,c.n,tY,aP (⟨S l,.is (.loop rec)⟩::⟨S D,.gL⟩::eJ s g),A,S l,[]⟩ [] (⟨S l,.is (.loop {rec with state:=.busy})⟩::⟨S D,.gL⟩::b9) a5 H8->
     ∃rO,(di l jump).run c.P H8=.ok (.bool jump.isNone) rO∧b0 ⟨c.P,c.n,tY,aP (⟨S l,.is (.loop rec)⟩::⟨S D,.gL⟩::eJ s g),A,S l,[]⟩ [] (⟨S l,.is (.loop {rec with state:=if jump.isNone then .ready else .done,pending:=jump})⟩::⟨S D,.gL⟩::b9) a5 rO:=λjump b9 rM=>by
     obtain⟨ak,h1,fx⟩:=rM.own ⟨S l,.is (.loop {rec with state:=.busy})⟩ (by simp)
     have R8:ak=.loop {rec with state:=.busy}:=fx
     subst R8
     exact⟨_,run_endRound jump h1,rM.tH (i:=0) o o⟩
    cases abY with
    | inl nK=>
      obtain⟨rfl,pZ,rM⟩:=MC
      obtain⟨rO,lU,w2⟩:=fin Y rM
      refine⟨_,rO,lU,?_⟩
      have Sg:({rec with state:=if (Y:aw ec).isNone then .ready else .done,pending:=Y}:Loop)=rec:=by simp_all
      rw[Sg]at w2
      exact w2.ends (gS:=λ_:aY=>ci U) (nP:=λg=>⟨S l,.is (.loop rec)⟩::⟨S D,.gL⟩::eJ nK g) pZ (zb _) (of_bool.2 o)
    | inr q=>
      obtain⟨vn,rfl,pZ,rM⟩:=MC
      obtain⟨rO,lU,w2⟩:=fin (S (bQ q)) rM
      have key:j4 (aP (⟨S l,.is (.loop rec)⟩::⟨S D,.gL⟩::eJ s g)) A tY (λ_:aY=>ci V) (λg=>⟨S l,.is (.loop {rec with state:=.done,pending:=S (bQ q)})⟩::⟨S D,.gL⟩::js q g) (.returned (.bool V)) rO:=
       w2.ends (gS:=λ_:aY=>ci V) (nP:=λg=>⟨S l,.is (.loop {rec with state:=.done,pending:=S (bQ q)})⟩::⟨S D,.gL⟩::js q g) pZ (zb _) (of_bool.2 o)
      exact UG vn lU key
  |exit id=>exact iD.elim
  |goto t=>exact iD.elim
  |ret=>exact iD.elim
  |panic ph=>exact iD.elim
  |outgrown=>exact iD.elim
 have ar8:Sd c.P f rD dJ dm run na rH:=by simp_all
 have Rt:=ar8 step ks g0 r aF c.cv lb (.func (.yield l) #[] #[]) h2 Hi Se RT
 have R9:a.eval (.tmp gt)=.func (.func f) #[] h2.toArray:=by simp_all[Act.eval]
 refine⟨l,[tG D],lb,{target:=.fn (.func f) h2.toArray,args:= #[.func (.yield l) #[] #[]]},lb,f,#[.func (.yield l) #[] #[]]++h2.toArray,lb,HM,?_,λ_ _=>trivial,?_,λh=>by simp at h,?_⟩
 ·simp only[resolve,R9]
  simp[go_sem]
 ·simp[invoke,go_sem,dj.run]
 refine CallsIn.PW ?_
 have Ru:(#[.func (.yield l) #[] #[]]++h2.toArray:bE bt)=(.func (.yield l) #[] #[]::h2).toArray:=by simp
 rw[Ru]
 refine Rt.mono λe SC ⟨asz,pZ,he,pW,iX,nJ,nM,lU⟩=>?_
 subst he
 have rP:=HO.after pW iX (by simp_all[aP]) (by simp_all[aP])
 rw[qe]at rP
 cases r with
 | inl nK=>
   simp only[b9]at rP
   subst yD
   have H9:b0 c E (⟨S l,.is (.loop rec)⟩::⟨S D,.gL⟩::(dJ++eJ nK pZ)) a SC:=rP.perm (by
    exact vy.trans (vy.cons _))
   obtain⟨ak,tM,tN⟩:=H9.own ⟨S l,.is (.loop rec)⟩ (by simp)
   have tI:ak=.loop rec:=tN
   subst tI
   have wM:=Jt (P:=c.P) tM (by simp_all)
   have wX:rec.pending=Y:=by rw[pP]
   rw[wX]at wM
   refine⟨Y,_,wM,?_⟩
   have w7:=(H9.tH (i:=0) (iv:=.is (.loop {rec with state:=.exhausted})) (rN:=.loop {rec with state:=.exhausted}) o o).sA 1
   rw[wX]at w7
   exact Hg nK o pZ D _ _ (w7.mark D)
 | inr q=>
   simp only[b9]at rP
   subst HN
   have H9:b0 c E (⟨S l,.is (.loop {rec with state:=.done,pending:=S (bQ q)})⟩::⟨S D,.gL⟩::(dJ++js q pZ)) a SC:=rP.perm (by
    exact vy.trans (vy.cons _))
   obtain⟨ak,tM,tN⟩:=H9.own ⟨S l,.is (.loop {rec with state:=.done,pending:=S (bQ q)})⟩ (by simp)
   have tI:ak=.loop {rec with state:=.done,pending:=S (bQ q)}:=tN
   subst tI
   have wM:=Jt (P:=c.P) tM (by simp)
   refine⟨S (bQ q),_,wM,?_⟩
   have w7:=(H9.tH (i:=0) (iv:=.is (.loop {rec with state:=.exhausted,pending:=S (bQ q)})) (rN:=.loop {rec with state:=.exhausted,pending:=S (bQ q)}) o o).sA 1
   exact Hh q o pZ D _ _ (w7.mark D)
def af8{P:cV}{b:Func}{c:Ending->bj->Prop}{a:cg}{d:bj}(e:bodyPost P b c .ret a d):bodyPostM Fence.wide 9 P b c .ret a d:=by
 obtain⟨f,g,h,i⟩:=e;show LeavesInM Fence.wide 9 P b a.tmps c a.defers .returning d;rw[f];exact⟨g,h,i⟩
def af.kI{P:cV}{b:Func}{d:Ending->bj->Prop}(k:af c (bodyPost P b d) .ret E L):af c (bodyPost P b d) .normal E L:=λa e f=>k a e f
def af.Hn{b:Func}{d:Ending->bj->Prop}(k:af c (bodyPost c.P b d) .ret E L):af c (bodyPostM Fence.wide 9 c.P b d) .ret E L:=λa e f=>af8 (k a e f)
def af.Mj{e:Func}{f:Ending->bj->Prop}{d:Nat}(i:Nat)(h:L[i]? =S ⟨S d,.gL⟩)(l:c.ds=[tG d])(k:af {c with ds:=[]} (bodyPost c.P e f) .ret E (L.set i ⟨S d,.is (.deferred Y)⟩)):
 af c (bodyPostM Fence.wide 9 c.P e f) .ret E L:=λa j g=>by
 obtain⟨ak,m,n⟩:=g.own _ (fM h)
 have p:ak=.deferred (S []):=n
 subst p
 have b:=g.tH h (iv:=.is (.deferred Y)) (rN:=.deferred Y) o
 have q:b0 {c with ds:=[]} E (L.set i ⟨S d,.is (.deferred Y)⟩) {a with defers:=[]} (j.putObj d (.deferred Y)):=
  {defers:=rfl,size:=b.size,env:=b.env,ey:=b.ey,own:=b.own,nodup:=b.nodup,lt:=b.lt,gl:=b.gl,eW:=b.eW}
 obtain⟨_,r,A,B⟩:=k _ _ q
 show LeavesInM Fence.wide 9 c.P e a.tmps f a.defers .returning j
 rw[g.defers,l]
 exact⟨by simp,.inl ⟨d,_,rfl,run_takeDeferred m,r,A,B⟩⟩
end
def cf.alL{P:cV}{f:FuncId}{a:Func}{g:ec}{n:Nat}{b:R J}{h:J}(l:P.funcs[f]? =S a)(m:a.body=S g)(aQ:a.ntmps=n)(o:c7 b.length n=U)
 (p:∀c d,ar ⟨P,n,c,[],d,Y,[]⟩ (bodyPostM Fence.wide 9 P a λq i=> ∃e,q=.returned e∧Fr [] c i∧h.holds d i e) g (params 0 b) []):cf P f b h:=by
 intro d c E r j
 refine(callsIn_wide (n:=9)).1 (callsIn_of_wp_marks l m bo (p c d _ _ ?_))
 have F:=j.length
 have G:b.length<=n:=pq o
 exact
 {defers:=rfl
  size:=by simp_all
  env:=λt A B=>by
   obtain⟨_,e,H,C⟩:=zR j 0 t A B;refine⟨e,?_,C⟩;grind
  ey:=.refl _ _
  own:=by simp
  nodup:=by simp[aP]
  lt:=by simp[aP]
  gl:=by simp[aP]
  eW:=λk D=>⟨r k D,by simp[aP]⟩}
def cf.ofM{P:cV}{c:FuncId}{a:Func}{d:ec}{n:Nat}{b:R J}{e:J}(h:P.funcs[c]? =S a)(i:a.body=S d)(aQ:a.ntmps=n)(j:c7 (T b) n=U)
 (k:∀f g,ar ⟨P,n,f,[],g,Y,[]⟩ (bodyPostM Fence.wide 9 P a (pN ⟨P,n,f,[],g,Y,[]⟩ e)) d (params 0 b) []):cf P c b e:=cf.alL h i aQ j k
def bn.ofM{P:cV}{f:FuncId}{a:Func}{g:ec}{n:Nat}{b:R J}{c:R aK}{aX:aB}{h:aX->J}{i:aX->R aK}(l:P.funcs[f]? =S a)(m:a.body=S g)(aQ:a.ntmps=n)(o:c7 b.length n=U)
 (p:∀d e,ar ⟨P,n,d,aP c,e,Y,[]⟩ (bodyPostM Fence.wide 9 P a (j4 (aP c) e d h i)) g (params 0 b) c):bn P f b c h i:=by
 intro e d F q r A B j
 refine(callsIn_wide (n:=9)).1 (callsIn_of_wp_marks l m bo (p d e _ _ ?_))
 have G:=j.length
 have H:b.length<=n:=pq o
 exact
 {defers:=rfl
  size:=by simp_all
  env:=λt C D=>by
   obtain⟨_,I,K,L⟩:=zR j 0 t C D;grind
  ey:=.refl _ _
  own:=B
  nodup:=r
  lt:=A
  gl:=λk E _=>E
  eW:=q}
def Pc{d e:J}(h:d.Flat)(k:e.Flat):(J.bO [d,e]).Flat:=λj m n o p ⟨f,i,g⟩=>by
 refine⟨f,i,?_⟩;generalize f.toList=l at g;cases g with
 | cons a c=>cases c with
   |cons b c=>cases c;exact .cons (h _ _ _ _ _ a) (.cons (k _ _ _ _ _ b) .nil)
section
variable{c:cX}{E:R (Nat×J)}{L:R aK}{ops:bE bA}{Q:cK->cg->bj->Prop}
variable{d:aw Tmp}{ty:bH}{pos:String}{a1:bE Edge}{g:aw (Nat×aI)}{x y:cx}{t t2:bH}
def aZ.via{ak:bA}{d:J}{e:R (Nat×J)}{f:R aK}(g:d.Flat)(aR:∀a b,b0 c E L a b->b0 c e f a b)(h:aZ c e f ak d):aZ c E L ak d:=λa b i=>by
 have:=h a b (aR a b i);unfold hr at this⊢;exact sd (λn o ⟨j,k,l,m⟩=>⟨j,k,l,g _ _ _ _ _ m⟩) this
def b0.tell{a:cg}{d:bj}(g:b0 c E L a d){e:Nat}{bb i:J}(j:look E e=S bb)(l:∀h,bb.holds (aP L++c.cv) d h->i.holds (aP L++c.cv) d h):b0 c ((e,i)::E) L a d:=by
 refine {g with env:=λt k b=>?_};simp only[look]at b;by_cases f:ce e t=U
 ·rw[f]at b;simp only[cond_true,iG]at b;subst b;have:=kb.1 f;subst this;obtain⟨h,m,n⟩:=g.env e _ j;simp_all
 simp only[qc]at f;rw[f]at b;exact g.env t k b
def b0.Z1{a:cg}{e:bj}(f:b0 c E L a e){i b:Nat}{d:aB}[ah d]{z:d}(g:L[i]? =S ⟨S b,.var z⟩):
 (J.ptr z).holds (aP (L.set i ⟨Y,.dead⟩)++c.cv) e (.pointer (S ⟨b,0,Y⟩)):=by
 obtain⟨ak,h,cs,j,rfl,aF⟩:=f.own _ (fM g)
 have l:T cs.toList=ah.size d:=ah.len aF
 refine⟨b,0,cs,j,(0,0),rfl,f.GD g,h,by simp_all,?_⟩
 rw[xp,<-l,mJ]
 have m:=Cb (L:=L) (i:=i) (gg:=.dead)
 exact ah.mono (.drop λk n=>by
  grind) aF
abbrev HP(a b:Nat):bt:=.func (.func a) #[.pointer (S ⟨b,0,Y⟩)] #[]
def an2{e b:Nat}(f:aN c E L x (.eq (.pointer (S ⟨b,0,Y⟩)))):aZ c E L ⟨d,.makeFunc (.func e) #[x] #[],ty,pos,a1,g⟩ (.eq (HP e b)):=.pure λa h i=>by
 have j:=f a h i;refine⟨_,?_,rfl⟩;have k:a.eval x=.pointer (S ⟨b,0,Y⟩):=j;simp_all[execOp,df,HP]
def akD{a c:Nat}{d e f aX:aB}[ah d][ah e][ah f][ah aX]{z:aX}{F:d->e->aw f}{P:cV}(i:bk P a)(j:∀x y b,F x y=S b->cf P a [.ptr z,.of x,.of y] (.of b)){g:R Nat}{h:bj}
 (aC:(J.ptr z).holds g h (.pointer (S ⟨c,0,Y⟩))):(J.wS P F).holds g h (HP a c):=
 ⟨a,_,#[],rfl,i,λk l m n x y b o p q r A=>by simpa using j x y b q k l [_,o,p] n (.cons (J.mono _ m aC) (.cons r (.cons A .nil)))⟩
def aZ.Rh{ak:bA}{b d:J}{f:Nat}{g:aB}[ah g]{z:g}(i h:Nat)(l:look E h=S d)(m:∀n j e,d.holds n j e->e=.pointer (S ⟨f,0,Y⟩))(o:L[i]? =S ⟨S f,.var z⟩)(p:b.Flat)
 (q:aZ c ((h,.ptr z)::E) (L.set i ⟨Y,.dead⟩) ak b):aZ c E L ak b:=
 .via p (λa j k=>(k.kill i).tell (bb:=d) l (λe r=>by rw[m _ _ _ r];exact k.Z1 o)) q
def aZ.alv{ak:bA}{d:J}{e b:Nat}{f g h aX:aB}[ah f][ah g][ah h][ah aX]{z:aX}{F:f->g->aw h}(i j:Nat)(m:look E j=S (.eq (HP b e)))(n:L[i]? =S ⟨S e,.var z⟩)(o:bk c.P b)
 (p:∀x y k,F x y=S k->cf c.P b [.ptr z,.of x,.of y] (.of k)) (q:d.Flat) (r:aZ c ((j,.wS c.P F)::E) (L.set i ⟨Y,.dead⟩) ak d):aZ c E L ak d:=
 .via q (λa D l=>(l.kill i).tell m (λA B=>by have C:A=HP b e:=B;rw[C];exact akD o p (l.Z1 n))) r
def aZ.an1{ak:bA}{d:J}{h j o:Nat}{k:aw Nat}{b7 aY:aB}[ah b7][ah aY]{b et:b7}{e:R aY}{f m:R (Nat×bt)}(l:aG b7 (R aY))(i g n:Nat)(G:ce i g=V)(p:L[i]? =S ⟨S h,.bF b f⟩)(q:L[g]? =S ⟨k,.row o e j⟩)
 (r:f[n]? =S (l.off,aH k (T e) j)) (A:l.set b e=et) (B:tq f l.off=m) (C:d.Flat) (D:aZ c E ((L.set g ⟨Y,.dead⟩).set i ⟨S h,.bF et m⟩) ak d):aZ c E L ak d:=
 .via C (λa H F=>F.mv l (λI=>by simp_all) p q n r A B) D
def aZ.alu{ak:bA}{e:J}{k f p:Nat}{g:aw Nat}{b7 aY:aB}[ah b7][ah aY]{b et:b7}{d:R aY}{h m:R (Nat×bt)}(l:aG b7 (R aY))(i j n o:Nat)(I:ce i j=V)(q:L[i]? =S ⟨S k,.bF b h⟩)(r:L[j]? =S ⟨g,.row p d f⟩)
 (A:h[n]? =S (l.off,aH g (T d) f)) (B:l.set b d=et) (C:tq h l.off=m) (D:look E o=S (.eq (aH g (T d) f))) (F:e.Flat) (G:aZ c ((o,.of d)::E) ((L.set j ⟨Y,.dead⟩).set i ⟨S k,.bF et m⟩) ak e):aZ c E L ak e:=
 .via F (λa K H=>H.yh l (λM=>by simp_all) q r n A B C D) G
def aZ.ZB{ak:bA}{d:J}{e:Nat}{f:aB}[ah f]{b:f}(i:Nat)(g:L[i]? =S ⟨S e,.bF b []⟩)(h:d.Flat)(j:aZ c E (L.set i ⟨S e,.var b⟩) ak d):aZ c E L ak d:=
 .via h (λa o k=>k.G0 (iv:=.var b) g (λak ⟨cs,l,m,n⟩=>⟨cs,l,m,n.1⟩) id) j
def O4{P:cV}{a:bH}{c:bH}(d:P.underlying a=S (.pointer c))(e:Addr)(b:bj)(n:Nat):(Op.equalIn (n+1) a (.pointer (S e)) (.pointer Y)).run P b=.ok V b:=by
 simp[Op.equalIn,dZ d]
def Li{b:Addr}{e:bH}(j:c.P.underlying t=S (.pointer e))(f:aN c E L x (.eq (.pointer (S b)))):aZ c E L ⟨d,.binOp .eql t x (.const (.pointer Y)) t2,ty,pos,a1,g⟩ (.of V):=.pure λa h i=>by
 have aQ:a.eval (.const (.pointer Y))=.pointer Y:=rfl;have k:a.eval x=.pointer (S b):=f a h i;refine⟨.bool V,?_,of_bool.2 o⟩;simp_all[execOp,eqGuard,binOp,Op.equal,Op.maxDepth,O4]
def aj3{e:aB}[ah e]{f:e}{h:bH}(l:c.P.underlying t=S (.pointer h))(i:aN c E L x (.ptr f)):aZ c E L ⟨d,.binOp .eql t x (.const (.pointer Y)) t2,ty,pos,a1,g⟩ (.of V):=.pure λa j k=>by
 have aQ:a.eval (.const (.pointer Y))=.pointer Y:=rfl;obtain⟨b,m,n,p,q,r,_⟩:=i a j k;refine⟨.bool V,?_,of_bool.2 o⟩;simp_all[execOp,eqGuard,binOp,Op.equal,Op.maxDepth,O4]
def eg(c:cX)(E:R (Nat×J))(L:R aK)(ak:bA)(e:J):Prop:=
 ∀a b,b0 c E L a b->hr c.P ak a b λf d=>b0 c E L a d∧e.holds (aP L++c.cv) d f
def aa.fs{ak:bA}{b:R bA}{d:Nat}{e:J}(f:eg c E L ak e)(g:ak.guard=Y)(aq:ak.dst=S d)(aQ:cd d c.n=U)
 (k:aa c ops Q b ((d,e)::E) L):aa c ops Q (ak::b) E L:=λa h i=>
 jb g (f a h i) λm n ⟨j,l⟩=>by
  rw[aq];exact k _ _ (j.put (by simp_all) l)
def aa.DU{ak:bA}{j:R bA}{d l g:Nat}{b f:aI}{m:J}(e:b=f->eg c E L ak m)(A:ak.guard=S (l,f))(n:(ops[l]?).bind (·.dst)=S g)
 (o:look E g=S (.of b)) (aq:ak.dst=S d) (aQ:cd d c.n=U)
 (k:aa c ops Q j ((d,.cond (b=f) m)::E) L):aa c ops Q (ak::j) E L:=λa p h=>by
 have B:=Kt n o h
 unfold cX.tR wpListIn
 by_cases i:b=f
 ·rw[bT (by simp_all[ct])]
  refine((e i a p h).wpIn λC D ⟨q,r⟩=>?_)
  rw[aq]
  exact k _ _ (q.put (by simp_all) ⟨λ_=>r,λe=>absurd i e⟩)
 rw[bU (by simp_all[ct])]
 rw[aq]
 exact⟨λ_ _=>trivial,k _ _ (h.put (by simp_all) ⟨λe=>absurd e i,λ_=>rfl⟩)⟩
def rE(L:R aK):R Nat->R aK->Prop
 |[],[]=>True
 |i::a,b::c=>L[i]? =S b∧rE L a c
 |_,_=>False
def rE.shift{L:R aK}{i:Nat}:∀{a:R Nat} {c:R aK},rE L a c->i∉a->rE (L.eraseIdx i) (a.map λb=>if b<i then b else b-1) c
 |[],[],_,_=>trivial
 | b::a,e::c,⟨f,d⟩,aQ=>by
   simp only[fj,Cq]at aQ;exact⟨by grind,rE.shift d aQ.2⟩
def U4{i:Nat}:∀{a:R Nat},a.Nodup->i∉a->(a.map λb=>if b<i then b else b-1).Nodup
 |[],_,_=>by simp
 | b::a,c,aQ=>by
   simp only[fj,Cq]at aQ;obtain⟨e,d⟩:=s7.1 c;refine s7.2 ⟨λf=>?_,U4 d aQ.2⟩;grind
def rE.perm:∀{a:R Nat} {b L:R aK},rE L a b->a.Nodup->∃c,L.Perm (b++c)
 |[],[],L,_,_=>⟨L,NW _⟩
 | i::a,e::b,L,⟨f,g⟩,aQ=>by
   obtain⟨d,h⟩:=s7.1 aQ;obtain⟨c,j⟩:=(g.shift d).perm (U4 h d);exact⟨c,(xJ f).trans (j.cons e)⟩
 termination_by a=>T a
 decreasing_by simp
def eg.call{e:FuncId}{f:R cx}{l:bE bH}{h:R J}{b:R aK}{m:bG->J}{n:bG->R aK}(o:R Nat)(F:bk c.P e)(G:bn c.P e h b m n)
 (H:iu c E L f h) (aQ:decide o.Nodup=U) (aC:rE L o b) (p:n ()=b):eg c E L ⟨d,.call ⟨.value (.func e),f.toArray,l⟩,ty,pos,a1,g⟩ (m ()):=λa I q=>by
 obtain⟨r,i⟩:=aC.perm (uj aQ)
 have K:=q.perm i
 have P:=xR i
 have A:∀k,k∈aP L++c.cv↔k∈aP (b++r)++c.cv:=λk=>by
  grind
 have M:ha (aP (b++r)++c.cv) I h (f.map a.eval):=(H.Yx q).mono (.drop λk j=>(A k).2 j)
 have B:=Gq (d:=d) (ty:=ty) (pos:=pos) (a1:=a1) (g:=g) (j7:=l) F G K M
 unfold hr at B⊢
 refine sd (λQ aa ⟨N,O,a8,C,D⟩=>⟨N,O,?_,?_⟩) B
 ·cases a8;rw[p]at C;exact C.perm i.symm
 cases a8
 rw[p]at D
 exact J.mono _ (.drop λk j=>(A k).1 j) D
def rE.set{L:R aK}{i j:Nat}{x y b c:aK}(m:i≠j)(e:L[i]? =S b)(f:L[j]? =S c):∃h,L.Perm (b::c::h)∧((L.set i x).set j y).Perm (x::y::h):=by
 have n:rE L [i,j] [b,c]:=⟨e,f,d0⟩;have k:∀a:R aK,∀d g:aK,a[i]? =S d->a[j]? =S g->a.Perm (d::g::(a.eraseIdx i).eraseIdx (if j<i then j else j-1)):=λa d g l o=>
  (xJ l).trans ((xJ (by grind)).cons d)
 refine⟨_,k L b c e f,?_⟩;have p:=(lX.1 e).1;have q:=(lX.1 f).1;have l:=k ((L.set i x).set j y) x y (by grind) (by simp_all);grind
def aa.alw{r:R bA}{a8:Nat}{m:FuncId}{n:R cx}{P:bE bH}{p:R J}{d e:aK}{aX:aB}{A:aX->J}{B:aX->R aK}(f:aX->aK)(i g:Nat)(ab:bk c.P m)(ac:bn c.P m p [d,e] A B)
 (ad:iu c E L n p) (ao:ce i g=V) (C:L[i]? =S d) (D:L[g]? =S e) (ae:∀b,B b=[f b]) (aQ:cd a8 c.n=U) (k:∀b,aa c ops Q r ((a8,A b)::E) ((L.set i (f b)).set g ⟨Y,.dead⟩)):
 aa c ops Q (⟨S a8,.call ⟨.value (.func m),n.toArray,P⟩,ty,pos,a1,Y⟩::r) E L:=λa af F=>by
 have G:i≠g:=λag=>by simp_all
 obtain⟨h,q,_⟩:=rE.set (x:=d) (y:=e) G C D
 have ah:=F.perm q
 have ap:=xR q
 have ai:∀k,k∈aP L++c.cv↔k∈aP ([d,e]++h)++c.cv:=λk=>by
  grind
 have aj:ha (aP ([d,e]++h)++c.cv) af p (n.map a.eval):=(ad.Yx F).mono (.drop λk H=>(ai k).2 H)
 refine jb o (Gq (dJ:=[d,e]) ab ac ah aj) λaq I ⟨b,j,K⟩=>?_
 refine k b _ _ ?_
 obtain⟨M,ak,N⟩:=rE.set (x:=f b) (y:=⟨Y,.dead⟩) G C D
 have al:(d::e::h).Perm (d::e::M):=q.symm.trans ak
 have O:h.Perm M:=(al.cons_inv).cons_inv
 rw[ae]at j K
 have am:b0 c E (f b::⟨Y,.dead⟩::h) a I:= {j with
  own:=λag l=>by
   simp only[fj]at l;rcases l with rfl|rfl|l
   ·exact j.own _ (by simp)
   ·trivial
   exact j.own _ (by simp[l])}
 have an:b0 c E ((L.set i (f b)).set g ⟨Y,.dead⟩) a I:=am.perm (((O.cons _).cons _).trans N.symm)
 have ar:(aP ((L.set i (f b)).set g ⟨Y,.dead⟩)).Perm (aP (f b::h)):=by
  have:=xR (N.trans ((O.symm.cons _).cons _));simp_all[aP]
 refine an.put (by simp_all) (J.mono _ (.drop λk H=>?_) K)
 grind
def R6{L:R aK}{i:Nat}{x a:aK}(b:L[i]? =S x):(L.set i a)[i]? =S a:=by
 grind
def abt{L:R aK}{i a:Nat}{b:aw aK}{c:aK}(aQ:ce a i=V)(d:L[i]? =b):(L.set a c)[i]? =b:=by
 grind[List.getElem?_set_ne,Nat.beq_refl]
def aiV{b d e:Nat}{au:aB}[ah au](g:aN c E L y (.eq (jf (S b) d 0 e (ah.size au)))):Src c E L y 0 ([]:R au):=λa f h=>by
 have j:a.eval y=_:=g a f h;have k:=Iz (P:=c.P) f (if e=d then(⟨b,0,Y⟩:Addr)else⟨b,d*ah.size au,Y⟩) [] (λl m n=>by grind);refine⟨by rw[j];rfl,[],?_,⟨by simp,λi o=>by grind⟩,by simp⟩;simp_all[jf,Builtin.firstCells,List.length_nil,zA]
def aa.Z2{q:R bA}{i r d a8 b j f p:Nat}{e:aB}[ah e]{m g A:R e}(I:c.P.underlying t=S (.slice r))(J:bR c.P r e)
 (K:aN c E L x (.eq (aH (S d) b f))) (M:Src c E L y j g) (N:T g=j) (B:L[i]? =S ⟨S d,.row p m f⟩) (O:b+j<=T m) (aF:m.take b++g++m.drop (b+j)=A) (aQ:cd a8 c.n=U)
 (k:aa c ops Q q ((a8,.eq (aH (S d) (b+j) f))::E) (L.set i ⟨S d,.row p A f⟩)):
 aa c ops Q (⟨S a8,.call ⟨.builtin .append,#[x,y],#[t,t]⟩,ty,pos,a1,Y⟩::q) E L:=λa h n=>by
 subst N
 subst aF
 have ab:a.eval x=_:=K a h n
 obtain⟨ac,l,ad,od,ae⟩:=M a h n
 obtain⟨ak,C,D⟩:=n.own _ (fM B)
 have af:=D
 obtain⟨ag,rfl,au,av,aw,ax⟩:=D
 obtain⟨cs,ay,ai,aj⟩:=Pw (dK:=b) O af od
 have al:cs=ag:=by simp_all
 subst al
 obtain⟨az,am,an⟩:=J.info
 have F:=EE (P:=c.P) d (b*ah.size e) p l 0 cs h C ai ae
 simp only[Nat.add_zero]at F
 have ao:b+T g<=f:=by omega
 have ap:(execOp a.eval ⟨S a8,.call ⟨.builtin .append,#[x,y],#[t,t]⟩,ty,pos,a1,Y⟩).run c.P h=.ok (.value (aH (S d) (b+T g) f)) (h.setRow d (cs.toList.take (b*ah.size e)++l++cs.toList.drop (b*ah.size e+T l)).toArray):=by
  simp[execOp,resolve,invoke,builtin,Builtin.append_,ab,aH,dZ I,ac,Go.sizeOf,typeInfo,am,an,ao,ad,kD,F]
 refine jb o (hh:=λG H=>G=aH (S d) (b+T g) f∧H=h.setRow d (cs.toList.take (b*ah.size e)++l++cs.toList.drop (b*ah.size e+T l)).toArray) (.lK ap ⟨rfl,rfl⟩) λG H ⟨aq,ar⟩=>?_
 subst aq
 subst ar
 exact k _ _ ((n.store B C aj).put (by simp_all) o)
def aiH{i aa e:Nat}{f:aw Nat}{r:aB}[ah r]{xs:R r}{J:bH}{C D F:cx}{h n k:Nat}(K:c.P.underlying t=S (.slice J))(ab:bR c.P J r)(ac:aN c E L x (.eq (aH f (T xs) e)))
 (G:L[i]? =S ⟨f,.row aa xs e⟩) (ad:aN c E L C (.of (h:Int))) (ae:aN c E L D (.of (n:Int))) (af:aN c E L F (.of (k:Int))) (H:h<=n∧n<=k∧k<=T xs):
 aZ c E L ⟨d,.slice t x (S C) (S D) (S F),ty,pos,a1,g⟩ .any:=.pure λa j l=>by
 obtain⟨ag,ai,ax⟩:=H
 obtain⟨ay,M,aj⟩:=ab.info
 have N:a.eval x=_:=ac a j l
 have O:=of_int.1 (ad a j l)
 have P:=of_int.1 (ae a j l)
 have Q:=of_int.1 (af a j l)
 have az:∃al am,aH f (T xs) e=.slice al am e∨(aH f (T xs) e=.slice Y 0 0∧k=0):=by
  cases f with
  |some A=>exact⟨_,_,.inl o⟩
  | none=>
    have B:=l.own _ (fM G)
    have I:xs=[]:=B.1
    subst I
    exact⟨Y,0,.inr ⟨rfl,by simp_all⟩⟩
 have aA:T xs<=e∨f=Y:=by
  cases f with
  |none=>simp_all
  | some A=>
    obtain⟨ak,B,cs,rfl,aC,aD,_⟩:=l.own _ (fM G)
    omega
 cases f with
 | none=>
   have B:=l.own _ (fM G)
   have I:xs=[]:=B.1
   subst I
   have an:k=0:=by simp_all
   subst an
   have ao:n=0:=by omega
   subst ao
   have ap:h=0:=by omega
   subst ap
   have p:∀(q:BoundsCode),(d1 (.int .i64 0) 0 q).run c.P j=.ok 0 j:=λq=>qi (n:=0) (m:=0) (jT _) o
   have aq:a.eval C=.int .i64 0:=O
   have ar:a.eval D=.int .i64 0:=P
   have au:a.eval F=.int .i64 0:=Q
   refine⟨.slice Y 0 0,?_,d0⟩
   simp[execOp,d9,ei,dR,N,aH,dZ K,Go.sizeOf,typeInfo,M,aq,ar,au,p]
 | some A=>
   have av:k<=e:=by
    grind
   refine⟨.slice (S (if k=h then⟨A,0,Y⟩else⟨A,h*ah.size r,Y⟩)) (n-h) (k-h),?_,d0⟩
   have p:∀(a b:Nat) (q:BoundsCode),a<=b->(d1 (.int .i64 (a:Int)) b q).run c.P j=.ok a j:=λa b q H=>qi H o
   simp[execOp,d9,ei,dR,N,aH,dZ K,Go.sizeOf,typeInfo,M,aj,O,P,Q,p k e _ av,p n k _ ai,p h n _ ag,kD]
   split <;> rfl
def aln{b n e f:Nat}(h:c.P.underlying t=S (.slice f))(i:aN c E L x (.eq (aH (S b) n e))):aZ c E L ⟨d,.call ⟨.builtin .len,#[x],#[t]⟩,ty,pos,a1,g⟩ (.of (n:Int)):=.pure λa j k=>by
 have l:a.eval x=_:=i a j k;refine⟨.int .i64 n,?_,of_int.2 o⟩;simp[execOp,resolve,invoke,builtin,ea,l,aH,dZ h,goInt]
def aa.alm{g:R bA}{i h b a8 m n d j:Nat}{a:aB}[ah a]{xs:R a}(l:c.P.underlying t=S (.slice h))(p:bR c.P h a)
 (B:aN c E L x (.eq (jf (S b) 0 (m-0) d (ah.size a)))) (e:aN c E L y (.eq (jf (S b) n (T xs-n) d (ah.size a)))) (f:L[i]? =S ⟨S b,.row j xs d⟩) (C:m<n) (aQ:n<=T xs) (aq:cd a8 c.n=U)
 (k:aa c ops Q g ((a8,.eq (aH (S b) (m+(T xs-n)) d))::E) (L.set i ⟨S b,.row j (xs.take m++xs.drop n++xs.drop (m+(T xs-n))) d⟩)):
 aa c ops Q (⟨S a8,.call ⟨.builtin .append,#[x,y],#[t,t]⟩,ty,pos,a1,Y⟩::g) E L:=by
 have q:aN c E L x (.eq (aH (S b) m d)):=by
  simp_all[CD,dN]
 rcases Fv n (T xs) with r|r
 ·have aR:=K2 (k:=T xs-n) e f (by omega) (by omega)
  rw[show(xs.drop n).take (T xs-n)=xs.drop n by simp_all[rS]]at aR
  exact aa.Z2 l p q aR (by simp) f (by omega) o aq k
 have A:T xs-n=0:=by omega
 rw[A]at e k
 have aR:=aiV (au:=a) e
 rw[show([]:R a)=xs.drop n by simp_all]at aR
 exact aa.Z2 l p q aR (by simp_all) f (by omega) o aq k
def af.again{z:cK}{e:aw Nat}{d:ft}(iv:ft)(i:Nat)(g:L[i]? =S ⟨e,d⟩)(h:∀f b ak,d.holds f b ak->iv.holds f b ak)(aQ:d.oX->iv.oX)(k:af c Q z E (L.set i ⟨e,iv⟩)):af c Q z E L:=λa b j=>
 k a b (j.again g h aQ)
end
def Hr{c:aB}(a:R c)(i b:Int):aw (R c):=if 0<=i∧i<=b∧b<=T a then S (a.take i.toNat++a.drop b.toNat)else Y
def ahB{f:aB}{a d:R f}{i b:Int}(e:Hr a i b=S d):∃c n:Nat,i=c∧b=n∧c<=n∧n<=T a∧d=a.take c++a.drop n:=by
 unfold Hr at e;split at e
 ·rename_i g;refine⟨i.toNat,b.toNat,by omega,by omega,by omega,by omega,?_⟩;simp_all
 grind
abbrev ag(a:aB):=(a->Prop)->Prop
def ag.of{a:aB}(ak:aw a):ag a:=λQ=> ∃b,ak=S b∧Q b
def ag.bind{a b:aB}(c:ag a)(k:a->ag b):ag b:=λQ=>c λd=>k d Q
def ag.ret{a:aB}(x:a):ag a:=λQ=>Q x
def mr{bb bp:aB}:Nat->(bb->ag (bb⊕bp))->bb->ag bp
 |0,_,_=>λ_=>False
 | n+1,b,a=>λQ=>b a λc=>match c with
   | .inl d=>mr n b d Q
   | .inr e=>Q e
abbrev aL(b1:aB):=R (Nat×b1)
abbrev Ref:=aw Nat
instance:ah Ref:=.scalar (λx=>Value.pointer (x.map λp=>⟨p,0,Y⟩)) λ_=>rfl
def x7{c d b}{x:Ref}:(ci x).holds c d b↔b=.pointer (x.map λe=>⟨e,0,Y⟩):=
 ⟨λa=>lJ a.1 a.2,λa=>by subst a;exact⟨rfl,rfl⟩⟩
instance:dH Ref:=⟨[.pointer Y],λ_ _=>rfl⟩
def ag.mk{b1:aB}(aC:aL b1)(k:b1):ag (Nat×aL b1):=λQ=> ∀a:Nat×aL b1,a.1∉aC.map (·.1)∧a.2=(a.1,k)::aC->Q a
def ag.oM{b1 b:aB}{aC:aL b1}{c:b1}{k:Nat×aL b1->ag b}{d:b->Prop}(e:ag.bind (ag.mk aC c) k d)(a:Nat×aL b1)(f:a.1∉aC.map (·.1)∧a.2=(a.1,c)::aC):k a d:=e a f
class eA (b1:aB)where
 gD:Nat->b1->R aK
 root:∀p k,∃e∈gD p k,e.key=S p
def bc{b1:aB}[eA b1]:aL b1->R aK
 |[]=>[]
 |(a,k)::b=>eA.gD a k++bc b
def pat{b1:aB}:aL b1->Nat->aw b1
 |[],_=>Y
 |(b,k)::c,a=>if b=a then S k else pat c a
def cS{b1:aB}:aL b1->Nat->b1->aL b1
 |[],_,_=>[]
 |(a,k)::b,c,d=>if a=c then(a,d)::b else(a,k)::cS b c d
def dy{b1:aB}(aC:aL b1):R Nat:=aC.map (·.1)
def vP{b1:aB}[eA b1]:∀{aC:aL b1} {c:Nat} {k:b1},pat aC c=S k->∃a,(bc aC).Perm (eA.gD c k++a)∧∀d,(bc (cS aC c d)).Perm (eA.gD c d++a)
 |[],_,_,b=>by grind[pat]
 | (e,f)::h,c,k,b=>by
   simp only[pat]at b;split at b
   ·rename_i g;subst g;simp only[iG]at b;subst b;exact⟨bc h,.refl _,λd=>by simp only[cS,bT];rfl⟩
   rename_i g;obtain⟨a,i,j⟩:=vP b;refine⟨eA.gD e f++a,?_,λd=>?_⟩
   ·exact(i.append_left (eA.gD e f)).trans (by rw[<-mI,<-mI];exact ox.append_right a)
   simp only[cS,bU g];exact((j d).append_left (eA.gD e f)).trans (by rw[<-mI,<-mI];exact ox.append_right a)
def Yy{b1:aB}[eA b1]{aC:aL b1}{b:Nat}(a:b∈dy aC):b∈aP (bc aC):=by
 induction aC with
 |nil=>grind[dy]
 | cons x g c=>
   obtain⟨h,k⟩:=x
   simp only[dy,pv,fj]at a
   simp only[bc,fF,eN]
   rcases a with a|a
   ·subst a
    obtain⟨d,e,f⟩:=eA.root b k
    exact .inl (tv.2 ⟨d,e,f⟩)
   exact .inr (c a)
def ji{b1:aB}{aC:aL b1}{a:Nat}{k:b1}(b:pat aC a=S k):a∈dy aC:=by
 induction aC with
 |nil=>grind[pat]
 | cons x c d=>
   grind[pat,dy]
def qo{b1:aB}{aC:aL b1}{a:Nat}{k:b1}:dy (cS aC a k)=dy aC:=by
 induction aC with
 |nil=>rfl
 |cons x b c=>grind[cS,dy]
theorem GM{b1:aB}{aC:aL b1}{a b:Nat}{k:b1}:pat (cS aC a k) b=if a=b then(pat aC a).map (λ_=>k)else pat aC b:=by
 induction aC with
 |nil=>simp[cS,pat]
 | cons x c d=>
   grind[cS,pat]
section
variable{c:cX}{E:R (Nat×J)}{L:R aK}{ops:bE bA}{Q:cK->cg->bj->Prop}
variable{d:aw Tmp}{ty:bH}{pos:String}{a1:bE Edge}{g:aw (Nat×aI)}{x y:cx}{t t2:bH}
def aiW{L a:R aK}(c:L.Perm a){b:R Nat}(k:Nat):k∈aP L++b↔k∈aP a++b:=by
 simp only[eN];rw[(xR c).mem_iff]
def oL{L a:R aK}(d:L.Perm a){b:R Nat}{c:bj}:Ext (aP L++b) c (aP a++b) c:=.drop λk e=>(aiW d k).2 e
def aN.perm{d:R aK}{x:cx}{b:J}(e:L.Perm d)(f:aN c E L x b):aN c E d x b:=λa g h=>
 b.mono (oL e) (f a g (h.perm e.symm))
def aa.perm{l:R bA}{b:R aK}(d:L.Perm b)(e:aa c ops Q l E L):aa c ops Q l E b:=λa f g=>e a f (g.perm d.symm)
def jI{x:cx}{b:Ref}{d:Nat}(e:aN c E L x (.of b))(f:b=S d):aN c E L x (.eq (.pointer (S ⟨d,0,Y⟩))):=λa g h=>by
 subst f;exact x7.1 (e a g h)
def nk:aN c E L (.const (.pointer Y)) (.of (Y:Ref)):=λa b d=>x7.2 o
variable{b1:aB}[eA b1]{aC:aL b1}{loc:R aK}
def je{b n:Nat}{k:b1}{a:aK}(f:L.drop n=bc aC)(c:pat aC b=S k)(d:eA.gD b k=[a]):a∈L:=by
 obtain⟨g,e,_⟩:=vP c;rw[d]at e;have:a∈L.drop n:=by grind
 grind
def oZ{b:R aK}{a:aK}(d:∀(i:Nat) (a:aK),L[i]? =S a->b[i]? =S a)(c:a∈L):a∈b:=by
 obtain⟨i,e⟩:=ow.1 c;grind
def oN{x:cx}{t:bH}{f ak:Nat}{e a:aB}[ah e][ah a]{b:e}(l:aG e a){h:a}(j:bR c.P t a)(k:aN c E L x (.eq (.pointer (S ⟨f,ak,Y⟩))))
 (m:(⟨S f,.var b⟩:aK)∈L) (n:ak=l.off) (aF:l.get b=h):aZ c E L ⟨d,.load t x,ty,pos,a1,g⟩ (.of h):=by
 obtain⟨i,o⟩:=ow.1 m
 exact iq (i:=i) l j k o n aF
def aa.akE{x y:cx}{t:bH}{m:R bA}{a ak:Nat}{k j:b1}{d e:aB}[ah d][ah e]{b n:d}{p:e}(l:aG d e)(A:bR c.P t e)(B:aN c E (loc++bc aC) x (.eq (.pointer (S ⟨a,ak,Y⟩))))
 (C:aN c E (loc++bc aC) y (.of p)) (D:pat aC a=S k) (F:eA.gD a k=[⟨S a,.var b⟩]) (G:eA.gD a j=[⟨S a,.var n⟩]) (H:ak=l.off) (I:l.set b p=n)
 (J:aa c ops Q m E (loc++bc (cS aC a j))):aa c ops Q (⟨Y,.store t x y,ty,pos,a1,Y⟩::m) E (loc++bc aC):=by
 obtain⟨q,f,g⟩:=vP D
 have g:=g j
 rw[F]at f
 rw[G]at g
 have h:∀{z:d} {r:R aK},r.Perm ([⟨S a,.var z⟩]++q)->(loc++r).Perm (⟨S a,.var z⟩::(loc++q)):=λK=>(K.append_left loc).trans (by simp_all)
 exact aa.perm (h f).symm (aa.store (i:=0) l A (B.perm (h f)) (C.perm (h f)) o H I (aa.perm (h g) J))
def aa.pC{x y:cx}{t:bH}{f:R bA}{a ak:Nat}{k g:b1}{h:aL b1}{e d:aB}[ah e][ah d]{b i:e}{v:d}(n:Nat)(j:L.drop n=bc aC)(l:aG e d)(m:bR c.P t d)(o:aN c E L x (.eq (.pointer (S ⟨a,ak,Y⟩))))(p:aN c E L y (.of v))(q:pat aC a=S k)(r:eA.gD a k=[⟨S a,.var b⟩])(A:eA.gD a g=[⟨S a,.var i⟩])(B:ak=l.off)(C:l.set b v=i)(D:cS aC a g=h)(F:aa c ops Q f E (L.take n++bc h)):aa c ops Q (⟨Y,.store t x y,ty,pos,a1,Y⟩::f) E L:=by
 subst D;have G:L=L.take n++bc aC:=by grind[Z]
 clear j;generalize L.take n=loc at *;subst G;exact aa.akE l m o p q r A B C F
def b0.fresh{a:cg}{b:bj}(d:b0 c E (loc++bc aC) a b):b.heap.size∉dy aC:=λe=>by
 have:=d.lt _ (by rw[fF];exact eN.2 (.inr (Yy e)));omega
def aa.aoY{t:bH}{x:cx}{f:R bA}{a8:Nat}{g:aB}[ah g]{z:g}(mk:b1)(j:∀b,eA.gD b mk=[⟨S b,.var z⟩])(l:aN c E (loc++bc aC) x (.of z))(aQ:cd a8 c.n=U)
 (k:∀b,b∉dy aC->aa c ops Q f ((a8,.of (S b:Ref))::E) (loc++bc ((b,mk)::aC))):aa c ops Q (⟨S a8,.box t x,ty,pos,a1,Y⟩::f) E (loc++bc aC):=λa d e=>by
 refine jb o (hh:=λh i=>h=.pointer (S ⟨d.heap.size,0,Y⟩)∧i=d.alloc (.cells (a.eval x).cells t)) (.lK ?_ ⟨rfl,rfl⟩) λh i ⟨m,n⟩=>?_
 ·rfl
 subst m
 subst n
 refine k _ e.fresh _ _ (d8 ?_ (by simp_all) (x7.2 o))
 refine(e.alloc (gg:=.var z) ⟨_,t,rfl,(l a d e).2⟩).perm ?_
 simp only[bc,j,c']
 exact vy.symm
def aa.yp{t:bH}{x:cx}{d:R bA}{a8:Nat}{e:aB}[ah e]{z:e}(n:Nat)(f:L.drop n=bc aC)(mk:b1)(g:∀b,eA.gD b mk=[⟨S b,.var z⟩])(h:aN c E L x (.of z))(aQ:cd a8 c.n=U)(k:∀a:Nat×aL b1,a.1∉aC.map (·.1)∧a.2=(a.1,mk)::aC->aa c ops Q d ((a8,.of (S a.1:Ref))::E) (L.take n++bc a.2)):aa c ops Q (⟨S a8,.box t x,ty,pos,a1,Y⟩::d) E L:=by
 have i:L=L.take n++bc aC:=by grind[Z]
 clear f;generalize L.take n=loc at *;subst i;exact aa.aoY mk g h aQ λb j=>k (b,(b,mk)::aC) ⟨j,rfl⟩
def me{a b c:R aK}:((a++b)++c).Perm ((a++c)++b):=by
 rw[mI,mI];exact ox.append_left a
def aa.iC{h:R bA}{a8:Nat}{e:FuncId}{i:R cx}{p:bE bH}{j:R J}{f b9:R aK}{aX:aB}{g:aX->J}{l:aX->R aK}{m:aX->aL b1}(q:bk c.P e)(r:bn c.P e j (f++bc aC) g (λd=>l d++bc (m d)))
 (A:iu c E ((f++b9)++bc aC) i j) (aQ:cd a8 c.n=U) (k:∀b,aa c ops Q h ((a8,g b)::E) ((l b++b9)++bc (m b))):
 aa c ops Q (⟨S a8,.call ⟨.value (.func e),i.toArray,p⟩,ty,pos,a1,Y⟩::h) E ((f++b9)++bc aC):=λa B n=>
 jb o (Gq (b9:=b9) q r (n.perm me) ((A.holds a B n).mono (oL me))) λF G ⟨b,C,D⟩=>
  k b _ _ ((C.perm me).put (by simp_all) ((g b).mono (oL me) D))
def aa.ez{f:R bA}{a8:Nat}{a:FuncId}{g:R cx}{o:bE bH}{h:R J}{b b9:R aK}{aX:aB}{i:aX->J}{j:aX->R aK}{l:aX->aL b1}(n m:Nat)(p:L.drop n=bc aC)(q:bk c.P a)(r:bn c.P a h (b++bc aC) i (λd=>j d++bc (l d)))
 (A:(L.take n).take m=b) (B:(L.take n).drop m=b9) (C:iu c E L g h) (aQ:cd a8 c.n=U) (k:∀e,aa c ops Q f ((a8,i e)::E) ((j e++b9)++bc (l e))):
 aa c ops Q (⟨S a8,.call ⟨.value (.func a),g.toArray,o⟩,ty,pos,a1,Y⟩::f) E L:=by
 have D:L=(b++b9)++bc aC:=by grind[Z]
 clear p A B
 subst D
 exact aa.iC q r C aQ k
def eg.alM{e:FuncId}{h:R cx}{i:bE bH}{j:R J}{f:J}(m:bk c.P e)(n:bn c.P e j (bc aC) (λ_:bG=>f) (λ_=>bc aC))
 (o:iu c E (loc++bc aC) h j):eg c E (loc++bc aC) ⟨d,.call ⟨.value (.func e),h.toArray,i⟩,ty,pos,a1,g⟩ f:=λa p k=>by
 have b:(loc++bc aC).Perm (bc aC++loc):=ox
 have l:=Gq (d:=d) (ty:=ty) (pos:=pos) (a1:=a1) (g:=g) (j7:=i) (b9:=loc) m n (k.perm b) ((o.holds a p k).mono (oL b))
 unfold hr at l⊢
 exact sd (λC D ⟨q,r,_,A,B⟩=>⟨q,r,A.perm b.symm,f.mono (oL b.symm) B⟩) l
def eg.iC{a:FuncId}{b:R cx}{h:bE bH}{e:R J}{f:J}(n:Nat)(i:L.drop n=bc aC)(j:bk c.P a)(k:bn c.P a e (bc aC) (λ_:bG=>f) (λ_=>bc aC))(l:iu c E L b e):eg c E L ⟨d,.call ⟨.value (.func a),b.toArray,h⟩,ty,pos,a1,g⟩ f:=by
 have m:L=L.take n++bc aC:=by grind[Z]
 clear i;generalize L.take n=loc at *;subst m;exact eg.alM j k l
def OK{P:cV}{c:bH}(b:bj)(n:Nat){t:bH}(a:aw Addr)(d:P.underlying t=S (.pointer c)):(Op.equalIn (n+1) t (.pointer a) (.pointer Y)).run P b=.ok a.isNone b:=by
 cases a <;> simp[Op.equalIn,dZ d]
def CI{b:Ref}{f:bH}(h:c.P.underlying t=S (.pointer f))(i:aN c E L x (.of b)):aZ c E L ⟨d,.binOp .eql t x (.const (.pointer Y)) t2,ty,pos,a1,g⟩ (.of b.isNone):=.pure λa e j=>by
 have k:=x7.1 (i a e j);refine⟨.bool b.isNone,?_,of_bool.2 o⟩;have aQ:a.eval (.const (.pointer Y))=.pointer Y:=rfl;simp only[execOp,eqGuard,binOp,k,aQ,Op.equal,Op.maxDepth];have:=OK (P:=c.P) e 9999 (b.map λl=>⟨l,0,Y⟩) h;simp_all
def ahT{b:Ref}{f:bH}(h:c.P.underlying t=S (.pointer f))(i:aN c E L x (.of b)):aZ c E L ⟨d,.binOp .neq t x (.const (.pointer Y)) t2,ty,pos,a1,g⟩ (.of b.isSome):=.pure λa e j=>by
 have k:=x7.1 (i a e j);refine⟨.bool b.isSome,?_,of_bool.2 o⟩;have aQ:a.eval (.const (.pointer Y))=.pointer Y:=rfl;simp only[execOp,eqGuard,binOp,k,aQ,Op.equal,Op.maxDepth];have:=OK (P:=c.P) e 9999 (b.map λl=>⟨l,0,Y⟩) h;simp_all
end
def ag0{P:cV}{t e r:bH}{n:Nat}(B:P.underlying t=S (.array n e))(j:bR P e Ref)(C:P.underlying e=S (.pointer r)){g:R Nat}{c:bj}{k l:bt}{x y:ck Ref n}(D:(ci x).holds g c k)(E:(ci y).holds g c l)
 (aQ:∀i,i<n->cu y i=Y) (d:Nat) (aq:2<=d):(Op.equalIn d t k l).run P c=.ok (cb (x=y)) c:=by
 obtain⟨d,rfl⟩:∃e,d=e+1:=⟨d-1,by omega⟩
 obtain⟨ab,m⟩:=D
 obtain⟨ac,o⟩:=E
 obtain⟨p,rfl⟩:∃cs,k=.agg cs:=by simp_all[shaped,ah.agg]
 obtain⟨q,rfl⟩:∃cs,l=.agg cs:=by simp_all[shaped,ah.agg]
 simp only[Value.cells]at m o
 have ad:T p.toList=n*ah.size Ref:=ah.len m
 have ae:T q.toList=n*ah.size Ref:=ah.len o
 have F:∀i∈d2 0 n,((do
  let a <-part e p (i*ah.size Ref)
  let b <-part e q (i*ah.size Ref)
  Op.equalIn d e a b):Sem aI).run P c=.ok (cb (cu x i=cu y i)) c:=by
  intro i af
  have f:i<n:=by simp_all
  have ag:i*ah.size Ref+ah.size Ref<=n*ah.size Ref:=(c3 (au:=Ref) n i f).hD
  obtain⟨a,G,H⟩:=uE (A:=g) (P:=P) (W:=c) (cs:=p) (off:=i*ah.size Ref) j (by simp_all) ((c3 (au:=Ref) n i f).jK m)
  obtain⟨b,I,K⟩:=uE (A:=g) (P:=P) (W:=c) (cs:=q) (off:=i*ah.size Ref) j (by simp_all) ((c3 (au:=Ref) n i f).jK o)
  simp only[eH,G,I,a']
  obtain⟨d,rfl⟩:∃e,d=e+1:=⟨d-1,by omega⟩
  have L:=x7.1 H
  have M:=x7.1 K
  subst L;subst M
  have N:(c3 (au:=Ref) n i f).get y=Y:=aQ i f
  rw[N,Option.map_none,OK c d _ C]
  have O:cu y i=Y:=aQ i f
  rw[O]
  show Result.ok ((cu x i).map _).isNone c=_
  congr 1
  cases cu x i <;> rfl
 have h:=OJ (P:=P) (W:=c) _ _ _ F
 have Q:(d2 0 n).all (λi=>decide (cu x i=cu y i))=cb (x=y):=by
  grind[cu]
 rw[Q]at h
 simp only[Op.equalIn,eH,dZ B,a',j.sizeOf,MW]
 simp only[Std.Legacy.Range.size,dN,Nat.add_one_sub_one,Nat.div_one]at h⊢
 simp only[bind_assoc]at h
 rw[h]
 by_cases aa:x=y
 ·simp[aa]
 simp_all
def aiG{c:cX}{E:R (Nat×J)}{L:R aK}{d:aw Tmp}{ty:bH}{pos:String}{a1:bE Edge}{g:aw (Nat×aI)}{x y:cx}{t t2 f m:bH}{n:Nat}{a b:ck Ref n}(p:c.P.underlying t=S (.array n f))(q:bR c.P f Ref)(r:c.P.underlying f=S (.pointer m))(G:c.P.eqGuardType c.P.depth t=V)
 (A:aN c E L x (.of a)) (B:aN c E L y (.of b)) (aQ:∀i,i<n->cu b i=Y):aZ c E L ⟨d,.binOp .eql t x y t2,ty,pos,a1,g⟩ (.of (cb (a=b))):=.pure λe h j=>by
 have k:=A e h j
 have l:=B e h j
 obtain⟨H,C⟩:∃cs,e.eval x=.agg cs:=by simpa[shaped,ah.agg]using k.1
 obtain⟨I,D⟩:∃cs,e.eval y=.agg cs:=by simpa[shaped,ah.agg]using l.1
 have F:=ag0 p q r k l aQ 10000 (by decide)
 rw[C,D]at F
 refine⟨.bool (cb (a=b)),?_,of_bool.2 o⟩
 simp_all[execOp,eH,NP,a',run_eql_struct,c5]
section
variable{c:cX}{E:R (Nat×J)}{L:R aK}{ops:bE bA}{Q:cK->cg->bj->Prop}
def ag.akF{a b:aB}{ak:aw a}{k:a->ag b}{c:b->Prop}(e:ag.bind (ag.of ak) k c):∃d,ak=S d∧k d c:=e
def ag1{F:Fence}{n:Nat}{P:cV}{g:ec}{i r:aB}(b:i->ag (i⊕r))(j:i->cg->bj->Prop)(K:r->cK->cg->bj->Prop)
 (N:∀d e,b d e->∀a c,j d a c->g.wpIn F n P (λx a c=>(∃l,e (.inl l)∧x=.normal∧j l a c)∨∃h,e (.inr h)∧x≠ .normal∧K h x a c) a c)
 (Q:cK->cg->bj->Prop) (e:r->Prop) (O:∀h x a c,e h->K h x a c->Q x a c) {A:i} {f:Nat} (R:mr f b A e) {B:cg} {C:bj} (aa:j A B C):
 (Code.loop g).wpIn F n P Q B C:=by
 intro D k cs ab E aF
 have ac:∀f d,mr f b d e->∀a c,j d a c->
  ∃x m p,Q x m p∧ArrivesIn (Machine.fenced P F) P (lone (D.atR a (.code g::.inLoop g::k)) cs c) D k cs x m p:=by
  intro f
  induction f with
  |zero=>intro d G;exact G.elim
  | succ f ad=>
    intro d G a c ae
    obtain⟨x,L,M,H,q⟩:=N d _ G a c ae D (.inLoop g::k) cs ab E aF
    rcases H with⟨l,I,J,af⟩|⟨h,I,J,ah⟩
    ·subst J
     obtain⟨ai,aj,ak,al,am⟩:=ad l I L M af
     exact⟨ai,aj,ak,al,.of_steps (N5 q (.one (B2 E aF o) stepR_inLoop)) am⟩
    exact⟨x,L,M,O _ _ _ _ I ah,.pass (x:=.inLoop g) o (λ_ _=>.inl J) q⟩
 obtain⟨x,m,p,H,q⟩:=ac f A R B C aa
 exact⟨x,m,p,H,.of_steps (.one (B2 E aF o) stepR_loop) q⟩
def dV{e b h aX:aB}(c:cX)(E:e->h->R (Nat×J))(L:e->h->R aK)(k:b->cK)(ig:b->aX->R (Nat×J))(l:b->aX->R aK)(i:e⊕b->Prop):cK->cg->bj->Prop:=λx a j=>
 (∃f,i (.inl f)∧x=.normal∧∃g,b0 c (E f g) (L f g) a j)∨∃d,i (.inr d)∧x≠ .normal∧x=k d∧∃g,b0 c (ig d g) (l d g) a j
def af.uL{b d f aX:aB}{h:b->f->R (Nat×J)}{i:b->f->R aK}{k:d->cK}{ig:d->aX->R (Nat×J)}{l:d->aX->R aK}{j:b⊕d->Prop}{e:b}(m:j (.inl e))(g:f)(n:Nat)
 (o:L.drop n=i e g) (p:gp E (h e g)):af c (dV c h i k ig l j) .normal E L:=λa r q=>.inl ⟨e,m,rfl,g,by rw[<-o];exact(q.sA n).less p.look⟩
def af.rj{e b f aX:aB}{k:e->f->R (Nat×J)}{l:e->f->R aK}{h:b->cK}{ig:b->aX->R (Nat×J)}{i:b->aX->R aK}{j:e⊕b->Prop}{d:b}{x:cK}(m:j (.inr d))(g:aX)(n:Nat)
 (o:x=h d) (aQ:x≠ .normal) (p:L.drop n=i d g) (q:gp E (ig d g)):af c (dV c k l h ig i j) x E L:=λa A r=>.inr ⟨d,m,aQ,o,g,by rw[<-p];exact(r.sA n).less q.look⟩
def ar.mr{bb bp j aX:aB}{o:ec}{p:Nat}{b:bb->ag (bb⊕bp)}{k:bb}{hh:bp->Prop}(q:Gv.mr p b k hh)
 (h:bb->j->R (Nat×J)) (i:bb->j->R aK) (l:bp->cK) (ig:bp->aX->R (Nat×J)) (m:bp->aX->R aK) (n:j) (r:L=i k n) (A:gp E (h k n))
 (B:∀f hh,b f hh->∀g,ar c (dV c h i l ig m hh) o (h f g) (i f g))
 (C:∀d,hh d->∀g,af c Q (l d) (ig d g) (m d g)):ar c Q (.loop o) E L:=λa e D=>by
 subst r
 exact ag1 b (λf a e=> ∃g,b0 c (h f g) (i f g) a e) (λd x a e=>x=l d∧∃g,b0 c (ig d g) (m d g) a e)
  (λf hh aR a e ⟨g,F⟩=>wpIn_mono (B f hh aR g a e F) (λx a e G=>by
   rcases G with⟨O,H,I,K⟩|⟨P,H,I,K,aa⟩
   ·grind
   grind)) Q hh (λd x a e M ⟨N,g,aR⟩=>by subst N;exact C d M g a e aR) q ⟨n,D.less A.look⟩
def XO{a:aB}{b:aI}{c n:ag a}{d:a->Prop}(e:b=U)(f:cond b c n d):c d:=by simp_all
def XP{a:aB}{b:aI}{d n:ag a}{c:a->Prop}(e:b=V)(f:cond b d n c):n c:=by simp_all
def ar.alN{f j l:aB}{d:l->Prop}{x:cx}{b:aI}{y z:ec}{m n:ag f}{k:f->ag l}(o:ag.bind (bif b then m else n) k d)(h:f->j->R (Nat×J))(i:f->j->R aK)(q:aN c E L x (.of b))
 (p:∀a g,k a d->af c Q .normal (h a g) (i a g))
 (r:(∀a g,k a d->af c (dr Q) .normal (h a g) (i a g))->b=U->m (λa=>k a d)->ar c (dr Q) y E L) (A:(∀a g,k a d->af c (dr Q) .normal (h a g) (i a g))->b=V->n (λa=>k a d)->ar c (dr Q) z E L):ar c Q (.cond x y z) E L:=
 ar.cond q (λe=>r p e (XO e o)) (λe=>A p e (XP e o))
def ar.Yo{bb bp aY aX n:aB}{o:ec}{q:Nat}{b:bb->ag (bb⊕bp)}{f:bb}{k:bp->ag n}{h:n->Prop}(r:ag.bind (Gv.mr q b f) k h)
 (d:bb->aY->R (Nat×J)) (e:bb->aY->R aK) (i:bp->cK) (ig:bp->aX->R (Nat×J)) (j:bp->aX->R aK) (l:aY) (A:L=e f l) (B:gp E (d f l))
 (C:∀m p,b m p->∀g,ar c (dV c d e i ig j p) o (d m g) (e m g))
 (D:∀a,k a h->∀g,af c Q (i a) (ig a g) (j a g)):ar c Q (.loop o) E L:=
 ar.mr (hh:=λa=>k a h) r d e i ig j l A B C D
def ank{n:Nat}:∀i,i<n->cu (c0:ck Ref n) i=Y:=λi a=>by
 have:(c0:ck Ref n)=Vector.replicate n Y:=rfl;simp_all[cu]
def mW(a:cC)(i:Int):aw (cE 8):=(if 0<=i then a[i.toNat]? else Y).map λb=>BitVec.ofNat 8 b.toNat
def sr{d:aw Tmp}{ty:bH}{pos:String}{a1:bE Edge}{g:aw (Nat×aI)}{x y:cx}{t:bH}{e:cC}{i:Int}{f:cE 8}(n:c.P.underlying t=S .string)(k:aN c E L x (.of e))(l:aN c E L y (.of i))(aF:mW e i=S f):
 aZ c E L ⟨d,.index t x y,ty,pos,a1,g⟩ (.of f):=.pure λa h j=>by
 have o:=rm.1 (k a h j)
 have p:=of_int.1 (l a h j)
 unfold mW at aF
 cases m:(if 0<=i then e[i.toNat]? else Y)with
 |none=>simp_all
 | some b=>
   rw[m]at aF
   simp only[cA,iG]at aF
   subst aF
   have q:b.toNat<256:=b.toNat_lt
   refine⟨.int .u8 b.toNat,?_,n2.2 (by simp_all)⟩
   simp_all[execOp,em,asIntOf,dZ]
def ajM{d:aw Tmp}{ty:bH}{pos:String}{a1:bE Edge}{g:aw (Nat×aI)}{x y:cx}{t:bH}{e:cC}{i:cE 8}{f:cE 8}(o:c.P.underlying t=S .string)(l:aN c E L x (.of e))(m:aN c E L y (.of i))(aF:mW e (i.toNat:Int)=S f):
 aZ c E L ⟨d,.index t x y,ty,pos,a1,g⟩ (.of f):=.pure λa h j=>by
 have p:=rm.1 (l a h j)
 have q:=n2.1 (m a h j)
 unfold mW at aF
 cases k:(if 0<=(i.toNat:Int)then e[(i.toNat:Int).toNat]? else Y)with
 |none=>simp_all
 | some b=>
   rw[k]at aF
   simp only[cA,iG]at aF
   subst aF
   have r:b.toNat<256:=b.toNat_lt
   refine⟨.int .u8 b.toNat,?_,n2.2 (by simp_all)⟩
   have n:=k
   simp only[Int.natCast_nonneg,l7,Int.toNat_natCast]at n
   simp_all[execOp,em,asIntOf,dZ]
end
structure gb where
 p:Option Nat
 deriving DecidableEq,Inhabited
instance:ah gb:=.scalar (λx=>Value.map x.p) λ_=>rfl
instance:dH gb:=⟨[.map Y],λ_ _=>rfl⟩
def xU{c d b}{x:gb}:(ci x).holds c d b↔b=.map x.p:=
 ⟨λa=>lJ a.1 a.2,λa=>by subst a;exact⟨rfl,rfl⟩⟩
def kQ{c:cX}{E:R (Nat×J)}{L:R aK}{x:cx}{b:gb}{d:Nat}(e:aN c E L x (.of b))(f:b.p=S d):aN c E L x (.of (⟨S d⟩:gb)):=λa g h=>by
 have:=xU.1 (e a g h);rw[f]at this;exact xU.2 this
inductive lC{au b7:Type}[ah au][ah b7](A:List Nat)(W:World):List MapEntry->List (au×b7)->Prop
 |nil:lC A W [] []
 |cons {e k v es r}:(ci k).holds A W e.key->(ci v).holds A W e.val->lC A W es r->lC A W (e::es) ((k,v)::r)
def lC.mono{b c:aB}[ah b][ah c]{d e f g}(a:Ext d e f g):∀{h:R MapEntry} {i:R (b×c)},lC d e h i->lC f g h i
 |_,_,.nil=>.nil
 |_,_,.cons j k l=>.cons (J.mono _ a j) (J.mono _ a k) (l.mono a)
def ft.map{au b7:aB}[ah au][ah b7](jt:R (au×b7)):ft where
 holds A W ak:=∃es clock,ak=.map es clock∧lC A W es.toList jt∧(∀x∈es.toList,x.born<clock)∧(es.toList.map MapEntry.born).Nodup
 oX:=False
 mono e h:=let⟨es,clock,h1,fx,iX⟩:=h; ⟨es,clock,h1,fx.mono e,iX⟩
def dU{a b:aB}[DecidableEq a]:R (a×b)->a->aw b
 |[],_=>Y
 |(k,c)::d,x=>if x=k then S c else dU d x
def fB{a b:aB}[DecidableEq a]:R (a×b)->a->b->R (a×b)
 |[],x,y=>[(x,y)]
 |(k,d)::c,x,y=>if x=k then(x,y)::c else(k,d)::fB c x y
def iT{a b:aB}[DecidableEq a]:R (a×b)->a->R (a×b)
 |[],_=>[]
 |(k,d)::c,x=>if x=k then c else(k,d)::iT c x
class iY (au:aB) [ah au]:Prop where
 uniq:∀{A W cs fh dE HH} {x:au},ah.rep A W cs x->ah.rep fh dE HH x->cs=HH
 plain:∀{A W cs} {x:au},ah.rep A W cs x->∀v∈cs,∀n,cp n v v=U
instance:iY Int:=⟨λh a=>h.trans a.symm,λh v b n=>by subst h;simp_all[cp]⟩
instance:iY (cE 64):=⟨λh a=>h.trans a.symm,λh v b n=>by subst h;simp_all[cp]⟩
instance:iY aI:=⟨λh a=>h.trans a.symm,λh v b n=>by subst h;simp_all[cp]⟩
instance{au:aB}[ah au][Inhabited au][iY au]{n:Nat}:iY (ck au n):=⟨λ{A W cs o dE b x} h c=>by
 have e:T cs=n*ah.size au:=ah.len h;have p:T b=n*ah.size au:=ah.len c;have q:∀m,m<=n->cs.take (m*ah.size au)=b.take (m*ah.size au):=by
  intro m;induction m with
  |zero=>simp_all
  | succ m f=>
    intro g
    have d:m<n:=g
    have a:=(c3 (au:=au) n m d).jK h
    have j:=(c3 (au:=au) n m d).jK c
    have r:=iY.uniq a j
    rw[vI,d',d',f (by omega)]
    congr 1
 grind[List.take_length],
 λ{A W cs x} h v l k=>by
  have e:T cs=n*ah.size au:=ah.len h;obtain⟨i,B,rfl⟩:=yY l;by_cases aR:ah.size au=0
  ·grind
  have iD:i/ah.size au<n:=Te (by grind);have a:=(c3 (au:=au) n (i/ah.size au) iD).jK h;refine iY.plain a _ ?_ k;have aF:i % ah.size au<ah.size au:=FJ _ (by omega);have aq:=ET i (ah.size au);refine ow.2 ⟨i % ah.size au,?_⟩;grind⟩
def Ae{cs b:R bt}(ak a:Nat)(c:(cs.drop ak).take a=(b.drop ak).take a)(k:cs.drop (ak+a)=b.drop (ak+a)):cs.drop ak=b.drop ak:=by
 grind[Z,List.drop_drop]
def P3{cs a:R bt}{n:Nat}(b:T cs=n)(c:T a=n)(k:cs.drop 0=a.drop 0):cs=a:=by simp_all
def P4{cs b:R bt}{n a:Nat}(c:T cs=n)(d:T b=n)(k:n<=a):cs.drop a=b.drop a:=by
 simp_all[Ed]
def ag2{c:aB}[ah c][iY c]{h i j k d e}{x:c}(l:(ci x).holds h i d)(m:(ci x).holds j k e):d=e:=by
 obtain⟨f,n⟩:=l;obtain⟨g,o⟩:=m;have q:=iY.uniq n o;by_cases p:ah.agg c=U
 ·simp only[shaped,p,l7]at f g;obtain⟨a,rfl⟩:=f;obtain⟨b,rfl⟩:=g;simp_all[Value.cells]
 simp_all[qc,shaped,qP,nV,cells_one]
def WH{P:bt->bt->aI}:∀{cs:R bt},(∀b∈cs,P b b=U)->((cs.zip cs).all λ(x,y)=>P x y)=U
 |[],_=>rfl
 | a::e,c=>by
   simp only[List.zip_cons_cons,List.all_cons,hx];exact⟨c a (by simp),WH λb d=>c b (by simp[d])⟩
def ag3{b:aB}[ah b][iY b]{g h c}{x:b}(i:(ci x).holds g h c)(n:Nat):cp (n+1) c c=U:=by
 obtain⟨d,e⟩:=i;by_cases f:ah.agg b=U
 ·simp only[shaped,f,l7]at d;obtain⟨a,rfl⟩:=d;simp only[Value.cells]at e;simp only[cp,NK,tb];exact WH λj k=>iY.plain e j k n
 simp only[qc]at f;simp only[shaped,f,qP,nV]at d;rw[cells_one d]at e;exact iY.plain e c (by simp) _
def ahU{a:aB}[ah a][iY a]{P:cV}{f g h i c b}{x:a}(d:(ci x).holds f g c)(j:(ci x).holds h i b)(e:bj):(dL c b).run P e=.ok b e:=by
 have:=ag2 d j;subst this;simp[dL,ag3 d 9999]
def qK(P:cV)(t:bH)(c:aB)[ah c](n:Nat):Prop:=∀b d f a e (x:c),n<=d->(ci x).holds f a e->(cm b d t e).run P a=.ok () a
def Ky{P:cV}{t:bH}{au:aB}[ah au]{a:TypeDesc}(c:P.underlying t=S a)(aq:(match (motive:=TypeDesc->aI) a with | .interface _| .array _ _| .struct _=>V|_=>U)=U):qK P t au 1:=by
 intro b d f g h x aQ i;obtain⟨d,rfl⟩:∃e,d=e+1:=⟨d-1,by omega⟩;simp only[cm,eH,dZ c,a'];cases a <;> simp at aq <;> rfl
def UH{P:cV}{W:bj}{b:aB}(a:b->Sem bG):∀(l:R b),(∀i∈l,(a i).run P W=.ok () W)->
 (forIn (m:=Sem) l () (λi _=>do a i;pure (ForInStep.yield ()))).run P W=.ok () W
 |[],_=>by simp
 | i::d,c=>by
   have g:=c i (by simp);have h:=UH (P:=P) (W:=W) a d (λe f=>c e (by simp[f]));simp_all
def Uw{P:cV}{W:bj}{b:aB}(a:b->PUnit->Sem (ForInStep PUnit)):∀(l:R b),(∀i∈l,(a i ()).run P W=.ok (.yield ()) W)->(forIn (m:=Sem) l PUnit.unit a).run P W=.ok () W
 |[],_=>by simp
 | i::d,c=>by
   have g:=c i (by simp);have h:=Uw (P:=P) (W:=W) a d (λe f=>c e (by simp[f]));simp_all
def Yz{P:cV}{t e n k:Nat}{c:aB}[ah c][Inhabited c](o:P.underlying t=S (.array n e))(j:bR P e c)(p:qK P e c k):qK P t (ck c n) (k+1):=by
 intro b d l f q x aq r;obtain⟨d,rfl⟩:∃e,d=e+1:=⟨d-1,by omega⟩;obtain⟨E,g⟩:=r;obtain⟨h,rfl⟩:∃cs,q=.agg cs:=by simp_all[shaped,ah.agg]
 simp only[Value.cells]at g;have F:T h.toList=n*ah.size c:=ah.len g;have B:∀i∈d2 0 n,((do
  let z <-Go.sizeOf e
  let a <-part e h (i*z)
  cm b d e a):Sem bG).run P f=.ok () f:=by
  intro i G
  have m:i<n:=by simp_all
  have H:i*ah.size c+ah.size c<=n*ah.size c:=(c3 (au:=c) n i m).hD
  obtain⟨a,C,D⟩:=uE (A:=l) (P:=P) (W:=f) (cs:=h) (off:=i*ah.size c) j (by simp_all) ((c3 (au:=c) n i m).jK g)
  simp only[eH,j.sizeOf,C,a']
  exact p b d l f a _ (by omega) D
 have I:=UH (P:=P) (W:=f) _ _ B;simp only[cm,eH,dZ o,a',MW];simp_all
inductive HQ(P:Program)(b7:Type)[ah b7](k:Nat):List Field->Prop
 |nil:HQ P b7 k []
 |cons {aY:Type} [ah aY] {f r} (l:aG b7 aY):l.off=f.offset->bR P f.type aY->qK P f.type aY k->HQ P b7 k r->HQ P b7 k (f::r)
def Pk{P:cV}{t k:Nat}{f:aB}[ah f]{h:bE Field}(m:ah.agg f=U)(i:P.underlying t=S (.struct h))(J:HQ P f k h.toList):qK P t f (k+1):=by
 intro b d n e q x aq r;obtain⟨d,rfl⟩:∃B,d=B+1:=⟨d-1,by omega⟩;obtain⟨K,j⟩:=r;obtain⟨g,rfl⟩:∃cs,q=.agg cs:=by simp_all[shaped]
 simp only[Value.cells]at j;have L:T g.toList=ah.size f:=ah.len j;have C:∀c∈h.toList,((do
  if c.name≠ "_" then do
   let a <-part c.type g c.offset
   cm b d c.type a):Sem bG).run P e=.ok () e:=by
  have M:∀l,HQ P f k l->∀c∈l,((do
   if c.name≠ "_" then do
    let a <-part c.type g c.offset
    cm b d c.type a):Sem bG).run P e=.ok () e:=by
   intro l D
   induction D with
   |nil=>simp
   | cons l E F G o N=>
     rename_i c O
     intro Q p
     rcases fj.1 p with rfl|p
     ·split
      ·obtain⟨a,m,H⟩:=uE (A:=n) (P:=P) (W:=e) (cs:=g) (off:=l.off) F (by have:=l.hD;simp_all) (l.jK j)
       rw[<-E]
       simp only[eH,m,a']
       exact G b d n e a _ (by omega) H
      rfl
     simp_all
  grind
 simp only[cm,eH,dZ i,a'];rw[<-Array.forIn_toList,Uw]
 ·rfl
 intro c I;have:=C c I;split
 ·rename_i aQ;rw[bT aQ]at this;simp only[eH]at this⊢;revert this;generalize (part c.type g c.offset).run P e=o;cases o <;> simp only[dh] <;> intro i <;> first|simp_all|cases i
 rfl
structure pj(P:Program)(t:TypeId)(au:Type)[ah au][DecidableEq au]:Prop where
 check:∀b A W u (x:au),(ci x).holds A W u->(cm b 10000 t u).run P W=.ok () W
 same:∀A W u v (x y:au),(ci x).holds A W u->(ci y).holds A W v->(Op.equal t u v).run P W=.ok (decide (x=y)) W
 now:∃D,P.underlying t=S D∧∀A W u v (x y:au),(ci x).holds A W u->(ci y).holds A W v->c1 D u v=Y∨c1 D u v=S (decide (x=y))
def mV{a b:aB}[DecidableEq a]:R (a×b)->a->Nat->aw (Nat×b)
 |[],_,_=>Y
 |(k,c)::d,x,i=>if x=k then S (i,c)else mV d x (i+1)
def Found{b a:aB}[ah b][ah a](c:R Nat)(d:bj)(h:R (b×a)):aw (Nat×bt)->aw (Nat×a)->Prop
 |none,Y=>True
 |some (i,e),S (f,g)=>i=f∧(ci g).holds c d e
 |_,_=>False
def UM{a h:aB}[ah a][ah h][DecidableEq a]{c:TypeDesc}{d:R Nat}{e:bj}{b:bt}{x:a}(p:(ci x).holds d e b)
 (aR:∀f (y:a),(ci y).holds d e f->c1 c b f=Y∨c1 c b f=S (cb (x=y))) (m:R (a×h)):∀{g:R MapEntry} {n:R (a×h)} (i:Nat),lC d e g n->
 cq c b g i=Y∨∃j,cq c b g i=S j∧Found d e m j (mV n x i)
 |[],_,i,l=>by cases l;exact .inr ⟨Y,rfl,d0⟩
 | o::g,_,i,l=>by
   cases l with
   | cons q r A=>
     rename_i k f j
     rcases aR o.key k q with B|B
     ·simp_all[cq]
     by_cases C:x=k
     ·exact .inr ⟨S (i,o.val),by simp_all[cq],by simp only[mV,bT C];exact⟨rfl,r⟩⟩
     rcases UM p aR m (i+1) A with D|⟨E,D,F⟩
     ·simp_all[cq]
     simp_all[cq,mV,bU]
def Uo{a d:aB}[ah a][ah d][DecidableEq a]{P:cV}{t:bH}(j:pj P t a){c:R Nat}{b:bj}{e:bt}{x:a}(l:(ci x).holds c b e)(m:R (a×d)):∀{f:R MapEntry} {n:R (a×d)} (i:Nat),lC c b f n->
 ∃g,(c4 t e f i).run P b=.ok g b∧Found c b m g (mV n x i)
 |[],_,i,h=>by cases h;exact⟨Y,rfl,d0⟩
 | o::f,_,i,h=>by
   cases h with
   | cons p q r=>
     rename_i k B g
     have C:=j.same c b e o.key x k l p
     by_cases A:x=k
     ·exact⟨S (i,o.val),by simp_all[c4,eH],by simp only[mV,bT A];exact⟨rfl,q⟩⟩
     obtain⟨D,E,F⟩:=Uo j l m (i+1) r
     simp_all[c4,eH,mV,bU]
def OL{b h:aB}[ah b][ah h][DecidableEq b]{P:cV}{t:bH}(i:pj P t b){d:R Nat}{a:bj}{f:bt}{x:b}(g:(ci x).holds d a f){j:R MapEntry}{c:R (b×h)}(k:lC d a j c):
 ∃e,(dl t f j).run P a=.ok e a∧Found d a c e (mV c x 0):=by
 obtain⟨o,p,aR⟩:=i.now
 rcases UM g (λl y m=>aR d a f l x y g m) c 0 k with n|⟨e,n,q⟩
 ·obtain⟨e,r,A⟩:=Uo i g c 0 k
  simp_all[dl,eH,dZ]
 simp_all[dl,eH,dZ]
def PC{g h:aB}[ah g][ah h][DecidableEq g]{a:R Nat}{b:bj}{x:g}:∀{f:R MapEntry} {j:R (g×h)} {l i:Nat} {o:h},lC a b f j->mV j x l=S (i,o)->
 ∃c m,i=l+c∧f[c]? =S m∧(ci x).holds a b m.key∧(∀(d:MapEntry) (y:h),(ci x).holds a b d.key->(ci y).holds a b d.val->lC a b (f.set c d) (fB j x y))∧lC a b (f.eraseIdx c) (iT j x)
 |[],_,l,i,o,p,e=>by cases p;cases e
 | m::f,_,l,i,o,p,e=>by
   cases p with
   | cons q r A=>
     rename_i k K L
     by_cases n:x=k
     ·subst n
      simp only[mV,bT]at e
      simp only[iG,zp]at e
      exact⟨0,m,by omega,rfl,q,λd y B C=>by simp only[fB,bT];exact .cons B C A,by simp_all[iT,bT]⟩
     simp only[mV,bU n]at e
     obtain⟨c,d,B,C,D,E,F⟩:=PC A e
     exact⟨c+1,d,by omega,by simp_all,D,λG y H I=>by simp only[fB,bU n];exact .cons q r (E G y H I),by simp only[iT,bU n];exact .cons q r F⟩
def O5{c f:aB}[ah c][ah f][DecidableEq c]{d:R Nat}{e:bj}{x:c}:∀{g:R MapEntry} {b:R (c×f)} {h:Nat},lC d e g b->mV b x h=Y->
 (∀(a:MapEntry) (y:f),(ci x).holds d e a.key->(ci y).holds d e a.val->lC d e (g++[a]) (fB b x y))∧iT b x=b
 |[],_,h,i,_=>by cases i;exact⟨λa y j l=>.cons j l .nil,rfl⟩
 | A::g,_,h,i,m=>by
   cases i with
   | cons j l o=>
     rename_i k B C
     by_cases n:x=k
     ·simp_all[mV]
     simp only[mV,bU n]at m
     obtain⟨p,D⟩:=O5 o m
     exact⟨λa y q r=>by simp only[fB,bU n];exact .cons j l (p a y q r),by simp_all[iT,bU]⟩
def lC.length{a b:aB}[ah a][ah b]{e f}:∀{c:R MapEntry} {d:R (a×b)},lC e f c d->c.length=d.length
 |_,_,.nil=>rfl
 |_,_,.cons _ _ g=>by simp[g.length]
def Vp{a c:aB}[DecidableEq a]:∀(b:R (a×c)) (x:a) (i:Nat),(mV b x i).map (·.2)=dU b x
 |[],_,_=>rfl
 |(k,d)::e,x,i=>by simp only[mV,dU];split <;> simp[Vp]
section
variable{c:cX}{E:R (Nat×J)}{L:R aK}{ops:bE bA}{Q:cK->cg->bj->Prop}
variable{d:aw Tmp}{ty:bH}{pos:String}{a1:bE Edge}{g:aw (Nat×aI)}{x y z:cx}{t t2:bH}
variable{b1:aB}[eA b1]{aC:aL b1}{loc:R aK}
def aa.akG{au b7:aB}[ah au][ah b7]{d:R bA}{a8:Nat}(mk:b1)(i:∀b,eA.gD b mk=[⟨S b,.map ([]:R (au×b7))⟩])(aQ:cd a8 c.n=U)
 (k:∀b,b∉dy aC->aa c ops Q d ((a8,.of (⟨S b⟩:gb))::E) (loc++bc ((b,mk)::aC))):aa c ops Q (⟨S a8,.makeMap t Y,ty,pos,a1,Y⟩::d) E (loc++bc aC):=λa e f=>by
 refine jb o (hh:=λg h=>g=.map (S e.heap.size)∧h=e.alloc (.map #[] 0)) (.lK ?_ ⟨rfl,rfl⟩) λg h ⟨j,l⟩=>?_
 ·rfl
 subst j
 subst l
 refine k _ f.fresh _ _ (d8 ?_ (by simp_all) (xU.2 o))
 refine(f.alloc (gg:=.map ([]:R (au×b7))) ⟨#[],0,rfl,.nil,by simp,by simp⟩).perm ?_
 simp only[bc,i,c']
 exact vy.symm
def aa.CU{au b7:aB}[ah au][ah b7]{d:R bA}{a8:Nat}(n:Nat)(e:L.drop n=bc aC)(mk:b1)(f:∀b,eA.gD b mk=[⟨S b,.map ([]:R (au×b7))⟩])(aQ:cd a8 c.n=U)(k:∀a:Nat×aL b1,a.1∉aC.map (·.1)∧a.2=(a.1,mk)::aC->aa c ops Q d ((a8,.of (⟨S a.1⟩:gb))::E) (L.take n++bc a.2)):aa c ops Q (⟨S a8,.makeMap t Y,ty,pos,a1,Y⟩::d) E L:=by
 have g:L=L.take n++bc aC:=by grind[Z]
 clear e;generalize L.take n=loc at *;subst g;exact aa.akG (au:=au) (b7:=b7) mk f aQ λb h=>k (b,(b,mk)::aC) ⟨h,rfl⟩
def b0.Hj{a:cg}{d:bj}(j:b0 c E L a d){f:Nat}{g h:aB}[ah g][ah h]{i:R (g×h)}(k:(⟨S f,.map i⟩:aK)∈L):
 ∃b e,d.heap[f]? =S (.map b e)∧lC (aP L++c.cv) d b.toList i∧(∀x∈b.toList,x.born<e)∧(b.toList.map MapEntry.born).Nodup:=by
 obtain⟨ak,l,b,e,rfl,m,n,o⟩:=j.own _ k
 grind
def Vq{a:cg}{d:bj}(l:b0 c E L a d){m o p:Nat}{e j:aB}[ah e][ah j][DecidableEq e][Inhabited j]{f:R (e×j)}{i:e}(q:c.P.underlying t=S (.map o p))(r:pj c.P o e)(H:dn c.P p (c0:j))
 (I:aN c E L x (.of (⟨S m⟩:gb))) (K:aN c E L y (.of i)) (M:(⟨S m,.map f⟩:aK)∈L):
 ∃n,(ci ((dU f i).getD c0)).holds (aP L++c.cv) d n∧∀k,(dQ t (a.eval x) (a.eval y) k).run c.P d=.ok (if k then .tuple #[n,.bool (dU f i).isSome]else n) d:=by
 obtain⟨N,O,ae,P,af,ag⟩:=l.Hj M
 have A:=xU.1 (I a d l)
 have B:=K a d l
 obtain⟨C,aF,g⟩:=OL r B P
 obtain⟨ai,Q,aa,ab,aj⟩:=H.zero
 have D:(getObj m).run c.P d=.ok (.map N O) d:=by grind[getObj,c2]
 have F:=λb=>r.check b _ d _ i B
 have h:=Vp f i 0
 cases G:mV f i 0 with
 | none=>
   rw[G]at g h
   cases C with
   |some ac=>exact g.elim
   | none=>
     refine⟨Q,by grind,λk=>?_⟩
     rw[<-h]
     simp[dQ,eH,dZ q,A,D,F,aF,zeroValue,typeInfo,aa,ab]
 | some ac=>
   rw[G]at g h
   cases C with
   |none=>exact g.elim
   | some ad=>
     refine⟨ad.2,by rw[<-h];exact g.2,λk=>?_⟩
     rw[<-h]
     simp[dQ,eH,dZ q,A,D,F,aF]
def uI{f h j:Nat}{b e:aB}[ah b][ah e][DecidableEq b][Inhabited e]{k:R (b×e)}{i:b}{r:e}(l:c.P.underlying t=S (.map h j))(m:pj c.P h b)(n:dn c.P j (c0:e))
 (o:aN c E L x (.of (⟨S f⟩:gb))) (p:aN c E L y (.of i)) (q:(⟨S f,.map k⟩:aK)∈L) (aF:(dU k i).getD c0=r):
 aZ c E L ⟨d,.lookup t x y V,ty,pos,a1,g⟩ (.of r):=.pure λa B A=>by
 subst aF
 obtain⟨C,D,F⟩:=Vq A l m n o p q
 simp_all[execOp,eH,a']
def Pv{f h j:Nat}{b e:aB}[ah b][ah e][DecidableEq b][Inhabited e]{k:R (b×e)}{i:b}{r:aw e}(l:c.P.underlying t=S (.map h j))(m:pj c.P h b)(n:dn c.P j (c0:e))
 (p:aN c E L x (.of (⟨S f⟩:gb))) (q:aN c E L y (.of i)) (A:(⟨S f,.map k⟩:aK)∈L) (aF:dU k i=r):
 aZ c E L ⟨d,.lookup t x y U,ty,pos,a1,g⟩ (.bO [.of (r.getD c0),.of r.isSome]):=.pure λa F B=>by
 subst aF
 obtain⟨G,C,D⟩:=Vq B l m n p q A
 have H:=D U
 exact⟨_,by simp_all[execOp,eH,a'],_,rfl,.cons C (.cons (of_bool.2 o) .nil)⟩
theorem aiX{a:R MapEntry}{b:Nat}{c d:MapEntry}(e:a[b]? =S c)(f:d.born=c.born):(a.set b d).map MapEntry.born=a.map MapEntry.born:=by
 apply ni;grind
def aa.alO{L:R bA}{F:Op}(ai:F=.mapUpdate t x y z∨F=.insert t x y z){b key aj:Nat}{k G:b1}{f A:aB}[ah f][ah A][iY f][DecidableEq f]{m M:R (f×A)}{i:f}{g:A}(aI:c.P.underlying t=S (.map key aj))(N:pj c.P key f)
 (al:aN c E (loc++bc aC) x (.of (⟨S b⟩:gb))) (am:aN c E (loc++bc aC) y (.of i)) (an:aN c E (loc++bc aC) z (.of g)) (O:pat aC b=S k) (ab:eA.gD b k=[⟨S b,.map m⟩]) (ao:fB m i g=M) (ap:eA.gD b G=[⟨S b,.map M⟩])
 (aq:aa c ops Q L E (loc++bc (cS aC b G))):aa c ops Q (⟨Y,F,ty,pos,a1,Y⟩::L) E (loc++bc aC):=λa d p=>by
 subst ao
 obtain⟨h,B,ac,H,aJ,aL⟩:=p.Hj (je (n:=T loc) (by simp) O ab)
 have aM:=xU.1 (al a d p)
 have I:=am a d p
 have aO:=an a d p
 obtain⟨ad,aF,q⟩:=OL N I H
 have aQ:(getObj b).run c.P d=.ok (.map h B) d:=by grind[getObj,c2]
 have aR:=N.check V _ d _ i I
 have aS:b<d.heap.size:=(Bc.1 ac).1
 have aT:∀ak,(setObj b ak).run c.P d=.ok () (d.putObj b ak):=λak=>by simp only[setObj,c2,ac];rfl
 have key:∃e j,(c8 t (a.eval x) (a.eval y) (a.eval z)).run c.P d=.ok () (d.putObj b (.map e j))∧lC (aP (loc++bc aC)++c.cv) d e.toList (fB m i g)∧(∀x∈e.toList,x.born<j)∧(e.toList.map MapEntry.born).Nodup:=by
  cases C:mV m i 0 with
  | none=>
    rw[C]at q
    cases ad with
    |some ar=>exact q.elim
    | none=>
      obtain⟨au,_⟩:=O5 H C
      refine⟨h.push {key:=a.eval y,val:=a.eval z,born:=B},B+1,by simp_all[c8,eH,dZ],by simp_all,?_,?_⟩
      ·grind
      grind
  | some ar=>
    rw[C]at q
    cases ad with
    |none=>exact q.elim
    | some av=>
      obtain⟨r,l,au,aU,aw,aV,_⟩:=PC H C
      have aW:av.1=r:=by have:=q.1;omega
      have aX:h[r]? =S l:=by simp_all
      have aY:=ahU (P:=c.P) aw I d
      let ax:MapEntry:= {l with key:=a.eval y,val:=a.eval z}
      have aZ:(h.modify r λl=>{l with key:=a.eval y,val:=a.eval z}).toList=h.toList.set r ax:=by
       apply ni;grind
      refine⟨h.modify r λl=>{l with key:=a.eval y,val:=a.eval z},B,by simp_all[c8,eH,dZ],by grind,?_,?_⟩
      ·grind
      grind[aiX]
 obtain⟨e,j,ay,az,aA,aD⟩:=key
 obtain⟨ae,J,D⟩:=vP O
 have D:=D G
 rw[ab]at J
 rw[ap]at D
 have K:∀{z:R (f×A)} {af:R aK},af.Perm ([⟨S b,.map z⟩]++ae)->(loc++af).Perm (⟨S b,.map z⟩::(loc++ae)):=λaE=>(aE.append_left loc).trans (by simp_all)
 have aG:=(p.perm (K J)).tH (i:=0) (iv:=.map (fB m i g)) o (rN:=.map e j) ⟨e,j,rfl,az.mono (oL (K J)),aA,aD⟩
 refine jb o (hh:=λg ag=>ag=d.putObj b (.map e j)) (.CP ?_ o) λg ag aH=>?_
 ·rcases ai with rfl|rfl <;> simp[execOp,ay]
 subst aH
 exact aq _ _ (aG.perm (K D).symm)
def aa.Dd{g:R bA}{d:Op}(n:Nat)(p:L.drop n=bc aC)(q:d=.mapUpdate t x y z∨d=.insert t x y z){a h r:Nat}{k ng:b1}{j:aL b1}{b e:aB}[ah b][ah e][iY b][DecidableEq b]{l m:R (b×e)}{i:b}{o:e}(A:c.P.underlying t=S (.map h r))(B:pj c.P h b)(C:aN c E L x (.of (⟨S a⟩:gb)))(D:aN c E L y (.of i))(f:aN c E L z (.of o))(F:pat aC a=S k)(G:eA.gD a k=[⟨S a,.map l⟩])(H:fB l i o=m)(I:eA.gD a ng=[⟨S a,.map m⟩])(f:cS aC a ng=j)(J:aa c ops Q g E (L.take n++bc j)):aa c ops Q (⟨Y,d,ty,pos,a1,Y⟩::g) E L:=by
 subst f;have K:L=L.take n++bc aC:=by grind[Z]
 clear p;generalize L.take n=loc at *;subst K;exact aa.alO q A B C D f F G H I J
def aa.alP{I:R bA}{d q aj:Nat}{k C:b1}{h D:aB}[ah h][ah D][DecidableEq h]{m J:R (h×D)}{i:h}(K:c.P.underlying t=S (.map q aj))(L:pj c.P q h)
 (al:aN c E (loc++bc aC) x (.of (⟨S d⟩:gb))) (am:aN c E (loc++bc aC) y (.of i)) (M:pat aC d=S k) (N:eA.gD d k=[⟨S d,.map m⟩]) (an:iT m i=J) (ao:eA.gD d C=[⟨S d,.map J⟩])
 (ap:aa c ops Q I E (loc++bc (cS aC d C))):aa c ops Q (⟨Y,.call ⟨.builtin .delete,#[x,y],#[t,t2]⟩,ty,pos,a1,Y⟩::I) E (loc++bc aC):=λa e r=>by
 subst an
 obtain⟨f,j,aq,F,ar,au⟩:=r.Hj (je (n:=T loc) (by simp) M N)
 have O:=xU.1 (al a e r)
 have P:=am a e r
 obtain⟨ab,aF,p⟩:=OL L P F
 have ac:(getObj d).run c.P e=.ok (.map f j) e:=by grind[getObj,c2]
 have ad:=λb=>L.check b _ e _ i P
 have ae:∀ak,(setObj d ak).run c.P e=.ok () (e.putObj d ak):=λak=>by simp only[setObj,c2,aq];rfl
 have q:∃g,(c9 #[t,t2] ty #[a.eval x,a.eval y]).run c.P e=.ok (.tuple #[]) (e.putObj d (.map g j))∧lC (aP (loc++bc aC)++c.cv) e g.toList (iT m i)∧(∀x∈g.toList,x.born<j)∧(g.toList.map MapEntry.born).Nodup:=by
  cases A:mV m i 0 with
  | none=>
    rw[A]at p
    cases ab with
    |some av=>exact p.elim
    | none=>
      obtain⟨_,aw⟩:=O5 F A
      exact⟨f,by simp[c9,eH,dZ K,O,ac,ad,aF,ae],by simp_all,ar,au⟩
  | some av=>
    rw[A]at p
    cases ab with
    |none=>exact p.elim
    | some ax=>
      obtain⟨l,aJ,aw,aL,_,_,aM⟩:=PC F A
      have ay:ax.1=l:=by have:=p.1;omega
      have aO:l<f.size:=by grind
      have aQ:(f.eraseIdxIfInBounds l).toList=f.toList.eraseIdx l:=by simp_all
      have aR:(f.toList.eraseIdx l).Sublist f.toList:=List.eraseIdx_sublist _ _
      exact⟨f.eraseIdxIfInBounds l,by simp[c9,eH,dZ K,O,ac,ad,aF,ae,ay],by simp_all,by grind,by grind⟩
 obtain⟨g,aS,az,aA,aD⟩:=q
 obtain⟨af,G,B⟩:=vP M
 have B:=B C
 rw[N]at G
 rw[ao]at B
 have H:∀{z:R (h×D)} {ag:R aK},ag.Perm ([⟨S d,.map z⟩]++af)->(loc++ag).Perm (⟨S d,.map z⟩::(loc++af)):=λaE=>(aE.append_left loc).trans (by simp_all)
 have aG:=(r.perm (H G)).tH (i:=0) (iv:=.map (iT m i)) o (rN:=.map g j) ⟨g,j,rfl,az.mono (oL (H G)),aA,aD⟩
 refine jb o (hh:=λaH ai=>ai=e.putObj d (.map g j)) (.lK (v:=.tuple #[]) ?_ o) λaH ai aI=>?_
 ·simp_all[execOp,resolve,invoke,builtin]
 subst aI
 exact ap _ _ (aG.perm (H B).symm)
def aa.LR{d:R bA}{a e l:Nat}{k ng:b1}{f:aL b1}{b g:aB}[ah b][ah g][DecidableEq b]{h j:R (b×g)}{i:b}(n:Nat)(m:L.drop n=bc aC)(o:c.P.underlying t=S (.map e l))(p:pj c.P e b)(q:aN c E L x (.of (⟨S a⟩:gb)))(r:aN c E L y (.of i))(A:pat aC a=S k)(B:eA.gD a k=[⟨S a,.map h⟩])(C:iT h i=j)(D:eA.gD a ng=[⟨S a,.map j⟩])(F:cS aC a ng=f)(G:aa c ops Q d E (L.take n++bc f)):aa c ops Q (⟨Y,.call ⟨.builtin .delete,#[x,y],#[t,t2]⟩,ty,pos,a1,Y⟩::d) E L:=by
 subst F;have H:L=L.take n++bc aC:=by grind[Z]
 clear m;generalize L.take n=loc at *;subst H;exact aa.alP o p q r A B C D G
def aj2{e l m:Nat}{h i:aB}[ah h][ah i]{b:R (h×i)}(n:c.P.underlying t=S (.map l m))(p:aN c E L x (.of (⟨S e⟩:gb)))(q:(⟨S e,.map b⟩:aK)∈L):
 aZ c E L ⟨d,.call ⟨.builtin .len,#[x],#[t]⟩,ty,pos,a1,g⟩ (.of (b.length:Int)):=.pure λa f j=>by
 obtain⟨k,r,F,A,G,H⟩:=j.Hj q
 have B:=xU.1 (p a f j)
 have C:(getObj e).run c.P f=.ok (.map k r) f:=by grind[getObj,c2]
 have D:k.size=b.length:=by simpa using A.length
 refine⟨.int .i64 b.length,?_,of_int.2 o⟩
 simp[execOp,resolve,invoke,builtin,ea,B,C,D,dZ n,goInt]
end
def alQ{P:cV}{t:bH}(h:P.underlying t=S (.int .i64)):pj P t Int where
 check b A W u x k5:=Ky (au:=Int) h o b 10000 A W u x (by decide) k5
 same A W u v x y k5 la:=by
  have:=(XK h).run 10000 (by decide) A W u v x y k5 la;simp_all[Op.equal,Op.maxDepth]
 now:=⟨_,h,λA W u v x y k5 la=>.inr (by
  rw[of_int.1 k5,of_int.1 la];rfl)⟩
def Lq{P:cV}{t:bH}{au:aB}[ah au][DecidableEq au]{D:TypeDesc}{n m:Nat}(h:P.underlying t=S D)(w6:(match (motive:=TypeDesc->aI) D with | .array _ _| .struct _=>U|_=>V)=U)(asB:qK P t au n)(MJ:j8 P t au m)(aQ:c7 n 10000=U)(hm:c7 m 10000=U):pj P t au where
 check b A W u x k5:=asB b 10000 A W u x (pq aQ) k5
 same A W u v x y k5 la:=by
  have:=MJ.run 10000 (pq hm) A W u v x y k5 la;simp_all[Op.equal,Op.maxDepth]
 now:=⟨_,h,λA W u v x y k5 la=>.inl (by cases D <;> simp at w6 <;> rfl)⟩
structure jP(P:Program)(t:TypeId)(name:String)(f:FuncId):Prop where
 run:∀v W args,(callMethod (.iface t v) name args).run P W=.ok (.enter f (#[v]++args)) W
def jP.of{P:cV}{t:bH}{name:String}{f:FuncId}{i:TypeInfo}{D:TypeDesc}{m:Method}(pg:P.info? t=S i)(hm:i.methods.find? (λx=>x.name==name)=S m)(aC:m.path= #[])(pW:m.func=S (f,V))(w6:P.underlying t=S D)
 (aQ:(match (motive:=TypeDesc->aI) D with | .pointer _=>V|_=>U)=U) (dj:bk P f):jP P t name f where
 run v W args:=by
  have asZ:∀args,(callFunc f args).run P W=.ok (.enter f args) W:=λargs=>dj.run ..;have asV:∀n,(method (n+1) t v name).run P W=.ok (f,v) W:=λn=>by
   simp only[method,eH,typeInfo,run_program,a',pg,c5,hm,aC,pW,follow,receiverAt,dZ w6];cases D <;> simp at aQ <;> simp[Place.get]
  simp_all[Made.depth,callMethod,eH,run_program,a']
def jP.rI{P:cV}{t:bH}{b:String}{c:FuncId}{e:TypeDesc}(a:((P.info? t).bind λi=>(i.methods.find? (λx=>x.name==b)).map λd=>(d.path.size,d.func))=S (0,S (c,V)))(h:P.underlying t=S e)
 (aQ:(match (motive:=TypeDesc->aI) e with | .pointer _=>V|_=>U)=U) (j:bk P c):jP P t b c:=by
 cases f:P.info? t with
 |none=>simp_all
 | some i=>
   rw[f]at a
   simp only[d3]at a
   cases g:i.methods.find? (λx=>x.name==b)with
   |none=>simp_all
   | some d=>
     rw[g]at a
     simp only[cA,iG,zp]at a
     exact jP.of f g (Array.eq_empty_of_size_eq_zero a.1) a.2 h aQ j
def bn.map{P:cV}{b:FuncId}{c:R J}{e:R aK}{aX a:aB}{f:aX->J}{g:aX->R aK}{h:a->J}{i:a->R aK}(F:aX->a)(aF:∀d,h (F d)=f d)(D:∀d,i (F d)=g d)(j:bn P b c e f g):bn P b c e h i:=
 λk l m n o p q r=>(j k l m n o p q r).mono λE G ⟨A,d,B,C,H,I,K,L⟩=>⟨A,F d,B,C,by simp_all,by simp_all,by simp_all,by simp_all⟩
structure nZ(P:Program)(name:String)(dm:J)(dF:List J)(dJ:List aK){aX:Type}(gS:aX->J)(nP:aX->List aK):Prop where
 go:∀(A:List Nat) (W:World) (u:Value) (gY:List Value),(∀k∈A,k<W.heap.size∧k∉aP dJ)->(aP dJ).Nodup->(∀k∈aP dJ,k<W.heap.size)->(∀e∈dJ,e.ok (aP dJ++A) W)->ha (aP dJ++A) W (dm::dF) (u::gY)->
  ∃f v,(∀args,(callMethod u name args).run P W=.ok (.enter f (#[v]++args)) W)∧Calls P f (v::gY).toArray W (j4 (aP dJ) A W gS nP)
def nZ.of{P:cV}{name:String}{t:bH}{f:FuncId}{dm bb:J}{dF:R J}{dJ:R aK}{aX:aB}{gS:aX->J}{nP:aX->R aK}(mt:jP P t name f)(HR:∀A W u,dm.holds A W u->∃v,u=.iface t v∧bb.holds A W v)
 (h:bn P f (bb::dF) dJ gS nP):nZ P name dm dF dJ gS nP where
 go A W u gY h1 fx iX nJ nM:=by
  cases nM with
  | cons lU H5=>
    obtain⟨v,rfl,H6⟩:=HR _ _ _ lU
    exact⟨f,v,λargs=>mt.run v W args,h A W (v::gY) h1 fx iX nJ (.cons H6 H5)⟩
section
variable{c:cX}{E:R (Nat×J)}{L:R aK}{ops:bE bA}{Q:cK->cg->bj->Prop}
variable{d:aw Tmp}{ty:bH}{pos:String}{a1:bE Edge}{g:aw (Nat×aI)}{x y z:cx}{t t2:bH}
def WI{a:cg}{b:bj}{A:String}{l:R cx}{j7:bE bH}{B:J}{C:R J}{e b9:R aK}{aX:aB}{m:aX->J}{n:aX->R aK}(p:nZ c.P A B C e m n)
 (h:b0 c E (e++b9) a b) (K:ha (aP (e++b9)++c.cv) b (B::C) ((x::l).map a.eval)):
 hr c.P ⟨d,.call ⟨.invoke x A,l.toArray,j7⟩,ty,pos,a1,g⟩ a b λj q=> ∃a8,b0 c E (n a8++b9) a q∧(m a8).holds (aP (n a8++b9)++c.cv) q j:=by
 have D:=h.nodup
 rw[fF]at D
 obtain⟨L,ad,M⟩:=rZ.1 D
 have F:Ext (aP (e++b9)++c.cv) b (aP e++(aP b9++c.cv)) b:=CQ
 have N:∀k∈aP b9++c.cv,k<b.heap.size∧k∉aP e:=λk i=>by
  rcases eN.1 i with i|i
  ·exact⟨h.lt k (by simp_all[fF]),λp=>M k p k i o⟩
  obtain⟨G,H⟩:=h.eW k i;simp_all[fF]
 have O:∀k∈aP e,k<b.heap.size:=λk i=>h.lt k (by simp_all[fF])
 obtain⟨P,j,ae,Q⟩:=p.go (aP b9++c.cv) b (a.eval x) (l.map a.eval) N L O (λI r=>eb (h.own I (eN.2 (.inl r))) F λ_ _=>rfl) (by simpa using K.mono F)
 refine .uD (f:=P) (args:=(j::l.map a.eval).toArray) (dE:=b) ?_ (Q.mono λI q ⟨j,a8,r,aa,G,H,ab,ac⟩=>?_)
 ·grind[execOp,resolve,invoke]
 refine⟨j,r,a8,h.after aa G H ab,(m a8).mono KF ac⟩
variable{b1:aB}[eA b1]{aC:aL b1}
def aa.Hp{g:R bA}{a8:Nat}{h:String}{i:R cx}{A:bE bH}{j:J}{l:R J}{e b9:R aK}{aX:aB}{f:aX->J}{m:aX->R aK}{p:aX->aL b1}(n q:Nat)(B:L.drop n=bc aC)(C:nZ c.P h j l (e++bc aC) f (λd=>m d++bc (p d)))
 (D:(L.take n).take q=e) (F:(L.take n).drop q=b9) (G:iu c E L (x::i) (j::l)) (aQ:cd a8 c.n=U) (k:∀b,aa c ops Q g ((a8,f b)::E) ((m b++b9)++bc (p b))):
 aa c ops Q (⟨S a8,.call ⟨.invoke x h,i.toArray,A⟩,ty,pos,a1,Y⟩::g) E L:=by
 have H:L=(e++b9)++bc aC:=by grind[Z]
 clear B D F
 subst H
 exact λa I r=>jb o (WI (b9:=b9) C (r.perm me) ((G.holds a I r).mono (oL me))) λN O ⟨b,K,M⟩=>
  k b _ _ ((K.perm me).put (by simp_all) ((f b).mono (oL me) M))
def eg.Hp{f:String}{h:R cx}{i:bE bH}{j:J}{k:R J}{e:J}(n:Nat)(F:L.drop n=bc aC)(o:nZ c.P f j k (bc aC) (λ_:bG=>e) (λ_=>bc aC))
 (p:iu c E L (x::h) (j::k)):eg c E L ⟨d,.call ⟨.invoke x f,h.toArray,i⟩,ty,pos,a1,g⟩ e:=λa q l=>by
 have r:L=L.take n++bc aC:=by grind[Z]
 have b:L.Perm (bc aC++L.take n):=by
  conv=>lhs;rw[r]
  exact ox
 have m:=WI (d:=d) (ty:=ty) (pos:=pos) (a1:=a1) (g:=g) (j7:=i) (b9:=L.take n) o (l.perm b) ((p.holds a q l).mono (oL b))
 unfold hr at m⊢
 exact sd (λG H ⟨A,B,_,C,D⟩=>⟨A,B,C.perm b.symm,e.mono (oL b.symm) D⟩) m
def mn{e:TypeDesc}{f h:J}(k:c.P.underlying t=S e)(l:(match (motive:=TypeDesc->aI) e with | .interface _=>V|_=>U)=U)(m:aN c E L x f)(n:∀i b j,f.holds i b j->h.holds i b (.iface t j)):
 aZ c E L ⟨d,.makeInterface t x,ty,pos,a1,g⟩ h:=.pure λa b o=>
 ⟨.iface t (a.eval x),by
   simp only[execOp,Instr.makeInterface,eH,dZ k,a'];cases e <;> simp at l <;> rfl,n _ _ _ (m a b o)⟩
end
def Mq(P:cV)(q:bt){i f j e:aB}(r:i->J)(a:f->e->R aK)(A:j->e->R aK)(B:i->f->ag (f⊕j))(C:R Nat->bj->Prop):Prop:=
 ∃ l,q=.func (.yield l) #[] #[]∧∀x b h,B x b h->∀g d c k,C (aP (a b g)++d) c->Hu d c (a b g)->(r x).holds (aP (a b g)++d) c k->
   YieldAt Fence.wide 8 P l #[k] c (λm n=>(∃o,h (.inl o)∧j4 (aP (a b g)) d c (λ_:e=>ci U) (λg=>a o g) m n)∨∃p,h (.inr p)∧j4 (aP (a b g)) d c (λ_:e=>ci V) (λg=>A p g) m n)
structure GW(P:Program)(f:FuncId)(dF:List J){b1:Type}[eA b1]{au:Type}(dm:au->J)(run:∀{bb bp:Type},(bb->aL b1)->(au->bb->ag (bb⊕bp))->bb->ag (bb⊕bp)):Prop where
 go:∀{bb bp aY:Type} (eJ:bb->aY->List aK) (js:bp->aY->List aK) (iD:bb->aL b1) (w5:bb->aY->List aK),(∀s g,eJ s g=w5 s g++bc (iD s))->∀(step:au->bb->ag (bb⊕bp)) (ks:bb) (g0:aY) (hh:bb⊕bp->Prop),run iD step ks hh->
  ∀ (A:List Nat) (W:World) (u:Value) (gY:List Value),Hu A W (eJ ks g0)->ha (aP (eJ ks g0)++A) W dF gY->
    Mq P u dm eJ js step (λfh dE=>Ext (aP (eJ ks g0)++A) W fh dE)->
    Calls P f (u::gY).toArray W (j4 (aP (eJ ks g0)) A W (aX:= {r // hh r}×aY) (λ_=>.bO []) (λd=>b9 eJ js d.1.1 d.2))
def GW.of{P:cV}{I:FuncId}{p:Func}{K:ec}{n:Nat}{m:R J}{b1:aB}[eA b1]{F:aB}{q:F->J}{L:∀{a e:aB},(a->aL b1)->(F->a->ag (a⊕e))->a->ag (a⊕e)}
 (N:P.funcs[I]? =S p) (O:p.body=S K) (aQ:p.ntmps=n) (Q:c7 (m.length+1) n=U)
 (aa:∀{a e h:aB} (b:a->h->R aK) (A:e->h->R aK) (B:a->aL b1) (G:a->h->R aK),(∀H g,b H g=G H g++bc (B H))->∀(C:F->a->ag (a⊕e)) (c:a) (f:h) (D:a⊕e->Prop),L B C c D->
  ∀ i j l,Mq P l q b A C (λab ac=>Ext (aP (b c f)++j) i ab ac)->
    ar ⟨P,n,i,aP (b c f),j,Y,[]⟩ (bodyPost P p (j4 (aP (b c f)) j i (aX:= {r // D r}×h) (λ_=>.bO []) (λd=>b9 b A d.1.1 d.2))) K (params 0 (.eq l::m)) (b c f)):GW P I m q L:=by
 refine⟨?_⟩
 intro a e h b A B G ad C c f D aF j i l ae E af ah
 refine Jr N O (wpIn_wide.1 (aa b A B G ad C c f D aF i j l ah _ _ ?_))
 have M:ha (aP (b c f)++j) i (.eq l::m) (l::ae):=.cons o af
 have ak:=M.length
 have al:m.length+1<=n:=pq Q
 exact
 {defers:=rfl
  size:=by simp_all
  env:=λt q ai=>by
   obtain⟨_,am,an,ao⟩:=zR M 0 t q ai;grind
  ey:=.refl _ _
  own:=E.ok
  nodup:=E.nodup
  lt:=E.lt
  gl:=λk aj _=>aj
  eW:=E.eW}
section
variable{c:cX}{E:R (Nat×J)}{L:R aK}{ops:bE bA}{Q:cK->cg->bj->Prop}
variable{d:aw Tmp}{ty:bH}{pos:String}{a1:bE Edge}{g:aw (Nat×aI)}{x y:cx}{t t2:bH}
def Zo{b1:aB}[eA b1]{a c:aB}{eJ e:a->c->R aK}{iD:a->aL b1}{s:a}{g:c}{d:Nat}{k:b1}{b:aK}(n:Nat)(j:L.drop n=eJ s g)(l:∀s g,eJ s g=e s g++bc (iD s))(f:pat (iD s) d=S k)(h:eA.gD d k=[b]):b∈L:=by
 obtain⟨m,i,_⟩:=vP f;rw[h]at i;have:b∈L.drop n:=by grind
 grind
def aa.alp{q:R bA}{a8 h:Nat}{M:bE bH}{N:bt}{r f A B:aB}{i:r->J}{eJ:f->B->R aK}{js:A->B->R aK}{step:r->f->ag (f⊕A)}{dJ:R aK}{x:cx}{g:r}{s:f}{jr:B}{j:f⊕A->Prop}
 (ay:c.rd=Y) (C:Mq c.P N i eJ js step (λaf O=>Ext (c.X++c.cv) c.pV af O)) (ah:look E h=S (.eq N)) (ai:aN c E (dJ++eJ s jr) x (i g)) (aF:step g s j) (aQ:cd a8 c.n=U)
 (aj:∀m,j (.inl m)->∀d,aa c ops Q q ((a8,.of U)::E) (dJ++eJ m d)) (ak:∀n,j (.inr n)->∀d,aa c ops Q q ((a8,.of V)::E) (dJ++js n d)):
 aa c ops Q (⟨S a8,.call ⟨.value (.tmp h),#[x],M⟩,ty,pos,a1,Y⟩::q) E (dJ++eJ s jr):=λa e D=>by
 obtain⟨l,rfl,C⟩:=C
 obtain⟨al,am,an⟩:=D.env h _ ah
 have ao:al=.func (.yield l) #[] #[]:=an
 subst ao
 have p:b0 c E (eJ s jr++dJ) a e:=D.perm ox
 have ap:=ai a e D
 have aq:(i g).holds (aP (eJ s jr)++(aP dJ++c.cv)) e (a.eval x):=(i g).mono (.drop λk b=>by
  rw[fF];simp only[eN]at b⊢;rcases b with b|b|b
  ·exact .inl (.inr b)
  ·exact .inl (.inl b)
  exact .inr b) ap
 obtain⟨P,ab,ac,ad,ar,au⟩:=C g s j aF jr (aP dJ++c.cv) e (a.eval x) (p.Z0.trans CQ) p.Mp aq
 have av:(execOp a.eval ⟨S a8,.call ⟨.value (.tmp h),#[x],M⟩,ty,pos,a1,Y⟩).run c.P e=.ok (.round l P ab ac ad) e:=by
  rw[<-ar];simp[execOp,resolve,cl,Act.eval,am,invoke,eH,c5,dh]
 refine wpListIn_plain o λaz ae=>?_
 refine⟨λ_ _=>trivial,?_⟩
 rw[N4 _ _ _ (λ_ F=>by cases F),av,Oper.uponIn_round]
 refine⟨λF=>by simp at F,?_⟩
 have aw:RoundIn c.F (9-1) c.P l P ab ac ad e _:=au
 refine aw.mono λaA O ax=>?_
 rcases ax with⟨m,aR,w,d,rfl,G,H,I,K,L⟩|⟨n,aR,w,d,rfl,G,H,I,K,L⟩
 ·obtain rfl:=of_bool.1 L
  refine ae _ _ (aj m aR d _ _ ?_)
  exact(((p.after G H I K).perm ox).put (by simp_all) (of_bool.2 o))
 obtain rfl:=of_bool.1 L
 refine ae _ _ (ak n aR d _ _ ?_)
 exact(((p.after G H I K).perm ox).put (by simp_all) (of_bool.2 o))
def abA{e d f:aB}(c:cX)(h:d->ec)(l i:Nat)(j:Loop)(o:e->f->R aK)(p:d->f->R aK)(k:e⊕d->Prop):cK->cg->bj->Prop:=λx a m=>
 (∃n,k (.inl n)∧x=.normal∧∃g,b0 c [] (⟨S l,.is (.loop j)⟩::⟨S i,.gL⟩::o n g) a m)∨
 ∃b,k (.inr b)∧G1 (h b)=U∧x=Lp (h b)∧∃g,b0 c [] (⟨S l,.is (.loop j)⟩::⟨S i,.gL⟩::p b g) a m
def af.aqp{b d e:aB}{m:d->ec}{l h:Nat}{i:Loop}{j:b->e->R aK}{o:d->e->R aK}{k:b⊕d->Prop}{f:b}(p:k (.inl f))(g:e)(n:Nat)(q:L.drop n=⟨S l,.is (.loop i)⟩::⟨S h,.gL⟩::j f g):
 af c (abA c m l h i j o k) .normal E L:=λa A r=>.inl ⟨f,p,rfl,g,by rw[<-q];exact(r.sA n).less (λt B C=>by grind[look])⟩
def ahC{gt p:Nat}{assign body:ec}{f:FuncId}{rD:R J}{b1:aB}[eA b1]{au bb bp aY gS:aB}{dm:au->J}{run:∀{bb bp:aB},(bb->aL b1)->(au->bb->ag (bb⊕bp))->bb->ag (bb⊕bp)}
 {eJ:bb->aY->R aK} {js:bp->aY->R aK} {iD:bb->aL b1} {step:au->bb->ag (bb⊕bp)} {ks:bb} {g0:aY} {k:bb⊕bp->ag gS} {MM:gS->Prop} (w5:bb->aY->R aK) (bQ:bp->ec)
 (nH:c.rd=Y) (dj:bk c.P f) (nL:look E gt=S (.jn f rD)) (MI:GW c.P f rD dm run) (aF:ag.bind (run iD step ks) k MM) (arW:∀s g,eJ s g=w5 s g++bc (iD s)) (av:L=eJ ks g0) (aC:cd p c.n=U)
 (GZ:∀x s hh,step x s hh->∀g (tO:bj) (tX tP:R Nat) (l D:Nat) (rec:Loop),rec.state=.ready->
  ar ⟨c.P,c.n,tO,tX,tP,S l,[]⟩ (Exit.then (ML ⟨c.P,c.n,tO,tX,tP,S l,[]⟩ l body (abA ⟨c.P,c.n,tO,tX,tP,S l,[]⟩ bQ l D {rec with state:=.busy} eJ js hh)) (λ_ _ _=>False)) assign ((p,dm x)::E) (⟨S l,.is (.loop rec)⟩::⟨S D,.gL⟩::eJ s g))
 (Hg:∀nK,k (.inl nK) MM->∀g D,af {c with ds:=tG D::c.ds} Q .normal E (⟨S D,.gL⟩::eJ nK g))
 (Hh:∀q,k (.inr q) MM->∀g D,ar {c with ds:=tG D::c.ds} Q (bQ q) E (⟨S D,.gL⟩::js q g)):
 ar c Q (.rangeFunc (.tmp gt) #[p] assign body) E L:=λa W st=>by
 subst av
 refine wpIn_rangeFunc λfn ar3=>?_
 show ∃l mark aqQ d aoX asx args aqR,(d5 fn a.tmps #[p] assign body c.rd).run c.P W=_∧_
 rw[nH]
 obtain⟨rec,pP⟩:∃rec:Loop,rec= {state:=.ready,pending:=Y,fn,tmps:=a.tmps,params:= #[p],assign,body,defers:=W.heap.size}:=⟨_,rfl⟩
 obtain⟨v,ar4,h2,ar5,ar6⟩:=st.env gt _ nL
 obtain⟨lb,HL⟩:∃lb,(W.alloc (.deferred (S []))).alloc (.loop rec)=lb:=⟨_,rfl⟩
 have s1:=(st.alloc (ak:=.deferred (S [])) (gg:=.gL) o).alloc (ak:=.loop rec) (gg:=.is (.loop rec)) o
 rw[HL,IS]at s1
 obtain⟨D,w6⟩:∃D,D=W.heap.size:=⟨_,rfl⟩
 obtain⟨l,jq⟩:∃l,l=W.heap.size+1:=⟨_,rfl⟩
 have HM:=run_enterLoop_outer (P:=c.P) (w:=W) fn a.tmps #[p] assign body
 rw[<-pP,HL,<-jq,<-w6]at HM
 rw[<-jq,<-w6]at s1
 obtain⟨na,yD⟩:∃na:bb->aY->R aK,na=λs g=>⟨S l,.is (.loop rec)⟩::⟨S D,.gL⟩::eJ s g:=⟨_,rfl⟩
 obtain⟨rH,HN⟩:∃rH:bp->aY->R aK,rH=λq g=>⟨S l,.is (.loop {rec with state:=.done,pending:=S (bQ q)})⟩::⟨S D,.gL⟩::js q g:=⟨_,rfl⟩
 have s2:b0 c E (na ks g0) a lb:=by simp_all
 have Se:ha (aP (na ks g0)++c.cv) lb rD h2:=by
  have h1:(J.jn f rD).holds (aP (na ks g0)++c.cv) lb v:=by
   obtain⟨asw,h1,fx⟩:=s2.env gt _ nL;simp_all
  obtain⟨ar7,vj,vl⟩:=h1;simp_all
 have HO:b0 c E ((na ks g0)++[]) a lb:=by simp_all
 have Hi:=HO.Mp
 simp only[aP,d6]at Hi
 have RT:Mq c.P (.func (.yield l) #[] #[]) dm na rH step (λfh dE=>Ext (aP (na ks g0)++c.cv) lb fh dE):=by
  refine⟨l,rfl,λx s asA aR g A tY v2 RS hle sV=>?_⟩;have Hv:=hle;rw[yD]at Hv;obtain⟨ak,tM,tN⟩:=Hv.ok ⟨S l,.is (.loop rec)⟩ (by simp);have tI:ak=.loop rec:=tN;subst tI;have la:=run_yield (P:=c.P) (args:= #[v2]) tM (by simp_all);refine⟨_,_,_,_,la,roundIn_of_wpIn bo ?_⟩;have vj:rec.assign=assign:=by rw[pP]
  have vl:rec.body=body:=by rw[pP]
  have St:rec.params= #[p]:=by rw[pP]
  have Su:rec.tmps=a.tmps:=by rw[pP]
  rw[vj,vl,St,Su];refine Kx (n:=9) o ?_;have Rs:((#[p]:bE Tmp).zip #[v2]).foldl (λtmps (t,a)=>tmps.setIfInBounds t a) a.tmps=a.tmps.setIfInBounds p v2:=by simp
  rw[Rs];subst yD HN;refine wpIn_mono ((GZ x s asA aR g tY (aP (⟨S l,.is (.loop rec)⟩::⟨S D,.gL⟩::eJ s g)) A l D rec (by rw[pP])) {tmps:=a.tmps.setIfInBounds p v2,defers:=[]} tY ?_) ?_
  ·have wX:p<c.n:=by simp_all
   exact
   {defers:=rfl
    size:=by simp[s2.size]
    env:=λt AS pS=>by
     simp only[look]at pS;by_cases e:ce p t=U
     ·rw[e]at pS;simp only[cond_true,iG]at pS;subst pS;have:=kb.1 e;subst this;exact⟨v2,by simp[s2.size,wX],sV⟩
     simp only[qc]at e;rw[e]at pS;simp only[cond_false]at pS;obtain⟨u,h1,fx⟩:=s2.env t AS pS;have abx:p≠t:=λh=>by simp_all
     exact⟨u,by simp_all,AS.mono RS fx⟩
    ey:=.refl _ _
    own:=hle.ok
    nodup:=hle.nodup
    lt:=hle.lt
    gl:=λk hk _=>hk
    eW:=hle.eW}
  intro e a3 asy iD;cases e with
  | normal=>
    obtain⟨SB,Sf,ax⟩:=iD
    refine⟨SB,Sf,Kx (n:=9) o (wpIn_mono ax ?_)⟩
    intro e a5 H8 MC
    have fin:∀(jump:aw ec) {b9:R aK},b0 ⟨c.P,c.n,tY,aP (⟨S l,.is (.loop rec)⟩::⟨S D,.gL⟩::eJ s g),A,S l,[]⟩ [] (⟨S l,.is (.loop {rec with state:=.busy})⟩::⟨S D,.gL⟩::b9) a5 H8->
     ∃rO,(di l jump).run c.P H8=.ok (.bool jump.isNone) rO∧b0 ⟨c.P,c.n,tY,aP (⟨S l,.is (.loop rec)⟩::⟨S D,.gL⟩::eJ s g),A,S l,[]⟩ [] (⟨S l,.is (.loop {rec with state:=if jump.isNone then .ready else .done,pending:=jump})⟩::⟨S D,.gL⟩::b9) a5 rO:=λjump b9 rM=>by
     obtain⟨ak,h1,fx⟩:=rM.own ⟨S l,.is (.loop {rec with state:=.busy})⟩ (by simp)
     have R8:ak=.loop {rec with state:=.busy}:=fx
     subst R8
     exact⟨_,run_endRound jump h1,rM.tH (i:=0) o o⟩
    rcases MC with⟨nK,Sa,rfl,pZ,rM⟩|⟨q,Sa,vn,rfl,pZ,rM⟩
    ·obtain⟨rO,lU,w2⟩:=fin Y rM
     refine⟨_,rO,lU,.inl ⟨nK,Sa,?_⟩⟩
     have Sg:({rec with state:=if (Y:aw ec).isNone then .ready else .done,pending:=Y}:Loop)=rec:=by simp_all
     rw[Sg]at w2
     exact w2.ends (gS:=λ_:aY=>ci U) (nP:=λg=>⟨S l,.is (.loop rec)⟩::⟨S D,.gL⟩::eJ nK g) pZ (zb _) (of_bool.2 o)
    obtain⟨rO,lU,w2⟩:=fin (S (bQ q)) rM
    have key:j4 (aP (⟨S l,.is (.loop rec)⟩::⟨S D,.gL⟩::eJ s g)) A tY (λ_:aY=>ci V) (λg=>⟨S l,.is (.loop {rec with state:=.done,pending:=S (bQ q)})⟩::⟨S D,.gL⟩::js q g) (.returned (.bool V)) rO:=
     w2.ends (gS:=λ_:aY=>ci V) (nP:=λg=>⟨S l,.is (.loop {rec with state:=.done,pending:=S (bQ q)})⟩::⟨S D,.gL⟩::js q g) pZ (zb _) (of_bool.2 o)
    exact UG vn lU (.inr ⟨q,Sa,key⟩)
  |exit id=>exact iD.elim
  |goto t=>exact iD.elim
  |ret=>exact iD.elim
  |panic ph=>exact iD.elim
  |outgrown=>exact iD.elim
 have Rt:=MI.go na rH iD (λs g=>⟨S l,.is (.loop rec)⟩::⟨S D,.gL⟩::w5 s g) (λs g=>by simp_all) step ks g0 (λr=>k r MM) aF c.cv lb (.func (.yield l) #[] #[]) h2 Hi Se RT
 have R9:a.eval (.tmp gt)=.func (.func f) #[] h2.toArray:=by simp_all[Act.eval]
 refine⟨l,[tG D],lb,{target:=.fn (.func f) h2.toArray,args:= #[.func (.yield l) #[] #[]]},lb,f,#[.func (.yield l) #[] #[]]++h2.toArray,lb,HM,?_,λ_ _=>trivial,?_,λh=>by simp at h,?_⟩
 ·simp only[resolve,R9]
  simp[go_sem]
 ·simp[invoke,go_sem,dj.run]
 refine CallsIn.PW ?_
 have Ru:(#[.func (.yield l) #[] #[]]++h2.toArray:bE bt)=(.func (.yield l) #[] #[]::h2).toArray:=by simp
 rw[Ru]
 refine Rt.mono λe SC ⟨asz,⟨⟨r,abB⟩,pZ⟩,he,pW,iX,nJ,nM,lU⟩=>?_
 subst he
 have rP:=HO.after pW iX (by simp_all[aP]) (by simp_all[aP])
 rw[qe]at rP
 cases r with
 | inl nK=>
   simp only[b9]at rP
   subst yD
   obtain⟨ak,tM,tN⟩:=rP.own ⟨S l,.is (.loop rec)⟩ (by simp)
   have tI:ak=.loop rec:=tN
   subst tI
   have wM:=Jt (P:=c.P) tM (by simp_all)
   have wX:rec.pending=Y:=by rw[pP]
   rw[wX]at wM
   refine⟨Y,_,wM,?_⟩
   have w7:=(rP.tH (i:=0) (iv:=.is (.loop {rec with state:=.exhausted})) (rN:=.loop {rec with state:=.exhausted}) o o).sA 1
   rw[wX]at w7
   exact Hg nK abB pZ D _ _ (w7.mark D)
 | inr q=>
   simp only[b9]at rP
   subst HN
   obtain⟨ak,tM,tN⟩:=rP.own ⟨S l,.is (.loop {rec with state:=.done,pending:=S (bQ q)})⟩ (by simp)
   have tI:ak=.loop {rec with state:=.done,pending:=S (bQ q)}:=tN
   subst tI
   have wM:=Jt (P:=c.P) tM (by simp)
   refine⟨S (bQ q),_,wM,?_⟩
   have w7:=(rP.tH (i:=0) (iv:=.is (.loop {rec with state:=.exhausted,pending:=S (bQ q)})) (rN:=.loop {rec with state:=.exhausted,pending:=S (bQ q)}) o o).sA 1
   exact Hh q abB pZ D _ _ (w7.mark D)
end
def ag.any(a:aB):ag a:=λQ=> ∀x,Q x
def ag.any_bind{a b:aB}{k:a->ag b}{c:b->Prop}(d:ag.bind (ag.any a) k c)(x:a):k x c:=d x
def ha.append{a:R Nat}{b:bj}:∀{d e:R J} {f g:R bt},ha a b d f->ha a b e g->ha a b (d++e) (f++g)
 |_,_,_,_,.nil,c=>c
 |_,_,_,_,.cons c h,i=>.cons c (h.append i)
section
variable{c:cX}{E:R (Nat×J)}{L:R aK}{ops:bE bA}{Q:cK->cg->bj->Prop}
variable{d:aw Tmp}{ty:bH}{pos:String}{a1:bE Edge}{g:aw (Nat×aI)}{x y:cx}{t t2:bH}
def en(c:cX)(E:R (Nat×J))(L:R aK)(ak:bA){aX:aB}(g:aX->J)(d:aX->R aK):Prop:=
 ∀a e,b0 c E L a e->hr c.P ak a e λh f=> ∃b,b0 c E (d b) a f∧(g b).holds (aP (d b)++c.cv) f h
def aa.nI{ak:bA}{d:R bA}{a8:Nat}{aX:aB}{e:aX->J}{f:aX->R aK}(g:en c E L ak e f)(h:ak.guard=Y)(aq:ak.dst=S a8)(aQ:cd a8 c.n=U)
 (k:∀b,aa c ops Q d ((a8,e b)::E) (f b)):aa c ops Q (ak::d) E L:=λa i j=>
 jb h (g a i j) λn o ⟨b,l,m⟩=>by
  rw[aq];exact k b _ _ (l.put (by simp_all) m)
def aa.abZ{ak:bA}{m:R bA}{a8 n o:Nat}{b e:aI}{aX b7:aB}{bb:b7->J}{mC:b7->R aK}{K:b7->Prop}{val:aX->b7}{gS:aX->J}{aD:aX->R aK}(F:ak.guard=S (n,e))(q:(ops[n]?).bind (·.dst)=S o)
 (r:look E o=S (.of b)) (aq:ak.dst=S a8) (aQ:cd a8 c.n=U) (f:b=e->en c E L ak gS aD)
 (A:b=e->∀d,K (val d)∧gS d=bb (val d)∧aD d=mC (val d)) (B: ¬b=e->∃y,K y∧L=mC y)
 (k:∀y,K y->aa c ops Q m ((a8,.cond (b=e) (bb y))::E) (mC y)):aa c ops Q (ak::m) E L:=λa C h=>by
 have G:=Kt q r h
 unfold cX.tR wpListIn
 by_cases g:b=e
 ·rw[bT (by simp_all[ct])]
  refine((f g a C h).wpIn λH I ⟨d,p,i⟩=>?_)
  obtain⟨j,l,D⟩:=A g d
  rw[l]at i
  rw[D]at p i
  rw[aq]
  exact k _ j _ _ (p.put (by simp_all) ⟨λ_=>i,λf=>absurd g f⟩)
 rw[bU (by simp_all[ct])]
 rw[aq]
 obtain⟨y,j,l⟩:=B g
 rw[l]at h
 exact⟨λ_ _=>trivial,k y j _ _ (h.put (by simp_all) ⟨λf=>absurd f g,λ_=>rfl⟩)⟩
def en.perm{gH:R aK}{ak:bA}{aX:aB}{d:aX->J}{e f:aX->R aK}(h:L.Perm gH)(g:∀b,(e b).Perm (f b))(i:en c E gH ak d e):en c E L ak d f:=λa j k=>by
 have:=i a j (k.perm h);unfold hr at this⊢;exact sd (λp q ⟨l,m,b,n,o⟩=>⟨l,m,b,n.perm (g b),(d b).mono (oL (g b)) o⟩) this
def en.to{ak:bA}{aX:aB}{d:aX->J}{a b:aX->R aK}(f:∀e,a e=b e)(g:en c E L ak d a):en c E L ak d b:=by
 have:a=b:=funext f;simp_all
def en.map{ak:bA}{aX b:aB}{e:aX->J}{f:aX->R aK}{g:b->J}{h:b->R aK}(F:aX->b)(aF:∀d,g (F d)=e d)(o:∀d,h (F d)=f d)(i:en c E L ak e f):en c E L ak g h:=λa j k=>by
 have:=i a j k;unfold hr at this⊢;exact sd (λp q ⟨l,m,n,r,A⟩=>⟨l,m,F n,by simp_all,by simp_all⟩) this
def en.DT{f:aB}[ah f]{ak:bA}{i s g p:Nat}{h:aw Nat}{b:R f}{aX:aB}{j:aX->J}{k:aX->R aK}(d:look E s=S (.eq (aH h (T b) g)))(q:L[i]? =S ⟨h,.row p b g⟩)
 (r:en c ((s,.of b)::E) (L.set i ⟨Y,.dead⟩) ak j k):en c E L ak j k:=λa A l=>by
 have m:=r a A (l.freeze d q)
 unfold hr at m⊢
 refine sd (λK M ⟨e,B,C,n,D⟩=>⟨e,B,C,{n with env:=λt F o=>?_},D⟩) m
 by_cases G:ce s t=U
 ·have:=kb.1 G
  subst this
  rw[d]at o
  cases o
  obtain⟨e,H,I⟩:=l.env s _ d
  exact⟨e,H,I⟩
 refine n.env t F ?_
 grind[look]
def en.aF{ak:bA}{b:J}(f:aZ c E L ak b):en c E L ak (λ_:bG=>b) (λ_=>L):=λa g d=>by
 have e:=f a g d;unfold hr at e⊢;exact sd (λl m ⟨h,i,j,k⟩=>⟨h,i,(),d.world j,k⟩) e
def en.aqS{ak:bA}{aX:aB}{b:J}(d:en c E L ak (λ_:aX=>b) (λ_=>L)):eg c E L ak b:=λa e f=>by
 have:=d a e f;unfold hr at this⊢;exact sd (λk l ⟨g,h,m,i,j⟩=>⟨g,h,i,j⟩) this
def en.call{ak:bA}{h:FuncId}{sT:cg->R bt}{m:R J}{d b9:R aK}{aX:aB}{i:aX->J}{n:aX->R aK}(j:bn c.P h m d i n)
 (C:∀a b,b0 c E (d++b9) a b->(execOp a.eval ak).run c.P b=.ok (.enter h (sT a).toArray) b∧ha (aP (d++b9)++c.cv) b m (sT a)):en c E (d++b9) ak i (λD=>n D++b9):=λa b e=>by
 obtain⟨F,G⟩:=C a b e
 have p:=e.nodup
 rw[fF]at p
 obtain⟨H,Q,I⟩:=rZ.1 p
 have q:Ext (aP (d++b9)++c.cv) b (aP d++(aP b9++c.cv)) b:=CQ
 have K:∀k∈aP b9++c.cv,k<b.heap.size∧k∉aP d:=λk g=>by
  rcases eN.1 g with g|g
  ·exact⟨e.lt k (by simp_all[fF]),λj=>I k j k g o⟩
  obtain⟨r,A⟩:=e.eW k g;simp_all[fF]
 have L:∀k∈aP d,k<b.heap.size:=λk g=>e.lt k (by simp_all[fF])
 refine .uD (f:=h) (args:=(sT a).toArray) (dE:=b) F ?_
 refine(j (aP b9++c.cv) b (sT a) K H L (λB l=>eb (e.own B (eN.2 (.inl l))) q λ_ _=>rfl) (G.mono q)).mono λB aa ⟨M,a8,l,N,r,A,O,P⟩=>?_
 exact⟨M,l,a8,e.after N r A O,(i a8).mono KF P⟩
def en.Z3{ak:bA}{b1:aB}[eA b1]{aC:aL b1}{b b9:R aK}{aX:aB}{d:aX->J}{e:aX->R aK}{f:aX->aL b1}(n g:Nat)(h:L.drop n=bc aC)(i:(L.take n).take g=b)(j:(L.take n).drop g=b9)
 (k:en c E ((b++bc aC)++b9) ak d (λa=>(e a++bc (f a))++b9)):en c E L ak d (λa=>(e a++b9)++bc (f a)):=by
 have l:L=(b++b9)++bc aC:=by grind[Z]
 clear h i j
 subst l
 exact k.perm me λa=>me
def en.ez{b:FuncId}{e:R cx}{o:bE bH}{b1:aB}[eA b1]{aC:aL b1}{i:R J}{f b9:R aK}{aX:aB}{j:aX->J}{k:aX->R aK}{l:aX->aL b1}(n h:Nat)(p:L.drop n=bc aC)(q:bk c.P b)(r:bn c.P b i (f++bc aC) j (λd=>k d++bc (l d)))
 (A:(L.take n).take h=f) (B:(L.take n).drop h=b9) (C:iu c E L e i):en c E L ⟨d,.call ⟨.value (.func b),e.toArray,o⟩,ty,pos,a1,g⟩ j (λm=>(k m++b9)++bc (l m)):=by
 have D:L=(f++b9)++bc aC:=by grind[Z]
 refine en.Z3 n h p A B (en.call (sT:=λa=>e.map a.eval) r λa F G=>⟨by simp[execOp,resolve,cl,Act.eval,invoke,q.run],?_⟩)
 subst D
 exact(C.holds a F (G.perm me.symm)).mono (oL me)
def en.kG{b:FuncId}{xs:R cx}{j7:bE bH}{e:R J}{dJ b9:R aK}{aX:aB}{f:aX->J}{h:aX->R aK}(i:Nat)(j:bk c.P b)(k:bn c.P b e dJ f h)
 (l:L.take i=dJ) (m:L.drop i=b9) (n:iu c E L xs e):en c E L ⟨d,.call ⟨.value (.func b),xs.toArray,j7⟩,ty,pos,a1,g⟩ f (λo=>h o++b9):=by
 have p:L=dJ++b9:=by grind[Z]
 clear l m
 subst p
 exact en.call (sT:=λa=>xs.map a.eval) k λa q r=>⟨by simp[execOp,resolve,cl,Act.eval,invoke,j.run],n.holds a q r⟩
def aN.akH{i:cx}{h:FuncId}{j k:R J}{e:R cx}{j7:bE bH}(m:bk c.P h)(n:aN c E L i (.jn h j))(o:iu c E L e k){a:cg}{b:bj}(l:b0 c E L a b):
 ∃f:R bt,(execOp a.eval ⟨d,.call ⟨.value i,e.toArray,j7⟩,ty,pos,a1,g⟩).run c.P b=.ok (.enter h (e.map a.eval++f).toArray) b∧ha (aP L++c.cv) b (k++j) (e.map a.eval++f):=by
 obtain⟨f,p,q⟩:=n a b l
 exact⟨f,by simp[execOp,resolve,cl,p,invoke,m.run],(o.holds a b l).append q⟩
def en.jn{D:cx}{j:FuncId}{F dF:R J}{G:R cx}{j7:bE bH}{b b9:R aK}{aX:aB}{p:aX->J}{H:aX->R aK}(I:Nat)(N:bk c.P j)(q:aN c E L D (.jn j F))(r:bn c.P j (dF++F) b p H)
 (l:L.take I=b) (m:L.drop I=b9) (O:iu c E L G dF):en c E L ⟨d,.call ⟨.value D,G.toArray,j7⟩,ty,pos,a1,g⟩ p (λP=>H P++b9):=by
 have n:L=b++b9:=by grind[Z]
 clear l m
 subst n
 intro a h e
 obtain⟨ae,A,B⟩:=aN.akH (d:=d) (ty:=ty) (pos:=pos) (a1:=a1) (g:=g) (j7:=j7) N q O e
 have K:=e.nodup
 rw[fF]at K
 obtain⟨Q,af,aa⟩:=rZ.1 K
 have M:Ext (aP (b++b9)++c.cv) h (aP b++(aP b9++c.cv)) h:=CQ
 have ab:∀k∈aP b9++c.cv,k<h.heap.size∧k∉aP b:=λk i=>by
  rcases eN.1 i with i|i
  ·exact⟨e.lt k (by simp_all[fF]),λr=>aa k r k i o⟩
  obtain⟨l,m⟩:=e.eW k i;simp_all[fF]
 have ac:∀k∈aP b,k<h.heap.size:=λk i=>e.lt k (by simp_all[fF])
 refine .uD (f:=j) (dE:=h) A ?_
 refine(r (aP b9++c.cv) h _ ab Q ac (λn C=>eb (e.own n (eN.2 (.inl C))) M λ_ _=>rfl) (B.mono M)).mono λn ag ⟨ad,a8,C,q,l,m,A,B⟩=>?_
 exact⟨ad,C,a8,e.after q l m A,(p a8).mono KF B⟩
def iu.perm{gH:R aK}(b:L.Perm gH):∀{d:R cx} {e:R J},iu c E L d e->iu c E gH d e
 |[],[],a=>a
 |_::_,_::_,a=>⟨a.1.perm b,iu.perm b a.2⟩
 |[],_::_,a=>a.elim
 |_::_,[],a=>a.elim
def en.aqo{h:cx}{b:FuncId}{i dF:R J}{j:R cx}{o:bE bH}{b1:aB}[eA b1]{aC:aL b1}{a b9:R aK}{aX:aB}{k:aX->J}{l:aX->R aK}{m:aX->aL b1}(n e:Nat)(p:L.drop n=bc aC)(q:bk c.P b)(r:aN c E L h (.jn b i))(A:bn c.P b (dF++i) (a++bc aC) k (λd=>l d++bc (m d)))
 (B:(L.take n).take e=a) (C:(L.take n).drop e=b9) (D:iu c E L j dF):en c E L ⟨d,.call ⟨.value h,j.toArray,o⟩,ty,pos,a1,g⟩ k (λf=>(l f++b9)++bc (m f)):=by
 have F:L=(a++b9)++bc aC:=by grind[Z]
 refine en.Z3 n e p B C ?_
 subst F
 refine en.to (λf=>rfl) (en.jn (T (a++bc aC)) q (r.perm me) A I6 NX (D.perm me))
def en.obj{h:FuncId}{i:R cx}{j7:bE bH}{b1:aB}[eA b1]{aC:aL b1}{e:Nat}{k:b1}{p:R J}{j:R aK}{aX:aB}{q:aX->J}{r:aX->R aK}(n:Nat)(l:aX->b1)(N:L.drop n=bc aC)(C:pat aC e=S k)(D:bk c.P h)(m:bn c.P h p j q r)
 (O:eA.gD e k=j) (F:∀b,eA.gD e (l b)=r b) (G:iu c E L i p):en c E L ⟨d,.call ⟨.value (.func h),i.toArray,j7⟩,ty,pos,a1,g⟩ q (λb=>L.take n++bc (cS aC e (l b))):=by
 obtain⟨f,P,H⟩:=vP C
 have Q:L=L.take n++bc aC:=by grind[Z]
 have I:∀{A B:R aK},A.Perm (B++f)->(L.take n++A).Perm (B++(f++L.take n)):=λm=>ox.trans ((m.append_right _).trans (by rw[mI]))
 have o:L.Perm (j++(f++L.take n)):=by
  grind
 refine en.perm o (λb=>(I (H (l b))).symm) ?_
 refine en.to (λb=>by rw[F]) (en.call (b9:=f++L.take n) (sT:=λa=>i.map a.eval) m λa K M=>⟨by simp[execOp,resolve,cl,Act.eval,invoke,D.run],?_⟩)
 exact(G.holds a K (M.perm o.symm)).mono (oL o)
def eg.obj{a:FuncId}{h:R cx}{j7:bE bH}{b1:aB}[eA b1]{aC:aL b1}{b:Nat}{k:b1}{i:R J}{e:R aK}{aX:aB}{j:J}(n:Nat)(l:L.drop n=bc aC)(o:pat aC b=S k)(p:bk c.P a)(m:bn c.P a i e (λ_:aX=>j) (λ_=>e))
 (f:eA.gD b k=e) (q:iu c E L h i):eg c E L ⟨d,.call ⟨.value (.func a),h.toArray,j7⟩,ty,pos,a1,g⟩ j:=by
 have r:L=L.take n++bc aC:=by grind[Z]
 have A:cS aC b k=aC:=by
  clear r l m f;induction aC with
  |nil=>rfl
  | cons z B C=>
    grind[pat,cS]
 refine en.aqS (en.to (λD=>?_) (en.obj (d:=d) (ty:=ty) (pos:=pos) (a1:=a1) (g:=g) (j7:=j7) n (λ_=>k) l o p m f (λ_=>f) q))
 grind
def aa.Y5{l:R bA}{b1:aB}[eA b1]{aC:aL b1}{b:Nat}{d b9:R aK}(n e:Nat)(mk:b1)(q:L.drop n=bc aC)(r:(L.take n).take e=d)(A:(L.take n).drop e=b9)(i:eA.gD b mk=d)(j:b∈aP d)
 (k:∀a:Nat×aL b1,a.1∉aC.map (·.1)∧a.2=(a.1,mk)::aC->a.1=b->aa c ops Q l E (b9++bc a.2)):aa c ops Q l E L:=λa B f=>by
 have g:L=(d++b9)++bc aC:=by grind[Z]
 have m:L.Perm (b9++bc ((b,mk)::aC)):=by
  rw[g,bc,i,<-mI];exact ox.append_right _
 refine k (b,(b,mk)::aC) ⟨λp=>?_,rfl⟩ o _ _ (f.perm m)
 have h:=f.nodup
 rw[g,fF,fF]at h
 exact(rZ.1 h).2.2 b (eN.2 (.inl j)) b (Yy p) o
end
section
variable{c:cX}{E:R (Nat×J)}{L:R aK}{ops:bE bA}{Q:cK->cg->bj->Prop}
def fb.q{aR:R ee}{i b:Nat}{ak:bA}{a:ee}(d:fb c ops Q aR E L i ak a):x6 c ops Q aR E L b i ak a:=λaq e f g h _=>d aq e f g h
structure GX(P:Program)(f:FuncId)(dF:List J){b1:Type}[eA b1](aC:aL b1){au:Type}(dm:au->J)(run:∀{bb bp:Type},(au->bb->Option (bb⊕bp))->bb->Option (bb⊕bp)):Prop where
 go:∀{bb bp aY:Type} (eJ:bb->aY->List aK) (js:bp->aY->List aK) (w5:bb->aY->List aK),(∀s g,eJ s g=w5 s g++bc aC)->Sd P f dF [] dm (run (bb:=bb) (bp:=bp)) eJ js
def GX.of{P:cV}{E:FuncId}{m:Func}{F:ec}{n:Nat}{l:R J}{b1:aB}[eA b1]{aC:aL b1}{C:aB}{p:C->J}{G:∀{a d:aB},(C->a->aw (a⊕d))->a->aw (a⊕d)}
 (K:P.funcs[E]? =S m) (L:m.body=S F) (aQ:m.ntmps=n) (M:c7 (l.length+1) n=U)
 (N:∀{a d f:aB} (b:a->f->R aK) (q:d->f->R aK) (D:a->f->R aK),(∀H g,b H g=D H g++bc aC)->∀(r:C->a->aw (a⊕d)) (c:a) (e:f) (A:a⊕d),G r c=S A->
  ∀ h i j,MB P j p b q r (λO Q=>Ext (aP (b c e)++i) h O Q)->
    ar ⟨P,n,h,aP (b c e),i,Y,[]⟩ (bodyPost P m (j4 (aP (b c e)) i h (λ_:f=>.bO []) (λg=>[]++b9 b q A g))) F (params 0 (.eq j::l)) (b c e)):GX P E l aC p G:=by
 refine⟨?_⟩
 intro a d f b q D aa r c e A aF i h j ab B ac ad
 refine Jr K L (wpIn_wide.1 (N b q D aa r c e A aF h i j ad _ _ ?_))
 have I:ha (aP (b c e)++i) h (.eq j::l) (j::ab):=.cons o ac
 have ag:=I.length
 have ah:l.length+1<=n:=pq M
 exact
 {defers:=rfl
  size:=by simp_all
  env:=λt p ae=>by
   obtain⟨_,ai,aj,ak⟩:=zR I 0 t p ae;grind
  ey:=.refl _ _
  own:=B.ok
  nodup:=B.nodup
  lt:=B.lt
  gl:=λk af _=>af
  eW:=B.eW}
def anw{b1:aB}[eA b1]{a b:aB}{eJ e:a->b->R aK}{aC:aL b1}{s:a}{g:b}{c:Nat}{k:b1}{d:aK}(n:Nat)(f:L.drop n=eJ s g)(h:∀s g,eJ s g=e s g++bc aC)(i:pat aC c=S k)(j:eA.gD c k=[d]):d∈L:=
 Zo (iD:=λ_=>aC) n f h i j
def VL{gt p:Nat}{assign body:ec}{f:FuncId}{rD:R J}{b1:aB}[eA b1]{aC:aL b1}{au bb bp aY:aB}{dm:au->J}{run:∀{bb bp:aB},(au->bb->aw (bb⊕bp))->bb->aw (bb⊕bp)}
 {eJ:bb->aY->R aK} {js:bp->aY->R aK} {step:au->bb->aw (bb⊕bp)} {ks:bb} {g0:aY} {r:bb⊕bp} (w5:bb->aY->R aK) (bQ:bp->ec)
 (nH:c.rd=Y) (dj:bk c.P f) (nL:look E gt=S (.jn f rD)) (MI:GX c.P f rD aC dm run) (aF:run step ks=S r) (arW:∀s g,eJ s g=w5 s g++bc aC) (av:L=eJ ks g0) (dt:cd p c.n=U)
 (GZ:∀x s r,step x s=S r->∀g (tO:bj) (tX tP:R Nat) (l D:Nat) (rec:Loop),rec.state=.ready->
  ar ⟨c.P,c.n,tO,tX,tP,S l,[]⟩ (Exit.then (ML ⟨c.P,c.n,tO,tX,tP,S l,[]⟩ l body (MK ⟨c.P,c.n,tO,tX,tP,S l,[]⟩ bQ l D {rec with state:=.busy} eJ js r)) (λ_ _ _=>False)) assign ((p,dm x)::E) (⟨S l,.is (.loop rec)⟩::⟨S D,.gL⟩::eJ s g))
 (Hg:∀nK,r=.inl nK->∀g D,af {c with ds:=tG D::c.ds} Q .normal E (⟨S D,.gL⟩::eJ nK g))
 (Hh:∀q,r=.inr q->∀g D,ar {c with ds:=tG D::c.ds} Q (bQ q) E (⟨S D,.gL⟩::js q g)):
 ar c Q (.rangeFunc (.tmp gt) #[p] assign body) E L:=
 ahS (dJ:=[]) (run:=run) bQ nH dj nL (λvj vl rH=>MI.go (λs g=>vj::vl::eJ s g) rH (λs g=>vj::vl::w5 s g) (λs g=>by simp_all)) aF av dt GZ Hg Hh
end
structure Raw where
 f:FuncId
 us:Option (List Value)
instance:Inhabited Raw:=⟨⟨0,Y⟩⟩
def Raw.val:Raw->bt
 |⟨a,S b⟩=>.func (.func a) #[] b.toArray
 |⟨_,Y⟩=>.nilFunc
instance:ah Raw where
 size:=1
 agg:=V
 rep _ _ cs x:=cs=[x.val]
 len h:=by simp_all
 one h:=by
  intro v sV;rw[h,mF]at sV;subst sV;rename_i x;obtain⟨f,us⟩:=x;cases us <;> rfl
 flat _:=rfl
 mono _ h:=h
instance:dH Raw:=⟨[.nilFunc],λ_ _=>rfl⟩
def QC{c d b}{x:Raw}:(ci x).holds c d b↔b=x.val:=by
 constructor
 ·intro a;exact lJ (by have:=a.1;exact this) a.2
 intro a;subst a;obtain⟨f,e⟩:=x;cases e <;> exact⟨rfl,rfl⟩
section
variable{c:cX}{E:R (Nat×J)}{L:R aK}{ops:bE bA}{Q:cK->cg->bj->Prop}
variable{d:aw Tmp}{ty:bH}{pos:String}{a1:bE Edge}{g:aw (Nat×aI)}{x y:cx}{t t2:bH}
def ha.eqs{c:R Nat}{d:bj}:∀{a b:R bt},ha c d (a.map J.eq) b->b=a
 |[],_,.nil=>rfl
 |_::_,_,.cons f e=>by rw[e.eqs];congr 1
def ha.Rv{b:R Nat}{c:bj}:∀{a:R bt},ha b c (a.map J.eq) a
 |[]=>.nil
 |_::_=>.cons o .Rv
def L0{f:FuncId}{b:R cx}{us:R bt}(e:iu c E L b (us.map J.eq)):aZ c E L ⟨d,.makeFunc (.func f) #[] b.toArray,ty,pos,a1,g⟩ (.of (⟨f,S us⟩:Raw)):=.pure λa h i=>
 ⟨.func (.func f) #[] us.toArray,by
   have j:=(e.holds a h i).eqs;simp[execOp,df,j],QC.2 o⟩
def CH{d:FuncId}{b:R bt}(e:aN c E L x (.of (⟨d,S b⟩:Raw))):aN c E L x (.jn d (b.map J.eq)):=λa f g=>
 ⟨b,QC.1 (e a f g),.Rv⟩
def aa.DS{ak:bA}{A:R bA}{a8 B C:Nat}{b h:aI}{i aY D:aB}{l:ag i}{z:i}{k:i->ag D}{a:D->Prop}(f:ag.bind (bif cb (b=h)then l else ag.ret z) k a)(m:i->J)(j:i->aY->R aK)(o:aY)(M:L=j z o)
 (F:ak.guard=S (B,h)) (G:(ops[B]?).bind (·.dst)=S C) (H:look E C=S (.of b)) (aq:ak.dst=S a8) (aQ:cd a8 c.n=U)
 (N:b=h->l (λd=>k d a)->en c E L ak (λe: {d // k d a}×aY=>m e.1.1) (λe=>j e.1.1 e.2))
 (I:∀y g,k y a->aa c ops Q A ((a8,.cond (b=h) (m y))::E) (j y g)):aa c ops Q (ak::A) E L:=by
 by_cases n:b=h
 ·have p:l (λd=>k d a):=by
   have q:(bif cb (b=h)then l else ag.ret z) (λd=>k d a):=f;simp_all
  exact aa.abZ (b7:=i×aY) (K:=λy=>k y.1 a) (bb:=λy=>m y.1) (mC:=λy=>j y.1 y.2) (val:=λe=>(e.1.1,e.2)) F G H aq aQ (λ_=>N n p) (λ_ e=>⟨e.1.2,rfl,rfl⟩) (λf=>absurd n f) λy r=>I y.1 y.2 r
 have p:k z a:=by
  have q:(bif cb (b=h)then l else ag.ret z) (λd=>k d a):=f;rw[zd n]at q;exact q
 exact aa.abZ (aX:=bG) (b7:=i×aY) (K:=λy=>k y.1 a) (bb:=λy=>m y.1) (mC:=λy=>j y.1 y.2) (val:=λ_=>(z,o)) (gS:=λ_=>m z) (aD:=λ_=>j z o) F G H aq aQ (λf=>absurd f n) (λf=>absurd f n) (λ_=>⟨(z,o),p,M⟩) λy r=>I y.1 y.2 r
end
section
variable{c:cX}{E:R (Nat×J)}{L:R aK}{ops:bE bA}{Q:cK->cg->bj->Prop}
def aa.Y6{l:R bA}{e f:Nat}(d:Nat)(i:look E d=S (.eq (.pointer (S ⟨e,0,Y⟩))))(j:f=e)(k:aa c ops Q l ((d,.of (S f:Ref))::E) L):aa c ops Q l E L:=λa g m=>by
 subst j;refine k a g (m.less λt o b=>?_);simp only[look]at b;by_cases h:ce d t=U
 ·rw[h]at b;simp only[cond_true,iG]at b;have:=kb.1 h;subst this;subst b;exact⟨_,i,λp g q n=>x7.2 n⟩
 simp_all
end
section
variable{c:cX}{E:R (Nat×J)}{L:R aK}{ops:bE bA}{Q:cK->cg->bj->Prop}
def rv(ops:bE bA)(n:Nat)(aR:R (aw Nat×R Nat×R Nat×R Nat))(E:R Nat):aI:=
 decide (T aR=n)&&cb (n<=ops.size)&&cb (aR.filterMap (·.1)).Nodup&&((b' n).all λa=>match aR[a]? with |some (S e,up,_)=> !E.contains e||(b' n).all λk=>decide (k=a)||up.contains k|_=>U)&&
 ((b' n).all λi=>match aR[i]? with
   |none=>V
   | some (_,up,rd,f)=>
     (((ops[i]?).map λak=>(ak.dst==(aR[i]?).bind (·.1))&&ak.after.all λb=> !Region.binds .any b||decide (b.on<i)).getD V)&&
     (up.all λk=>cI .any ops i k||(b' i).any λa=>cI .any ops i a&&((aR[a]?).map λg=>g.2.1.contains k).getD V)&&
     ((b' n).all λk=>match aR[k]? with
       |none=>U
       | some (_,h,_,c)=>
         (!(cb (k<i)&&c.any rd.contains)||up.contains k)&&(!(cb (i<k)&&c.any λd=>rd.contains d||f.contains d)||h.contains i)))&&
 (cb (n=ops.size)||(Region.sinkB .any ops n&&Region.chainB .any ops n))&&
 cw .any ops (ops.size-n) n ((b' n).foldl (λl i=>l.setIfInBounds i U) (cn ops.size V))
def ag4{n:Nat}{aR:R ee}{a0:Nat}(G:∀e∈aR,∀b∈e.wr,b<a0∨T L<=b)(a1:rv ops n (lB aR) (E.map (·.1))=U)(a2:qn c ops Q aR E L a0 0 (ops.toList.take n) aR)
 (a3:∀aq,aa c ops Q (ops.toList.drop n) (jj (λ_=>U) aq E 0 aR) (hi (λ_=>U) aq 0 aR L)):
 ∀ h (f:bE aI) (aq:Nat->Hid) (a:cg) (F:bj),T ((b' n).filter λi=> !f.getD i U)<=h->HeadInv .any ops n f->
   b0 c (jj (λi=>f.getD i V) aq E 0 aR) (hi (λi=>f.getD i V) aq 0 aR L) a F->wpAnyIn c.F 9 c.P .any ops Q (h+(ops.size-n)) f a F:=by
 simp only[rv,hx,ik,qV]at a1
 obtain⟨⟨⟨⟨⟨⟨bt,aQ⟩,aj⟩,a4⟩,bu⟩,bv⟩,aS⟩:=a1
 have b3:T aR=n:=by simpa[lB]using bt
 have al:∀i,i<n->∃e ak,aR[i]? =S e∧ops[i]? =S ak:=λi r=>⟨aR[i]'(by omega),ops[i],by simp,by simp⟩
 have aA:∀(i:Nat) (e:ee) (ak:bA),aR[i]? =S e->ops[i]? =S ak->
  ak.dst=e.slot∧(∀j∈ak.after,cM .any j=U->j.on<i)∧
  (∀k∈e.up,cI .any ops i k=U∨∃h,h<i∧cI .any ops i h=U∧∃x,aR[h]? =S x∧k∈x.up)∧
  (∀(k:Nat) (x:ee),aR[k]? =S x->(k<i->(∃b∈x.wr,e.rd.contains b=U)->k∈e.up)∧(i<k->(∃b∈x.wr,e.rd.contains b=U∨e.wr.contains b=U)->i∈x.up)):=by
  intro i e ak r P
  have bw:i<n:=by have:=(lX.1 r).1;omega
  have m:=qd.1 bu i (qW.2 bw)
  rw[P0 r]at m
  simp only[hx]at m
  obtain⟨⟨H,ag⟩,au⟩:=m
  simp only[P,cA,d4,hx,d3,l1]at H
  refine⟨H.1,λj I A=>?_,λk ae=>?_,λk x p=>?_⟩
  ·have:=Array.all_eq_true_iff_forall_mem.1 H.2 j I
   simp[A]at this
   exact this
  ·have:=qd.1 ag k ae
   simp only[qV,oA,hx,qW]at this
   rcases this with B|⟨h,B,bx,a5⟩
   ·exact .inl B
   have ad:h<T aR:=by omega
   rw[P0 (vt ad)]at a5
   exact .inr ⟨h,B,bx,aR[h],vt ad,by simpa using a5⟩
  have bz:k<n:=by have:=(lX.1 p).1;omega
  have:=qd.1 au k (qW.2 bz)
  rw[P0 p]at this
  simp only[hx,qV,xf,Bool.and_eq_false_iff,qb,S4]at this
  refine⟨λbB ⟨b,q,aF⟩=>?_,λam ⟨b,q,aF⟩=>?_⟩
  ·rcases this.1 with(B|B)|B
   ·exact absurd bB B
   ·have:=Bt.1 B b q
    exact absurd aF this
   exact B
  rcases this.2 with(B|B)|B
  ·exact absurd am B
  ·have:=Bt.1 B b q
   simp only[qV]at this
   exact absurd aF this
  exact B
 have aT:∀(i b M:Nat) (x y:ee),aR[i]? =S x->aR[b]? =S y->x.slot=S M->y.slot=S M->i=b:=by
  have aB:∀(l:R ee),((lB l).filterMap (·.1)).Nodup->∀(i b M:Nat) (x y:ee),l[i]? =S x->l[b]? =S y->x.slot=S M->y.slot=S M->i=b:=by
   intro l;induction l with
   |nil=>intro _ i b M x y e;simp at e
   | cons z aU an=>
     intro aj i b M x y r q p av
     have aF:((lB aU).filterMap (·.1)).Nodup:=by
      cases ai:z.slot with
      |none=>simpa[lB,ai]using aj
      | some w=>
        simp only[lB,pv,du,ai]at aj
        exact(s7.1 aj).2
     have a6:z.slot=S M->∀(C:Nat) (ah:ee),aU[C]? =S ah->ah.slot≠S M:=λai C ah ab bC=>by
      simp only[lB,pv,du,ai]at aj;exact(s7.1 aj).1 (Tp.2 ⟨_,lk.2 ⟨ah,fM ab,rfl⟩,bC⟩)
     cases i with
     | zero=>
       simp only[c6,iG]at r
       subst r
       cases b with
       |zero=>rfl
       |succ b=>simp only[co]at q;exact absurd av (a6 p b y q)
     | succ i=>
       simp only[co]at r
       cases b with
       | zero=>
         simp only[c6,iG]at q
         subst q
         exact absurd p (a6 av i x r)
       |succ b=>simp only[co]at q;rw[an aF i b M x y r q p av]
  exact aB aR aj
 have bD:∀(t:Nat) (ac:J),look E t=S ac->∀(h:Nat) (e:ee),aR[h]? =S e->e.slot=S t->∀k,k<n->k≠h->k∈e.up:=by
  intro t ac D h e ad aL k ae bF;have aM:h<n:=by have:=(lX.1 ad).1;omega
  have m:=qd.1 a4 h (qW.2 aM);rw[show(lB aR)[h]? =S (e.slot,e.up,e.rd,e.wr) by simp[lB,ad],aL]at m;have bG:t∈E.map (·.1):=by
   clear a4 m a2 a3 ad aL;induction E with
   |nil=>simp[look]at D
   | cons x aU an=>
     obtain⟨M,b4⟩:=x
     simp only[look]at D
     by_cases j:ce M t=U
     ·have:=kb.1 j;subst this;simp
     simp only[qc]at j
     rw[j]at D
     simp only[pv,fj]
     exact .inr (an D)
  replace m:(!(E.map (·.1)).contains t||(b' n).all λk=>decide (k=h)||e.up.contains k)=U:=m;rw[show(E.map (·.1)).contains t=U by simpa using bG]at m;have H:∀x,x<n->x=h∨x∈e.up:=by simpa using m
  exact(H k ae).resolve_left bF
 have aN:∀(f:bE aI),HeadInv .any ops n f->∀(d i:Nat),i<=d->∀(e:ee) (ak:bA),aR[i]? =S e->ops[i]? =S ak->(∀j∈ak.after,cM .any j=U->f.getD j.on V=U)->∀k∈e.up,f.getD k V=U:=by
  intro f N d;induction d with
  | zero=>
    intro i r e ak O ax G k ae
    rcases (aA i e ak O ax).2.2.1 k ae with m|⟨h,ad,_⟩
    ·obtain⟨aC,af,j,I,A,aD⟩:=Ni m
     rw[ax]at af;cases af
     rw[<-aD];exact G j I A
    omega
  | succ d an=>
    intro i r e ak O ax G k ae
    rcases (aA i e ak O ax).2.2.1 k ae with m|⟨h,ad,m,x,p,bH⟩
    ·obtain⟨aC,af,j,I,A,aD⟩:=Ni m
     rw[ax]at af;cases af
     rw[<-aD];exact G j I A
    obtain⟨aC,af,j,I,A,aD⟩:=Ni m
    rw[ax]at af;cases af
    have aM:=G j I A
    rw[aD]at aM
    obtain⟨b5,aE,b6,aG⟩:=al h (by have:=(lX.1 O).1;omega)
    exact an h (by omega) x aE p aG (λj I A=>N.closed h aE aG aM j I A) k bH
 have a7:∀(f:bE aI) (aq:Nat->Hid) (a:cg) (F:bj),(∀i,i<n->f.getD i U=U)->HeadInv .any ops n f->
  b0 c (jj (λi=>f.getD i V) aq E 0 aR) (hi (λi=>f.getD i V) aq 0 aR L) a F->wpAnyIn c.F 9 c.P .any ops Q (ops.size-n) f a F:=by
  intro f aq a F a8 N ao
  have D:=agY N aQ a8
  rw[<-D]at aS
  have a9:T (ops.toList.drop n)=ops.size-n:=by simp
  rw[<-a9]
  rw[<-a9]at aS
  refine UE (ops.toList.drop n) n f a F (λb=>by simp) aS (a3 aq a F ?_)
  have a_:∀h,h<T aR->f.getD (0+h) V=U:=λh ad=>by
   have m:=a8 h (by omega);have H:h<f.size:=by rw[N.size];omega
   simpa[H]using m
  rw[Vo (hG:=λ_=>U) a_,WE (hG:=λ_=>U) a_]at ao
  exact ao
 have ba:∀aH (f:bE aI) a F,wpAnyIn c.F 9 c.P .any ops Q aH f a F->wpAnyIn c.F 9 c.P .any ops Q (aH+1) f a F:=by
  intro aH;induction aH with
  |zero=>intro f a F e;exact⟨λ_=>e.2,λi r=>by rw[e.1]at r;cases r⟩
  |succ aH bI=>intro f a F e;exact⟨e.1,λi r=>wpOpIn_mono (λaV bJ bK=>bI _ aV bJ bK) (e.2 i r)⟩
 intro h
 induction h with
 | zero=>
   intro f aq a F ad N ao
   rw[kx]
   refine a7 f aq a F (λi r=>?_) N ao
   cases e:f.getD i U with
   |true=>rfl
   | false=>
     have:i∈(b' n).filter λi=> !f.getD i U:=uk.2 ⟨qW.2 r,by rw[e];rfl⟩
     rw[M6.1 (Nat.le_zero.1 ad)]at this
     cases this
 | succ h an=>
   intro f aq a F ad N ao
   rw[show h+1+(ops.size-n)=(h+(ops.size-n))+1 by omega]
   by_cases bb:∀i,i<n->f.getD i U=U
   ·have m:=a7 f aq a F bb N ao
    have aB:∀k,wpAnyIn c.F 9 c.P .any ops Q (k+(ops.size-n)) f a F:=by
     intro k;induction k with
     |zero=>rw[kx];exact m
     |succ k bL=>rw[show k+1+(ops.size-n)=(k+(ops.size-n))+1 by omega];exact ba _ _ _ _ bL
    exact ba _ _ _ _ (aB h)
   have bc:∃i,i<n∧f.getD i U=V:=by
    false_or_by_contra;rename_i H;exact bb λi r=>by
     cases e:f.getD i U with
     |true=>rfl
     |false=>exact absurd ⟨i,r,e⟩ H
   have bM:∀t∈cr .any ops f,t<n:=by
    intro t bd;rcases Fv t n with e|e
    ·exact e
    obtain⟨i,r,ap⟩:=bc;have b7:n<ops.size∨n=ops.size:=by omega
    have b8:t<ops.size:=by
     obtain⟨_,ak,P,_⟩:=xx.1 bd;exact(Bc.1 P).1
    rcases bv with m|m
    ·omega
    exact absurd bd (tail_waits m.1 m.2 (by omega) N _ i o r ap t e)
   refine⟨λbe=>?_,λi r=>?_⟩
   ·exfalso
    have aB:∀d i,i<=d->i<n->f.getD i U=U:=by
     intro d;induction d with
     | zero=>
       intro i bN r
       cases D:f.getD i U with
       |true=>rfl
       | false=>
         obtain⟨e,ak,O,P⟩:=al i r
         have:i∈cr .any ops f:=xx.2 ⟨D,ak,P,λj I A=>by have:=(aA i e ak O P).2.1 j I A;omega⟩
         rw[be]at this;cases this
     | succ d bO=>
       intro i bN r
       cases D:f.getD i U with
       |true=>rfl
       | false=>
         obtain⟨e,ak,O,P⟩:=al i r
         have:i∈cr .any ops f:=xx.2 ⟨D,ak,P,λj I A=>by
          have m:=(aA i e ak O P).2.1 j I A;have H:=bO j.on (by omega) (by omega);have ag:j.on<f.size:=by rw[N.size];omega
          simpa[ag]using H⟩
         rw[be]at this;cases this
    obtain⟨i,r,ap⟩:=bc
    have:=aB i i (jT _) r
    rw[ap]at this;cases this
   have aJ:i<n:=bM i r
   obtain⟨ap,ak,P,bP⟩:=xx.1 r
   obtain⟨e,_,O,_⟩:=al i aJ
   have ar:f.getD i V=V:=getD_both ap
   have bf:i<f.size:=by rw[N.size];omega
   have bQ:T ((b' n).filter λb=> !(f.setIfInBounds i U).getD b U)<=h:=by
    have:T ((b' n).filter λb=> !(f.setIfInBounds i U).getD b U)<T ((b' n).filter λb=> !f.getD b U):=by
     refine Yw (λb=> !f.getD b U) (λb=> !(f.setIfInBounds i U).getD b U) i (by simp only[ap];rfl) ?_ (λb q=>?_) n aJ
     ·simp[bf]
     by_cases j:i=b
     ·subst j;simp only[ap];rfl
     rw[getD_set_ne U j]at q;exact q
    omega
   have bR:=N.set r aJ
   obtain⟨b9,b_,ca,bg⟩:=aA i e ak O P
   have bh:=aN f N i i (jT _) e ak O P bP
   have bi:∀(k:Nat) (x:ee),aR[k]? =S x->i<k->(∃b∈x.wr,e.rd.contains b=U∨e.wr.contains b=U)->f.getD k V=V:=λk x p am q=>by
    have m:=(bg k x p).2 am q;cases ae:f.getD k V with
    |false=>rfl
    | true=>
      obtain⟨_,bk,_,bl⟩:=al k (by have:=(lX.1 p).1;omega)
      have:=aN f N k k (jT _) x bk p bl (λj I A=>N.closed k bk bl ae j I A) i m
      rw[ar]at this;cases this
   have bm:aR=aR.take i++e::aR.drop (i+1):=by
    have bS:i<T aR:=by omega
    rw[vt bS]at O;cases O;rw[SY];exact(rT i aR).symm
   have bn:T (aR.take i)=i:=by rw[oz];omega
   have bo:∀(t:Nat) (ac:J),look E t=S ac->∀(h:Nat) (x:ee),aR[h]? =S x->f.getD (0+h) V=U->x.slot≠S t:=λt ac D h x p aO aL=>by
    rw[kx]at aO;have bV:i≠h:=λj=>by subst j;rw[ar]at aO;cases aO
    obtain⟨_,aE,_,aG⟩:=al h (by have:=(lX.1 p).1;omega);have:=aN f N h h (jT _) x aE p aG (λj I A=>N.closed h aE aG aO j I A) i (bD t ac D h x p aL i aJ bV);rw[ar]at this;cases this
   have bp:=(qn.get a2 i e ak O (by rw[nh,bT aJ,Nd];exact P))
   rw[kx]at bp
   have bW:=bp aq (jj (λi=>f.getD i V) aq E 0 aR) (hi (λi=>f.getD i V) aq 0 aR L) (λt ac D=>?_) (λb j q aF=>?_) (P1 G)
   ·have G:=UZ (K:=λa F=> ∃x,b0 c (rC e.slot (e.dm (hE e.up i (lA aq i x))) (jj (λi=>f.getD i V) aq E 0 aR)) (pO (hi (λi=>f.getD i V) aq 0 aR L) (e.dS (hE e.up i (lA aq i x))) e.wr) a F) P (bW a F ao)
    refine wpOpIn_mono (λaV bX ⟨x,bY⟩=>?_) G
    have bq:∀b,b≠i->lA aq i x b=aq b:=λb q=>by
     have:ce b i=V:=by
      cases A:ce b i
      ·rfl
      exact absurd (kb.1 A) q
     simp only[lA,this,cond_false]
    have aW:∀(b:Nat) (y:ee),aR[b]? =S y->f.getD b V=U->hE y.up b (lA aq i x)=hE y.up b aq:=λb y av q=>by
     obtain⟨_,aC,_,af⟩:=al b (by have:=(lX.1 av).1;omega);refine ahR (bq b λj=>by subst j;rw[ar]at q;cases q) λk ae=>bq k λj=>?_;have:=aN f N b b (jT _) y aC av af (λj I A=>N.closed b aC af q j I A) k ae;subst j;rw[ar]at this;cases this
    have br:(f.setIfInBounds i U).getD i V=U:=by simp[bf]
    have ay:∀b,b≠i->(f.setIfInBounds i U).getD b V=f.getD b V:=λb q=>getD_set_ne V (λj=>q j.symm)
    refine an _ (lA aq i x) aV bX bQ bR ?_
    have bZ:hi (λb=>(f.setIfInBounds i U).getD b V) (lA aq i x) 0 aR L=pO (hi (λi=>f.getD i V) aq 0 aR L) (e.dS (hE e.up i (lA aq i x))) e.wr:=by
     apply ni;intro b;rw[Lo,Py,Lo];by_cases q:e.wr.contains b=U
     ·rw[bT q];have bs:∀(az:Nat->aI) (g:Nat->Hid) (ah:aw aK),(∀k x,aR[k]? =S x->i<k->x.wr.contains b=U->az k=V)->nB az g b 0 aR ah=(bif az i then(nB az g b 0 (aR.take i) ah).map (λ_=>e.dS (hE e.up i g) b)else nB az g b 0 (aR.take i) ah):=λaz g ah b1=>by
       conv=>lhs;rw[bm]
       rw[OY,bn,kx,nB,q,Bool.and_true,Ph];intro k x p G;rw[pr]at p;exact b1 (i+1+k) x p (by omega) G
      have aP:∀k x,aR[k]? =S x->i<k->x.wr.contains b=U->f.getD k V=V:=λk x p am G=>bi k x p am ⟨b,by simpa using G,.inr q⟩;rw[bs (λb=>(f.setIfInBounds i U).getD b V) (lA aq i x) _ (λk x p am G=>by rw[ay k (by omega)];exact aP k x p am G),bs (λb=>f.getD b V) aq _ aP];simp only[br,ar,cond_true,cond_false];rw[Ku (hG:=λb=>f.getD b V) (HJ:=aq) λC x p _=>by
       have ab:C<i:=by have:=(lX.1 p).1;omega
       rw[nh,bT ab]at p;rw[kx];exact⟨ay C (by omega),λD=>aW C x p (by rw[ay C (by omega)]at D;exact D)⟩]
     rw[bU q];refine Ku λC x p G=>?_;rw[kx];have ab:C≠i:=λj=>by subst j;rw[O]at p;cases p;exact q G
     exact⟨ay C ab,λD=>aW C x p (by rw[ay C ab]at D;exact D)⟩
    rw[bZ]
    refine bY.less λt ac D=>?_
    rcases WC D with⟨b,y,m,H,ag,au⟩|⟨m,aP⟩
    ·rw [kx]at H au
     by_cases aX:b=i
     ·subst aX
      rw[O]at m
      cases m
      exact⟨ac,by rw[ag,au];simp[rC,look,Jl],λ_ _ _ e=>e⟩
     rw[ay b aX]at H
     rw[aW b y m H]at au
     have B:=Pz (ls:=λi=>f.getD i V) (aq:=aq) (E:=E) (k:=0) m (by rw[kx];exact H) ag λC z ab ai=>aT C b t z y ab m ai ag
     rw[kx,<-au]at B
     refine⟨ac,?_,λ_ _ _ e=>e⟩
     cases aY:e.slot with
     |none=>exact B
     | some M=>
       have aZ:ce M t=V:=by
        cases A:ce M t
        ·rfl
        have:=kb.1 A;subst this;exact absurd (aT b i M y e m O ag aY) aX
       simp only[rC,look,aZ,cond_false]
       exact B
    have A:=bo t ac m
    have B:=Pj (ls:=λi=>f.getD i V) (aq:=aq) (E:=E) (k:=0) A
    refine⟨ac,?_,λ_ _ _ e=>e⟩
    cases aY:e.slot with
    |none=>simp only[rC];rw[B];exact m
    | some M=>
      have aZ:ce M t=V:=by
       cases b2:ce M t
       ·rfl
       have:=kb.1 b2;subst this;exact absurd aY (aP i e O (by rw[kx];exact br))
      simp only[rC,look,aZ,cond_false]
      rw[B];exact m
   ·rcases XM D with⟨b,q,y,m,H,ag⟩|m
    ·have B:=Pz (ls:=λi=>f.getD i V) (aq:=aq) (E:=E) (k:=0) m (by rw[kx];exact bh b q) H λC z ab ai=>aT C b t z y ab m ai H
     rw[kx,<-ag]at B
     exact B
    rw[Pj (bo t ac m)];exact m
   rw[Lo]at q⊢
   rw[<-q]
   conv=>lhs;rw[bm]
   rw[OY,Ph]
   ·refine Ku λC x p G=>?_
    rw[kx]
    have ab:C<i:=by have:=(lX.1 p).1;omega
    rw[nh,bT ab]at p
    exact⟨bh C ((bg C x p).1 ab ⟨b,by simpa using G,aF⟩),λ_=>rfl⟩
   intro C x p G
   rw[bn,kx]
   cases C with
   |zero=>exact ar
   | succ C=>
     simp only[co]at p
     rw[pr]at p
     exact bi (i+(C+1)) x (by rw[<-p];congr 1;omega) (by omega) ⟨b,by simpa using G,.inl aF⟩
def ar.Lr{j:Nat}{l:R bA}(n:Nat){np:Nat}(m:c.P.follows .mixedOrders=U)(aR:R ee)(e:R (aw Nat×R Nat×R Nat×R Nat))(f:R Nat)(o:lB aR=e)(p:E.map (·.1)=f)(q:Gv.rv l.toArray n e f=U)(r:∀b∈aR,∀d∈b.wr,d<np∨T L<=d)
 (H:qn c l.toArray Q aR E L np 0 (l.take n) aR) (A:∀aq,aa c l.toArray Q (l.drop n) (jj (λ_=>U) aq E 0 aR) (hi (λ_=>U) aq 0 aR L)):ar c Q (.region j l.toArray U) E L:=λa g B=>by
 subst o p
 refine wpIn_region_any m ?_
 have aQ:n<=l.toArray.size:=by
  simp_all[Gv.rv,hx,ik]
 have C:HeadInv .any l.toArray n (cn l.toArray.size V):=
  {size:=by simp
   closed:=λd I _ J=>by grind[getD_replicate_false]
   tail:=λt _ A=>by simp_all}
 have b:=ag4 r (ops:=l.toArray) (Q:=Q) q (by omega) (by omega) n (cn l.toArray.size V) (λ_ _=>Y) a g.drew (mK (Ik _ _) (by simp)) C ?_
 ·simp_all
 have D:∀(aR:R ee) (k:Nat),jj (λi=>(cn l.toArray.size V).getD i V) (λ_ _=>Y) E k aR=E:=by
  intro aR;induction aR with
  |nil=>intro k;rfl
  | cons b F h=>
    grind[getD_replicate_false,jj]
 have G:∀(aR:R ee) (k:Nat) (L:R aK),hi (λi=>(cn l.toArray.size V).getD i V) (λ_ _=>Y) k aR L=L:=by
  intro aR;induction aR with
  |nil=>intro k L;rfl
  |cons b F h=>intro k L;rw[hi,h];simp only[getD_replicate_false,cond_false]
 rw[D,G]
 exact B.world (eo g)
def ar.asC{g:Nat}{l:R bA}{a:R (aw Nat×R Nat×R Nat×R Nat)}(n e:Nat)(hm:c.P.follows .mixedOrders=U)(aR:R ee)(b:R Nat)
 (h:qn c l.toArray Q aR E L e 0 (l.take n) aR) (i:∀aq,aa c l.toArray Q (l.drop n) (jj (λ_=>U) aq E 0 aR) (hi (λ_=>U) aq 0 aR L))
 (f:lB aR=a:=by rfl) (j:E.map (·.1)=b:=by rfl) (k:Gv.rv l.toArray n a b=U:=by kernel_rfl) (m:(a.all λd=>d.2.2.2.all λo=>cd o e)=U:=by kernel_rfl):ar c Q (.region g l.toArray U) E L:=
 ar.Lr n hm aR a b f j k (ZZ f m) h i
def ar.ab0{g:Nat}{l:R bA}{a:R (aw Nat×R Nat×R Nat×R Nat)}(e:Nat)(hm:c.P.follows .mixedOrders=U)(aR:R ee)(b:R Nat)
 (n:qn c l.toArray Q aR E L e 0 l aR) (h:∀aq,af c Q .normal (jj (λ_=>U) aq E 0 aR) (hi (λ_=>U) aq 0 aR L))
 (f:lB aR=a:=by rfl) (i:E.map (·.1)=b:=by rfl) (j:Gv.rv l.toArray (T l) a b=U:=by kernel_rfl) (k:(a.all λd=>d.2.2.2.all λm=>cd m e)=U:=by kernel_rfl):ar c Q (.region g l.toArray U) E L:=
 ar.Lr (T l) hm aR a b f i j (ZZ f k) (by simp_all) (λaq=>by rw[sa];exact aa.nil (h aq))
def ar.MG{d:Nat}{l:R bA}{a:R (aw Nat×R Nat×R Nat×R Nat)}(hm:c.P.follows .mixedOrders=U)(aR:R ee)(b:R Nat)
 (e:wu c l.toArray Q aR E L 0 l aR) (f:∀aq,af c Q .normal (jj (λ_=>U) aq E 0 aR) (hi (λ_=>U) aq 0 aR L))
 (g:lB aR=a:=by rfl) (h:E.map (·.1)=b:=by rfl) (i:Gv.rv l.toArray (T l) a b=U:=by kernel_rfl):ar c Q (.region d l.toArray U) E L:=
 ar.Lr (np:=T L) (T l) hm aR a b g h i (λ_ _ j _=>by omega) (by rw[mJ];exact e.HK) (λaq=>by rw[sa];exact aa.nil (f aq))
def rg:Nat->Nat->R (aw Nat)
 |_,0=>[]
 |a,n+1=>S a::rg (a+1) n
def ag.bV{b c:aB}{ak:aw b}{k:b->ag c}{d:c->Prop}{P:Prop}(a:ag.bind (ag.of ak) k d)(g:∀y,ak=S y->k y d->P):P:=(ag.akF a).elim λy a=>g y a.1 a.2
def ag.ex{a c:aB}{d:ag a}{k:a->ag c}{e:c->Prop}(b:ag.bind d k e):∃f:a->Prop,d f∧∀g,f g->k g e:=⟨_,b,λ_ b=>b⟩
end
def bn.law{P:cV}{c:FuncId}{e:R J}{b1:aB}[eA b1]{b:aI×aL b1->Prop}{g: {a:aI×aL b1 // b a}×bG->R aK}(h:bn P c e ([]++bc ([]:aL b1)) (λd: {a:aI×aL b1 // b a}×bG=>ci d.1.1.1) g)(o:∀a,b a->a.1=U):cf P c e (ci U):=by
 intro i j l m p;refine(h i j l (λk f=>⟨m k f,by simp[bc,aP]⟩) (by simp[bc,aP]) (λk f=>by simp_all[bc,aP]) (λn q=>by simp_all[bc]) (by simp_all[bc,aP])).mono ?_;intro n r ⟨A,d,B,C,_,_,_,D⟩;grind[bc,aP,of_bool]
def HG(a:Prop)[Decidable a]:aw bG:=if a then S ()else Y
def ag.arU{b:aB}{a:Prop}[Decidable a]{k:bG->ag b}{c:b->Prop}(d:ag.bind (ag.of (HG a)) k c):a:=by
 obtain⟨e,f,_⟩:=d;simp_all[HG]
def ag.aqd{a:aB}{b:Prop}[Decidable b]{k:bG->ag a}{c:a->Prop}(d:ag.bind (ag.of (HG b)) k c):k () c:=by
 obtain⟨f,_,e⟩:=d;exact e
section
variable{c:cX}{E:R (Nat×J)}{L:R aK}{ops:bE bA}{Q:cK->cg->bj->Prop}
end
def A1(n:Nat)(b:R Nat):aw Nat->Prop
 |none=> ∀a,a<n->a∈b
 |some a=>a<n∧a∉b
def ag.next(n:Nat)(b:R Nat):ag (aw Nat):=λc=> ∀a,A1 n b a->c a
def ag.VJ{b:aB}{n:Nat}{c:R Nat}{k:aw Nat->ag b}{d:b->Prop}(e:ag.bind (ag.next n c) k d)(a:aw Nat)(f:A1 n c a):k a d:=e a f
def qp(a:bE MapEntry)(b:R Nat):bE Nat:=(b.filterMap λc=>(a[c]?).map (·.born)).toArray
def mZ(b:Nat)(c:bE MapEntry)(a:Nat)(d:R Nat):Obj:=.mapIter (S b) a (qp c d) a
structure MN(es:Array MapEntry)(clock n:Nat):Prop where
 size:es.size=n
 born:∀x∈es.toList,x.born<clock
 nodup:(es.toList.map MapEntry.born).Nodup
def ft.and(gg:ft)(ak:Obj):ft where
 holds A W x:=gg.holds A W x∧x=ak
 oX:=gg.oX
 mono e h:=⟨gg.mono e h.1,h.2⟩
def wN(b:Nat)(ak:Obj)(a:aK):aK:=if a.key=S b then⟨a.key,a.gg.and ak⟩else a
def nF(b:Nat)(ak:Obj)(L:R aK):R aK:=L.map (wN b ak)
def aiY(b:Nat)(ak:Obj)(a:aK):(wN b ak a).key=a.key:=by grind[wN]
def QD{b:Nat}{ak:Obj}:∀{L:R aK},aP (nF b ak L)=aP L
 |[]=>rfl
 | a::L=>by
   have c:=QD (b:=b) (ak:=ak) (L:=L);show aP (wN b ak a::nF b ak L)=_;simp_all[aP,aiY]
def J.abC(b:aI):J where
 holds _ _ v:=∃xs:bE bt,v=.tuple xs∧xs[0]? =S (.bool b)
 mono _ h:=h
section
variable{c:cX}{E:R (Nat×J)}{L:R aK}{ops:bE bA}{Q:cK->cg->bj->Prop}
variable{d:aw Tmp}{ty:bH}{pos:String}{a1:bE Edge}{g:aw (Nat×aI)}{x y z:cx}{t t2:bH}
variable{b1:aB}[eA b1]{aC:aL b1}{loc:R aK}
def aiK{a:aw Nat}{n m b:Nat}(aQ:n=m)(d:aN c E L x (.eq (aH a n b))):aN c E L x (.eq (aH a m b)):=aQ▸d
def Ll{b:Nat}{ak:Obj}{c d:aB}[ah c][ah d]{a:R (c×d)}{e:b1}(n:Nat)(i:L.drop n=Gv.nF b ak (bc aC))(f:pat aC b=S e)(g:eA.gD b e=[⟨S b,.map a⟩]):(⟨S b,ft.and (.map a) ak⟩:aK)∈L:=by
 have h:(⟨S b,.map a⟩:aK)∈bc aC:=je (n:=0) (aC:=aC) o f g;have j:wN b ak ⟨S b,.map a⟩∈Gv.nF b ak (bc aC):=lk.2 ⟨_,h,rfl⟩;grind[wN]
def b0.swap{e:R aK}{a:cg}{f:bj}(b:b0 c E L a f)(d:aP e=aP L)(h:∀g∈e,g.ok (aP L++c.cv) f):b0 c E e a f:=
 {defers:=b.defers
  size:=b.size
  env:=by rw[d];exact b.env
  ey:=b.ey
  own:=by simp_all
  nodup:=by rw[d];exact b.nodup
  lt:=by rw[d];exact b.lt
  gl:=by rw[d];exact b.gl
  eW:=by rw[d];exact b.eW}
def b0.nF{a:cg}{e:bj}{h:R aK}(f:b0 c E (loc++h) a e){b:Nat}{ak:Obj}(p:e.heap[b]? =S ak):b0 c E (loc++Gv.nF b ak h) a e:=by
 refine f.swap (by simp_all[fF,QD]) λj d=>?_;rcases eN.1 d with d|d
 ·exact f.own j (En _ d)
 obtain⟨k,l,rfl⟩:=lk.1 d;have g:=f.own k (Bh _ l);unfold wN;split
 ·rename_i m;unfold aK.ok at g⊢;simp only[m]at g⊢;obtain⟨i,n,o⟩:=g;have:i=ak:=by simp_all
  exact⟨i,n,o,this⟩
 omega
def b0.Dj{a:cg}{i:bj}{f:R aK}{b:Nat}{ak:Obj}(g:b0 c E (loc++Gv.nF b ak f) a i):b0 c E (loc++f) a i:=by
 have j:aP (loc++f)=aP (loc++Gv.nF b ak f):=by simp_all[fF,QD]
 refine g.swap j λh d=>?_;rcases eN.1 d with d|d
 ·exact g.own h (En _ d)
 have e:=g.own (wN b ak h) (Bh _ (lk.2 ⟨h,d,rfl⟩));unfold wN at e;split at e
 ·rename_i k;unfold aK.ok at e⊢;simp only[k]at e⊢;obtain⟨l,m,n,_⟩:=e;simp_all
 omega
def aa.Dj{l:R bA}{b:Nat}{ak:Obj}(n:Nat)(g:L.drop n=Gv.nF b ak (bc aC))(k:aa c ops Q l E (L.take n++bc aC)):aa c ops Q l E L:=λa e d=>by
 have f:L=L.take n++Gv.nF b ak (bc aC):=by grind[Z]
 rw[f]at d;exact k a e d.Dj
def af.Dj{z:cK}{b:Nat}{ak:Obj}(n:Nat)(g:L.drop n=Gv.nF b ak (bc aC))(k:af c Q z E (L.take n++bc aC)):af c Q z E L:=λa e d=>by
 have f:L=L.take n++Gv.nF b ak (bc aC):=by grind[Z]
 rw[f]at d;exact k a e d.Dj
def lC.get{c d:aB}[ah c][ah d]{e f}:∀{g:R MapEntry} {h:R (c×d)},lC e f g h->∀{j:Nat} {x:c×d},h[j]? =S x->∃a,g[j]? =S a∧(ci x.1).holds e f a.key∧(ci x.2).holds e f a.val
 |_,_,.nil,j,x,b=>by simp at b
 | _,_,.cons k l i,0,x,b=>by
   grind
 | _,_,.cons k l i,j+1,x,b=>by
   obtain⟨a,m,n⟩:=i.get (j:=j) (by simpa using b);simp_all
def aa.Yp{h:R bA}{a8 b r A:Nat}{au b7:aB}[ah au][ah b7]{jt:R (au×b7)}{i:b1}(n:Nat)(ad:L.drop n=bc aC)(B:c.P.underlying t=S (.map r A))(C:aN c E L x (.of (⟨S b⟩:gb)))(D:pat aC b=S i)(F:eA.gD b i=[⟨S b,.map jt⟩])(aQ:cd a8 c.n=U)
 (k:∀j d e,MN d e jt.length->aa c ops Q h ((a8,.eq (.pointer (S ⟨j,0,Y⟩)))::E) (⟨S j,.is (mZ b d e [])⟩::(L.take n++Gv.nF b (.map d e) (bc aC)))):
 aa c ops Q (⟨S a8,.range t x,ty,pos,a1,Y⟩::h) E L:=λa f g=>by
 have l:L=L.take n++bc aC:=by grind[Z]
 have G:(⟨S b,.map jt⟩:aK)∈L:=by
  rw[l];exact je (n:=(L.take n).length) (aC:=aC) (by simp) D F
 obtain⟨d,e,H,I,J,K⟩:=g.Hj G
 have M:=xU.1 (C a f g)
 have N:MN d e jt.length:=⟨by have:=I.length;omega,J,K⟩
 refine jb o (hh:=λm p=>m=.pointer (S ⟨f.heap.size,0,Y⟩)∧p=f.alloc (mZ b d e [])) (.lK ?_ ⟨rfl,rfl⟩) λm p ⟨O,P⟩=>?_
 ·have ab:(getObj b).run c.P f=.ok (.map d e) f:=by grind[getObj,c2]
  simp[execOp,Instr.range,eH,dZ B,M,ab,newObj,c2]
  rfl
 subst O
 subst P
 have q:=g.alloc (gg:=.is (mZ b d e [])) (ak:=mZ b d e []) o
 refine k f.heap.size d e N _ _ (d8 ?_ (by simpa using aQ) o)
 rw[l]at q
 have ac:(f.alloc (mZ b d e [])).heap[b]? =S (.map d e):=by
  have ae:b<f.heap.size:=(Bc.1 H).1;show(f.heap.push _)[b]? =_;grind
 exact b0.nF (loc:=⟨S f.heap.size,.is (mZ b d e [])⟩::L.take n) q ac
def aa.Zq{H:R bA}{a8 l h:Nat}{I J:aB}[ah I][ah J]{jt:R (I×J)}{b:bE MapEntry}{g:Nat}{e:R Nat}(i:Nat)(ab:aN c E L x (.eq (.pointer (S ⟨l,0,Y⟩))))(K:L[i]? =S ⟨S l,.is (mZ h b g e)⟩)
 (ac:(⟨S h,ft.and (.map jt) (.map b g)⟩:aK)∈L) (q:MN b g (T jt)) (aQ:cd a8 c.n=U)
 (k:∀d,A1 (T jt) e d->aa c ops Q H ((a8,.abC d.isSome)::E) (L.set i ⟨S l,.is (mZ h b g (e++d.toList))⟩)):
 aa c ops Q (⟨S a8,.next x V,ty,pos,a1,Y⟩::H) E L:=λa r m=>by
 have ad:a.eval x=_:=ab a r m
 obtain⟨av,ae,⟨_,af⟩⟩:=m.own _ ac
 subst af
 obtain⟨ag,ai,B⟩:=m.own _ (fM K)
 have B:ag=mZ h b g e:=B
 subst B
 have aw:∀{d:Nat} {f:MapEntry},b[d]? =S f->(qp b e).contains f.born=U->d∈e:=λ{d f} A C=>by
  unfold qp at C;simp only[List.contains_toArray,S4,Tp]at C;obtain⟨j,n,M⟩:=C;cases aj:b[j]? with
  |none=>simp_all
  | some ak=>
    rw[aj]at M
    have M:ak.born=f.born:=by simp_all
    have N:d<T b.toList:=by grind
    have ax:j<T b.toList:=by grind
    have al:(b.toList.map MapEntry.born)[d]? =S f.born:=by simp[A]
    have am:(b.toList.map MapEntry.born)[j]? =S f.born:=by simp_all
    have:=(List.getElem?_inj (by simp_all) q.nodup).1 (al.trans am.symm)
    simp_all
 rcases run_next_at (P:=c.P) r ty l h g g (qp b e) b g ai ae q.born (jT _)with⟨ay,D⟩|⟨f,az,sX,an,D⟩
 ·
  have F:A1 (T jt) e Y:=λd A=>by
   have ao:d<b.size:=by rw[q.size];exact A
   simp_all[leftOf,Tg,uk]
  refine jb o (hh:=λj p=>j=.tuple #[.bool V]∧p=r) (.lK (v:=.tuple #[.bool V]) ?_ ⟨rfl,rfl⟩) λj p ⟨n,G⟩=>?_
  ·simp_all[execOp,eH,a']
  subst n G
  have O:=k Y F
  have ap:L.set i ⟨S l,.is (mZ h b g (e++Option.toList Y))⟩=L:=by
   apply ni;grind
  rw[ap]at O
  exact O _ _ (d8 m (by simp_all) ⟨_,rfl,rfl⟩)
 have aq:f∈b.toList∧(qp b e).contains f.born=V:=by
  simp_all[leftOf,Tg,uk,xf]
 obtain⟨d,A⟩:=ow.1 aq.1
 have ao:b[d]? =S f:=by simp_all
 have N:d<T jt:=by rw[<-q.size];grind
 have F:A1 (T jt) e (S d):=⟨N,λn=>by
  grind[qp]⟩
 have ar:(qp b e).push f.born=qp b (e++[d]):=by
  simp_all[qp,S6]
 rw[ar]at D
 refine jb o (hh:=λj p=>j=.tuple #[.bool U,f.key,f.val]∧p=sX.putObj l (mZ h b g (e++[d]))) (.lK (v:=.tuple #[.bool U,f.key,f.val]) ?_ ⟨rfl,rfl⟩) λj p ⟨n,G⟩=>?_
 ·simp only[execOp,ad,eH,D,a'];rfl
 subst n G
 have au:b0 c E L a sX:=by
  rcases an with rfl|rfl
  ·exact m
  exact m.world (eo r)
 exact k (S d) F _ _ (d8 (au.tH K (iv:=.is (mZ h b g (e++[d]))) (rN:=mZ h b g (e++[d])) o) (by simp_all) ⟨_,rfl,rfl⟩)
def Yq{b:aI}(e:aN c E L x (.abC b)):aZ c E L ⟨d,.extract x 0,ty,pos,a1,g⟩ (.of b):=.pure λa f h=>by
 obtain⟨i,j,k⟩:=e a f h;refine⟨.bool b,?_,of_bool.2 o⟩;simp_all[execOp,Instr.extract]
def Wt{l k:Nat}{m n:aB}[ah m][ah n][Inhabited m][Inhabited n]{jt:R (m×n)}{b:bE MapEntry}{f:Nat}{sN:R Nat}{o:aw Nat}{e:Nat}(i:Nat)(A:aN c E L x (.eq (.pointer (S ⟨l,0,Y⟩))))(B:L[i]? =S ⟨S l,.is (mZ k b f (sN++o.toList))⟩)
 (C:(⟨S k,ft.and (.map jt) (.map b f)⟩:aK)∈L) (D:MN b f (T jt)) (F:A1 (T jt) sN o) (G:o=S e):
 aZ c E L ⟨d,.entry x,ty,pos,a1,g⟩ (.bO [.of (al jt e).1,.of (al jt e).2]):=.pure λa p q=>by
 subst G
 have ad:a.eval x=_:=A a p q
 obtain⟨ae,H,⟨af,ag,I,J,ai,aj⟩,K⟩:=q.own _ C
 subst K
 cases I
 obtain⟨M,N,r⟩:=q.own _ (fM B)
 have r:M=mZ k b f (sN++[e]):=r
 subst r
 have ak:e<T jt:=F.1
 obtain⟨h,O,Q,aa⟩:=J.get (j:=e) (x:=al jt e) (by simp_all[dI])
 have am:b[e]? =S h:=by simp_all
 have ab:qp b (sN++[e])=(qp b sN).push h.born:=by
  simp_all[qp,S6]
 have ac:p.heap[l]? =S (.mapIter (S k) f ((qp b sN).push h.born) f):=by rw[<-ab];exact N
 have an:=run_entry_at (P:=c.P) p l k f (qp b sN) b f h ac H (fM O) D.nodup
 refine⟨.tuple #[h.key,h.val],?_,_,rfl,.cons Q (.cons aa .nil)⟩
 simp_all[execOp,eH,a']
end
end Gv
namespace Gv
open Go Go.Proofs Go.Sort
open Option renaming some->S,none->Y
open List renaming length->T
open Bool renaming true->U
open J renaming of->ci
open _root_.Array renaming length_toList->cO,ofFn->d7
open Nat renaming sub_zero->dN
def J.HD{au:aB}[ah au](P:cV)(F:au->au->aw Int):J where
 holds A W v:=∃f cap,v=.func (.func f) #[] cap∧bk P f∧∀fh dE,Ext A W fh dE->(∀k∈fh,k<dE.heap.size)->∀x y r yJ H7,F x y=S r->(ci x).holds fh dE yJ->(ci y).holds fh dE H7->
  Calls P f (#[yJ,H7]++cap) dE λe tT=> ∃v,e=.returned v∧Fr [] dE tT∧(ci r).holds fh tT v
 mono e h:=let⟨f,cap,h1,fx,iX⟩:=h; ⟨f,cap,h1,fx,λfh dE vo=>iX fh dE (e.trans vo)⟩
def Wu{c:cX}{E:R (Nat×J)}{L:R aK}{e:aB}[ah e]{F:e->e->aw Int}{b:FuncId}(f:bk c.P b)(g:∀x y d,F x y=S d->cf c.P b [.of x,.of y] (.of d)):aN c E L (.func b) (.HD c.P F):=λa p q=>
 ⟨b,#[],rfl,f,λh i _ j x y d k l m n o=>by simpa using g x y d m h i [k,l] j (.cons n (.cons o .nil))⟩
def aiZ{a c:bj}(d:Fr [] a c):∃e f,c=grow (a.drewN e) f:=by
 obtain⟨b,aC⟩:=regrown_of_below d.below;have aq:=d.drawn;rw[aC]at aq;have aq:a.drawn<=b.d:=aq;refine⟨b.d-a.drawn,b.os,?_⟩;rw[aC];unfold redrawn World.drewN;congr 2;omega
structure yE{au:Type}(c:au->au->Int):Prop where
 neg:∀x y,c x y<0↔0<c y x
 lV:∀x y z,c x y<=0->c y z<=0->c x z<=0
def yE.swo{au:aB}{c:au->au->Int}(h:yE c):SWO (ltOf c)where
 irrefl x:=by
  unfold ltOf;rw[qb];intro h1;have:=(h.neg x x).1 h1;omega
 trans x y z h1 fx:=by
  unfold ltOf at *;rw[ik]at *;have sS:=h.lV x y z (by omega) (by omega);by_cases iX:c x z<0
  ·exact iX
  have nJ: ¬0<c z x:=λnM=>iX ((h.neg x z).2 nM);have nM:=h.lV y z x (by omega) (by omega);have:=(h.neg x y).1 h1;omega
 ntrans x y z h1 fx:=by
  unfold ltOf at *;rw[qb]at *;have pY: ¬0<c y x:=λiX=>h1 ((h.neg x y).2 iX);have yH: ¬0<c z y:=λiX=>fx ((h.neg y z).2 iX);have ab1:=h.lV z y x (by omega) (by omega);intro iX;have:=(h.neg x z).1 iX;omega
def yE.on{a d:aB}{c:a->a->Int}(b:yE c)(g:d->a):yE (λx y=>c (g x) (g y)):=⟨λx y=>b.neg _ _,λx y z=>b.lV _ _ _⟩
def mz(k:Nat)(cs:bE bt)(i:Nat):R bt:=(cs.toList.drop (i*k)).take k
def XQ{k:Nat}{cs:bE bt}{i a:Nat}(c:a<k)(d:i*k+a<cs.size):(mz k cs i)[a]! =cs[i*k+a]:=by
 have b:a<T (mz k cs i):=by
  unfold mz;rw[oz,qT,cO];omega
 rw[getElem!_pos _ a b];have:(mz k cs i)[a]? =cs[i*k+a]? :=by
  unfold mz;rw[nh,bT c,pr,Nd]
 rw[vt b,M3 d]at this;exact I0 this
def ag5{n k e:Nat}[Inhabited (Fin n)]{c:bj}{cs:bE bt}{t:bH}(f:c.heap[e]? =S (.cells cs t (0,0)))(r:n*k<=cs.size)(d:bE (Fin n))(aq:d.size=n)(h:∀i (j:i<n),d[i]! =⟨i,j⟩):HoldsK (λi:Fin n=>mz k cs i.1) k c e 0 d:=by
 intro a b;have b:a<d.size*k:=by simpa using b
 have g:a<n*k:=by rw[<-aq];exact b
 have l:0<k:=Ey λm=>by rw[m]at g;omega
 have o:a/k<n:=Te (by rw[vH];exact g);have p:=FJ a l;have q:a/k*k+a % k=a:=by rw[vH];exact ET a k
 constructor
 ·rw[get_flatK _ _ _ _ b,h _ o];show c.cell? _=S ((mz k cs (a/k))[a % k]!);rw[XQ p (by omega)];unfold World.cell?;simp only[f,kx,q];simp
 unfold World.frozen?;simp[f]
def U5{n k b m:Nat}[Inhabited (Fin n)]{a:bj}{cs:bE bt}{t:bH}(aC:b<a.heap.size)(g:a.heap[b]? =S (.cells cs t (0,0)))(e:Fin n->R bt)(d:bE (Fin n))(f:bE Obj):
 (sortWorldK e k a b 0 m d f).heap[b]? =S (.cells (putCells id 0 (flatK e k d) cs) t (0,0))∧(∀c,c<a.heap.size->c≠b->(sortWorldK e k a b 0 m d f).heap[c]? =a.heap[c]?)∧a.heap.size<=(sortWorldK e k a b 0 m d f).heap.size:=by
 unfold sortWorldK grow putRowK putRow mapBlock
 refine⟨?_,λc h i=>?_,?_⟩
 ·rw[Ih (by simpa[Sort.ahead]using aC),S2]
  simp[Sort.ahead,g,onCells]
 ·rw[Ih (by simpa[Sort.ahead]using h),S2]
  simp[Sort.ahead,Cm i]
 simp[Sort.ahead]
def VU{n k a c:Nat}[Inhabited (Fin n)]{b:bj}{cs:bE bt}{t:bH}(aC:a<b.heap.size)(g:b.heap[a]? =S (.cells cs t (0,0)))(e:Fin n->R bt)(d:bE (Fin n))(f:bE Obj):Fr [a] b (sortWorldK e k b a 0 c d f):=by
 obtain⟨_,h,i⟩:=U5 (k:=k) (m:=c) aC g e d f;exact⟨rfl,rfl,rfl,Nat.le_add_right _ _,i,λj l o=>h j l (by simpa using o)⟩
def KG{F cs:bE bt}:(putCells id 0 F cs).size=cs.size:=by unfold putCells;simp
def alR{n k i a:Nat}(b:i<n)(c:a<k):i*k+a<n*k:=by
 have:=ij k (show i+1<=n from b);rw[oE,Ot]at this;omega
def akI{n k i:Nat}{cs:bE bt}(b:n*k<=cs.size)(a:i<n):T (mz k cs i)=k:=by
 have:=ij k (show i+1<=n from a);rw[oE,Ot]at this;unfold mz;rw[oz,qT,cO];omega
def ag6{n k i:Nat}[Inhabited (Fin n)]{cs:bE bt}{b:Fin n->R bt}(f:∀x,T (b x)=k){d:bE (Fin n)}(aq:d.size=n)(h:n*k<=cs.size)(g:i<n):mz k (putCells id 0 (flatK b k d) cs) i=b d[i]! :=by
 apply EJ
 ·rw[akI (by rw[KG];exact h) g,f]
 intro a j e;have c:a<k:=by rw[f]at e;exact e
 have l:=alR g c;have m:0<k:=by omega
 have o:i*k+a<d.size*k:=by rw[aq];exact l
 have p:(i*k+a)/k=i:=by rw[vH,Nat.mul_add_div m,NJ c];omega
 have q:(i*k+a) % k=a:=by rw[vH,Nat.mul_add_mod,IQ c]
 rw[<-getElem!_pos _ a j,XQ c (by rw[KG];omega),<-getElem!_pos (b d[i]!) a e];unfold putCells;rw[Array.getElem_mapIdx,bT ⟨zC _,by rw[size_flatK];omega⟩,dN,get_flatK _ _ _ _ o,p,q];rfl
def ai0{a:Nat}{cs:bE bt}(b:a<=cs.size):T (cs.toList.take a)=a:=by rw[oz,cO];omega
def XR{b:aB}(a:bE b){n:Nat}(c:a.size=n):a.extract 0 n=a:=by subst c;simp
def WJ{n k i:Nat}{cs:bE bt}(a:i<n):((cs.toList.take (n*k)).drop (i*k)).take k=mz k cs i:=by
 have:=ij k (show i+1<=n from a);rw[oE,Ot]at this;rw[vD,sb,show min k (n*k-i*k)=k by omega];rfl
set_option maxHeartbeats 1000000 in
open Go.Shelf in
def aoZ{f:aB}[ah f]{P:cV}{O:Ren}(L:SlLaysF0.n6 P O)(aD:∀w,(isAgg (O.t 24)).run P w=.ok U w)(aE:∀w,(Go.sizeOf (O.t 24)).run P w=.ok (ah.size f) w)(aF:ah.agg f=U){t:bH}{e:R f}{F:f->f->aw Int}{c:f->f->Int}(ap:yE c)
 (aG:∀a∈e,∀b∈e,F a b=S (c a b)) (a8:T e<4611686018427387904) {I:aw Nat} {r:Nat}:
 bn P (O.f 6) [.eq (aH I (T e) r),.HD P F] [⟨I,.row t e r⟩] (aX:= {ek:R f // ek.Perm e∧ek.Pairwise (λa b=>c a b<=0)}) (λ_=>.bO []) (λd=>[⟨I,.row t d.1 r⟩]):=by
 intro B p a9 aq a_ aI ar E
 cases E with
 | cons ad E=>cases E with
   | cons Q E=>cases E with
     | nil=>
       rename_i aJ ba
       have ad:aJ=aH I (T e) r:=ad
       obtain⟨aa,ab,rfl,aK,aL⟩:=Q
       subst ad
       cases I with
       | none=>
         have aM:e=[]∧r=0:=ar ⟨Y,.row t e r⟩ (by simp)
         obtain⟨rfl,rfl⟩:=aM
         refine(AnyF.slices_SortFunc_none L Y 0 (.func (.func aa) #[] ab) p).mono ?_
         rintro C ae ⟨rfl,rfl⟩
         exact⟨_,⟨[],.refl _,.nil⟩,rfl,Fr.refl _ _,by simp[aP],by simp[aP],λC A=>by simp at A;subst A;exact⟨rfl,rfl⟩,⟨_,rfl,.nil⟩⟩
       | some g=>
         obtain⟨ak,K,cs,rfl,af,ag,au,av⟩:∃ak,p.heap[g]? =S ak∧(ft.row t e r).holds (aP [⟨S g,.row t e r⟩]++B) p ak:=ar ⟨S g,.row t e r⟩ (by simp)
         have aC:g<p.heap.size:=aI g (by simp[aP])
         have aN:∀D∈g::B,D<p.heap.size:=λD l=>by
          rcases fj.1 l with rfl|l
          ·exact aC
          exact(aq D l).1
         have ax:g∉B:=λn=>(aq g n).2 (by simp[aP])
         by_cases aO:T e=0
         ·obtain rfl:e=[]:=M6.1 aO
          refine(AnyF.slices_SortFunc_none L (S ⟨g,0,Y⟩) r (.func (.func aa) #[] ab) p).mono ?_
          rintro C ae ⟨rfl,rfl⟩
          refine⟨_,⟨[],.refl _,.nil⟩,rfl,Fr.refl _ _,by simp[aP],λD l=>?_,λC A=>?_,⟨_,rfl,.nil⟩⟩
          ·simp[aP]at l;subst l
           exact⟨aC,λ_=>by simp[aP],ax⟩
          simp at A;subst A
          exact⟨_,K,cs,rfl,af,ag,au,av⟩
         have aQ:0<T e:=by omega
         letI:Inhabited (Fin (T e)):=⟨⟨0,aQ⟩⟩
         have ai:T e*ah.size f<=cs.size:=by rw[af];exact ij _ ag
         have M:∀i (n:i<T e),ah.rep (g::B) p (mz (ah.size f) cs i) e[i]:=λi n=>by
          have:=av.2 i n;rw[WJ n]at this;exact this
         have H:(d7 λi:Fin (T e)=>i).size=T e:=by simp
         have aj:∀i (n:i<T e),(d7 λi:Fin (T e)=>i)[i]! =⟨i,n⟩:=λi n=>by
          rw[getElem!_pos _ i (by simp;exact n)];simp
         generalize (d7 λi:Fin (T e)=>i)=d at H aj
         have aR:=ag5 K ai d H aj
         have aS:SWO (ltOf λx y:Fin (T e)=>c e[x.1] e[y.1]):=(ap.on λi:Fin (T e)=>e[i.1]).swo
         have ac:∀o h q,Ext (g::B) p (g::B) (sortWorldK (λi:Fin (T e)=>mz (ah.size f) cs i.1) (ah.size f) p g 0 o q h):=λo h q=>Ext.ZX (VU aC K _ q h) λD l=>by simp at l;subst l;exact jS
         have ay:∀o h q (i:Fin (T e)),(ci e[i.1]).holds (g::B) (sortWorldK (λi:Fin (T e)=>mz (ah.size f) cs i.1) (ah.size f) p g 0 o q h) (.agg (mz (ah.size f) cs i.1).toArray):=λo h q i=>
          ⟨by rw[aF];exact⟨_,rfl⟩,ah.mono (ac o h q) (M i.1 i.2)⟩
         have aT:CmpLays P aa ab (λi:Fin (T e)=>mz (ah.size f) cs i.1) (ah.size f) (λx y:Fin (T e)=>c e[x.1] e[y.1]) g 0 d.size p:=λo h q bb x y=>
          (aL (g::B) _ (ac o h q) (λD l=>qQ (aN D l) (ac o h q).size) _ _ _ _ _ (aG _ (sZ x.2) _ (sZ y.2)) (ay o h q x) (ay o h q y)).mono λC ae ⟨az,A,aU,E⟩=>⟨by rw[A,of_int.1 E],aiZ aU⟩
         have aV:∀x:Fin (T e),T (mz (ah.size f) cs x.1)=ah.size f:=λx=>ah.len (M x.1 x.2)
         have aW:∀x:Fin (T e),∀az∈mz (ah.size f) cs x.1,az.oneCell'=U:=λx=>ah.one (M x.1 x.2)
         have aY:d.size<4611686018427387904:=by omega
         have n:=AnyQ.slices_SortFunc L (ah.size f) aD aE (λi:Fin (T e)=>mz (ah.size f) cs i.1) aV aW (λx y:Fin (T e)=>c e[x.1] e[y.1]) aS aa ab g 0 r d p (λaZ w=>aK.run aZ w) aT aR aC aY
         rw[H]at n
         refine n.mono ?_
         rintro C ae ⟨rfl,j,o,h,aA,a0,rfl⟩
         obtain⟨a1,_,a2⟩:=U5 (k:=ah.size f) (m:=o) aC K (λi:Fin (T e)=>mz (ah.size f) cs i.1) j h
         have al:j.size=T e:=aA.1.trans H
         have N:T (j.toList.map λi=>e[i.1])=T e:=by simp[al]
         have a3:(j.toList.map λi=>e[i.1]).Perm e:=by
          have Q:=aA.2.2;rw[XR j al,XR d H]at Q;refine(Q.map _).trans (List.Perm.of_eq ?_);refine EJ (by simp[H]) λi bc a4=>?_;have:=aj i a4;rw[getElem!_pos _ i (by omega)]at this;simp[this]
         have am:∀i (n:i<T e),(j.toList.map λi=>e[i.1])[i]'(by omega)=e[(j[i]!).1]:=λi n=>by
          have C:j[i]! =j[i]'(by omega):=getElem!_pos _ i (by omega);simp[C]
         have a5:(j.toList.map λi=>e[i.1]).Pairwise (λa b=>c a b<=0):=by
          rw[SR];intro i an G ao a6;rw[N]at G ao;have:=a0 i an (zC _) a6 ao;unfold ltOf at this;rw[qb]at this;rw[am i G,am an ao];have bd: ¬0<c e[(j[i]!).1] e[(j[an]!).1]:=λa7=>this ((ap.neg _ _).2 a7);omega
         refine⟨_,⟨_,a3,a5⟩,rfl,VU aC K _ j h,by simp[aP],λD l=>?_,λC A=>?_,⟨_,rfl,.nil⟩⟩
         ·simp[aP]at l;subst l
          exact⟨qQ aC a2,λ_=>by simp[aP],ax⟩
         simp at A;subst A
         refine⟨_,a1,_,rfl,by rw[KG];exact af,by rw[N];exact ag,au,?_,λi G=>?_⟩
         ·rw[N];exact ai0 (by rw[KG];exact ai)
         rw[N]at G
         rw[N,WJ G,ag6 (λx=>ah.len (M x.1 x.2)) al ai G,am i G]
         exact ah.mono (ac o h j) (M _ (j[i]!).2)
def ag.wx{d:aB}(e:R d)(F:d->d->aw Int):ag (R d):=λQ=> ∃c:d->d->Int,yE c∧T e<4611686018427387904∧(∀a∈e,∀b∈e,F a b=S (c a b))∧∀f:R d,f.Perm e->f.Pairwise (λa b=>c a b<=0)->Q f
open Go.Shelf in
def YZ{a:aB}[ah a]{P:cV}{gS:Ren}(L:SlLaysF0.n6 P gS)(i:∀w,(isAgg (gS.t 24)).run P w=.ok U w)(j:∀w,(Go.sizeOf (gS.t 24)).run P w=.ok (ah.size a) w)(k:ah.agg a=U){t:bH}{b:R a}{F:a->a->aw Int}{h:R a->Prop}(e:ag.wx b F h){f:aw Nat}{g:Nat}:
 bn P (gS.f 6) [.eq (aH f (T b) g),.HD P F] [⟨f,.row t b g⟩] (aX:= {r:R a // T b=T r∧h r}) (λ_=>.bO []) (λd=>[⟨f,.row t d.1 g⟩]):=by
 obtain⟨c,l,m,n,o⟩:=e
 intro p q A B C D E G
 exact(aoZ L i j k l n m p q A B C D E G).mono λI J ⟨H,d,e⟩=>⟨H,⟨d.1,d.2.1.length_eq.symm,o _ d.2.1 d.2.2⟩,e⟩
end Gv
namespace Gv
open Go
open Option renaming some->S,none->Y,getD_some->d4
open List renaming length->T,take_append_drop->Z,range->b',getElem_toArray->dk
open Bool renaming true->U,false->V
open Decidable renaming decide->cb
open Nat renaming blt->cd,beq->ce
open Go.Deferred renaming ofValue->cl
open _root_.Array renaming replicate->cn
open Go.Region renaming ready->cr,wanted->ct,seqB->cw,binds->cM
open aK renaming v7->eb
open Fr renaming drew->eo
def ag.arV{a b e:aB}{ew:a->Prop}{f:a->ag b}{k:a->b->ag e}{c:e->Prop}(d:∀y,ew y->ag.bind (f y) (k y) c):∃g:a×b->Prop,(∀y,ew y->f y λz=>g (y,z))∧∀y,g y->k y.1 y.2 c:=
 ⟨λy=>k y.1 y.2 c,d,λ_ d=>d⟩
def ag.aq{b c:aB}{d:ag b}{k:b->ag c}{e:c->Prop}(f:ag.bind d k e):d (λa=>k a e):=f
def aj0{c:cX}{E:R (Nat×J)}{L:R aK}{d:aw Tmp}{ty:bH}{pos:String}{a1:bE Edge}{g:aw (Nat×aI)}{x:cx}{t t2:bH}{b:Addr}{e:bH}(j:c.P.underlying t=S (.pointer e))(f:aN c E L x (.eq (.pointer (S b)))):aZ c E L ⟨d,.binOp .neq t x (.const (.pointer Y)) t2,ty,pos,a1,g⟩ (.of U):=.pure λa h i=>by
 have aQ:a.eval (.const (.pointer Y))=.pointer Y:=rfl;have k:a.eval x=.pointer (S b):=f a h i;refine⟨.bool U,?_,of_bool.2 o⟩;simp_all[execOp,eqGuard,binOp,Op.equal,Op.maxDepth,O4]
structure xX(P:Program)(dm:J)(dF:List J)(dJ:List aK){aX:Type}(gS:aX->J)(nP:aX->List aK):Prop where
 go:∀(A:List Nat) (W:World) (u:Value) (gY:List Value),(∀k∈A,k<W.heap.size∧k∉aP dJ)->(aP dJ).Nodup->(∀k∈aP dJ,k<W.heap.size)->(∀e∈dJ,e.ok (aP dJ++A) W)->ha (aP dJ++A) W (dm::dF) (u::gY)->
  ∃(f:FuncId) (h2:List Value),u=.func (.func f) #[] h2.toArray∧bk P f∧Calls P f (gY++h2).toArray W (j4 (aP dJ) A W gS nP)
def xX.of{P:cV}{f:FuncId}{dm:J}{aaZ dF:R J}{dJ:R aK}{aX:aB}{gS:aX->J}{nP:aX->R aK}(dj:bk P f)(HR:∀A W u,dm.holds A W u->(J.jn f aaZ).holds A W u)
 (h:bn P f (dF++aaZ) dJ gS nP):xX P dm dF dJ gS nP where
 go A W u gY h1 fx iX nJ nM:=by
  cases nM with
  | cons lU H5=>
    obtain⟨h2,rfl,H6⟩:=HR _ _ _ lU
    exact⟨f,h2,rfl,dj,h A W (gY++h2) h1 fx iX nJ (H5.append H6)⟩
section
variable{c:cX}{E:R (Nat×J)}{L:R aK}{ops:bE bA}{Q:cK->cg->bj->Prop}
variable{d:aw Tmp}{ty:bH}{pos:String}{a1:bE Edge}{g:aw (Nat×aI)}{x y z:cx}{t t2:bH}
def Qx{ak:bA}{e f:J}(h:aZ c E L ak e)(i:∀g b d,e.holds g b d->f.holds g b d):aZ c E L ak f:=λa b j=>by
 have:=h a b j;unfold hr at this⊢;exact sd (λn o ⟨d,k,l,m⟩=>⟨d,k,l,i _ _ _ m⟩) this
def akJ{a:cg}{b:bj}{j:R cx}{I:bE bH}{A:J}{B:R J}{e b9:R aK}{aX:aB}{l:aX->J}{m:aX->R aK}(n:xX c.P A B e l m)
 (h:b0 c E (e++b9) a b) (K:ha (aP (e++b9)++c.cv) b (A::B) ((x::j).map a.eval)):
 hr c.P ⟨d,.call ⟨.value x,j.toArray,I⟩,ty,pos,a1,g⟩ a b λp q=> ∃a8,b0 c E (m a8++b9) a q∧(l a8).holds (aP (m a8++b9)++c.cv) q p:=by
 have C:=h.nodup
 rw[fF]at C
 obtain⟨L,ag,M⟩:=rZ.1 C
 have D:Ext (aP (e++b9)++c.cv) b (aP e++(aP b9++c.cv)) b:=CQ
 have N:∀k∈aP b9++c.cv,k<b.heap.size∧k∉aP e:=λk i=>by
  rcases eN.1 i with i|i
  ·exact⟨h.lt k (by simp_all[fF]),λn=>M k n k i o⟩
  obtain⟨F,G⟩:=h.eW k i;simp_all[fF]
 have O:∀k∈aP e,k<b.heap.size:=λk i=>h.lt k (by simp_all[fF])
 obtain⟨P,Q,aa,ab,ac⟩:=n.go (aP b9++c.cv) b (a.eval x) (j.map a.eval) N L O (λH r=>eb (h.own H (eN.2 (.inl r))) D λ_ _=>rfl) (by simpa using K.mono D)
 refine .uD (f:=P) (args:=(j.map a.eval++Q).toArray) (dE:=b) ?_ (ac.mono λH q ⟨p,a8,r,ad,F,G,ae,af⟩=>?_)
 ·simp[execOp,resolve,cl,aa,invoke,ab.run]
 refine⟨p,r,a8,h.after ad F G ae,(l a8).mono KF af⟩
variable{b1:aB}[eA b1]{aC:aL b1}
def aa.arX{g:R bA}{a8:Nat}{h:R cx}{r:bE bH}{i:J}{j:R J}{e b9:R aK}{aX:aB}{f:aX->J}{l:aX->R aK}{m:aX->aL b1}(n p:Nat)(A:L.drop n=bc aC)(B:xX c.P i j (e++bc aC) f (λd=>l d++bc (m d)))
 (C:(L.take n).take p=e) (D:(L.take n).drop p=b9) (F:iu c E L (x::h) (i::j)) (aQ:cd a8 c.n=U) (k:∀b,aa c ops Q g ((a8,f b)::E) ((l b++b9)++bc (m b))):
 aa c ops Q (⟨S a8,.call ⟨.value x,h.toArray,r⟩,ty,pos,a1,Y⟩::g) E L:=by
 have G:L=(e++b9)++bc aC:=by grind[Z]
 clear A C D
 subst G
 exact λa H q=>jb o (akJ (b9:=b9) B (q.perm me) ((F.holds a H q).mono (oL me))) λM N ⟨b,I,K⟩=>
  k b _ _ ((I.perm me).put (by simp_all) ((f b).mono (oL me) K))
def ao0{b n:Nat}{k:b1}{a:aK}{c:R aK}(g:L.drop n=bc aC)(d:pat aC b=S k)(e:eA.gD b k=a::c):a∈L:=by
 obtain⟨h,f,_⟩:=vP d;rw[e]at f;have:a∈L.drop n:=by grind
 grind
def ai1{x:cx}{t:bH}{f ak:Nat}{e a:aB}[ah e][ah a]{b:e}{h:R (Nat×bt)}(l:aG e a){j:a}(k:bR c.P t a)(m:aN c E L x (.eq (.pointer (S ⟨f,ak,Y⟩))))
 (n:(⟨S f,.bF b h⟩:aK)∈L) (o:ak=l.off) (aF:l.get b=j) (p:tw h l.off (ah.size a)=U):aZ c E L ⟨d,.load t x,ty,pos,a1,g⟩ (.of j):=by
 obtain⟨i,q⟩:=ow.1 n
 exact ho (i:=i) l k m q o aF p
def Wx{b1:aB}{aC:aL b1}{a:Nat}{k:b1}(b:pat aC a=S k):cS aC a k=aC:=by
 induction aC with
 |nil=>rfl
 | cons z c d=>
   grind[pat,cS]
def aa.Qy{l:R bA}{a:Nat}{k:b1}{d:R aK}(n:Nat)(g:L.drop n=bc aC)(h:pat aC a=S k)(i:eA.gD a k=d)
 (j:∀b,(∀e,(bc (cS aC a e)).Perm (eA.gD a e++b))->aa c ops Q l E (d++(L.take n++b))):aa c ops Q l E L:=by
 obtain⟨b,f,m⟩:=vP h
 refine aa.perm ?_ (j b m)
 conv=>rhs;rw[<-rT n L,g]
 rw[i]at f
 refine List.Perm.trans ?_ (f.symm.append_left (L.take n))
 rw[<-mI,<-mI]
 exact ox.append_right _
def aa.Rq{l:R bA}{b:Nat}{e d:R aK}(a:b1)(f n:Nat)(g:∀a,(bc (cS aC b a)).Perm (eA.gD b a++e))(j:L.drop n=e)(k:(L.take n).take f=eA.gD b a)(m:(L.take n).drop f=d)
 (h:aa c ops Q l E (d++bc (cS aC b a))):aa c ops Q l E L:=by
 have i:L=(eA.gD b a++d)++e:=by grind[Z]
 refine aa.perm ?_ h
 rw[i]
 refine((g a).append_left d).trans ?_
 rw[<-mI]
 exact ox.append_right _
end
section
variable{P:cV}{b:Frame}{a:cg}{k:R Item}{cs:R Frame}{w:bj}{Q:cK->cg->bj->Prop}{F:Fence}{n:Nat}
def Sh(Q:cK->cg->bj->Prop):cK->cg->bj->Prop
 | .goto _,_,_=>False
 |b,a,w=>Q b a w
def Cx{c:ec}:step P (lone (b.atR a (.code (.scope c)::k)) cs w)=.next (lone (b.atR a (.code c::.inScope c::k)) cs w):=
 step_lone_go (by rfl)
def afV{c:ec}:step P (lone (b.atR a (.inScope c::k)) cs w)=.next (lone (b.atR a k) cs w):=
 step_lone_go (by rfl)
def ag7{c:ec}(m:c.wpIn F n P (Sh Q) a w):(Code.scope c).wpIn F n P Q a w:=by
 intro b k cs p i aF;have d:(lone (b.atR a (.code (.scope c)::k)) cs w).fenced P F:=B2 i aF o;obtain⟨q,g,h,e,f⟩:=m b (.inScope c::k) cs p i aF;cases q with
 |normal=>exact⟨.normal,g,h,e,.head d Cx (N5 f (.one (B2 i aF o) afV))⟩
 | exit j=>
   have G:exitTo j (.inScope c::k)=exitTo j k:=by rfl
   exact⟨.exit j,g,h,e,λr A=>.head d Cx (f.1 r (by simp_all)),
    λB A=>let⟨C,D,E⟩:=f.2 B (by simp_all); ⟨C,D,.head d Cx E⟩⟩
 |goto l=>exact e.elim
 |ret=>exact⟨_,g,h,e,.of_steps (.one d Cx) f⟩
 |panic H=>exact⟨_,g,h,e,.of_steps (.one d Cx) f⟩
 |outgrown=>exact⟨_,g,h,e,.of_steps (.one d Cx) f⟩
end
section
variable{c:cX}{E:R (Nat×J)}{L:R aK}{Q:cK->cg->bj->Prop}
def ar.scope{x:ec}(b:ar c (Sh Q) x E L):ar c Q (.scope x) E L:=λa d e=>ag7 (b a d e)
def ar.label{l:Nat}(b:af c Q .normal E L):ar c Q (.label l) E L:=λa d e=>wpIn_label (b a d e)
def af.Hm(a:af c Q .ret E L):af c (Sh Q) .ret E L:=a
end
section
variable{c:cX}{E:R (Nat×J)}{L:R aK}
def aZ.abn{ak:bA}{e f:J}{g:Prop}(d:Nat)(j:look E d=S (.cond g f))(k:g)(l:aZ c ((d,f)::E) L ak e):aZ c E L ak e:=λa h m=>by
 refine l a h (m.less λt o b=>?_);simp only[look]at b;by_cases i:ce d t=U
 ·rw[i]at b;simp only[cond_true,iG]at b;have:=kb.1 i;subst this;subst b;exact⟨_,j,λp h q n=>n.1 k⟩
 simp_all
end
abbrev J.bq(a:Nat):J:=.eq (.pointer (S ⟨a,0,Y⟩))
abbrev a7{a:aB}[ah a](b:Nat)(x:a):aK:=⟨S b,.var x⟩
inductive p1:Nat->List aK->List aK->Prop
 |nil {L:List aK}:p1 0 L []
 |cons {n:Nat} {e:aK} {r s:List aK}:p1 n r s->p1 (n+1) (e::r) (e::s)
inductive j1:List aK->List aK->Prop
 |nil:j1 [] []
 |gD {b1:Type} [eA b1] {aC:aL b1}:j1 (bc aC) (bc aC)
 |A2 {l:List aK}:j1 l l
 |cons {e vo:aK} {r s:List aK}:e=vo->j1 r s->j1 (e::r) (vo::s)
def j1.eq:∀{l a:R aK},j1 l a->l=a
 |_,_,.nil=>rfl
 |_,_,@j1.gD _ _ _=>rfl
 |_,_,.A2=>rfl
 |_,_,.cons b c=>by rw[c.eq,b]
section
variable{c:cX}{E:R (Nat×J)}{L:R aK}{ops:bE bA}{Q:cK->cg->bj->Prop}{x:cx}
def aa.eh{l:R bA}{a:R aK}(k:aa c ops Q l E a)(h:j1 L a:=by repeat (first|exact j1.gD|exact j1.nil|(apply j1.cons; (first|(dsimp only;exact rfl)|exact rfl))|exact j1.A2)):aa c ops Q l E L:=.qE h.eq k
def af.eh{z:cK}{a:R aK}(k:af c Q z E a)(h:j1 L a:=by repeat (first|exact j1.gD|exact j1.nil|(apply j1.cons; (first|(dsimp only;exact rfl)|exact rfl))|exact j1.A2)):af c Q z E L:=.qE h.eq k
def My{d:aB}{b:aI}{e n:ag d}{a:d->Prop}{y z:ec}(h:cond b e n a)(f:e a->ar c Q y E L)(g:n a->ar c Q z E L)(i:aN c E L x (.of b):=by first|exact ae o|exact gU _):ar c Q (.cond x y z) E L:=
 .cond i (λax=>f (XO ax h)) (λax=>g (XP ax h))
end
def fL(up rd a:R Nat)(b:(Nat->Hid)->aK):ee:=⟨Y,up,rd,a,λ_=>.any,λaq _=>b aq⟩
section
variable{c:cX}{E:R (Nat×J)}{L:R aK}{ops:bE bA}{Q:cK->cg->bj->Prop}{aR:R ee}{i:Nat}{up rd:R Nat}{ak:bA}{a8:Nat}
def eF{d:J}(h:∀{aq:Nat->Hid} {br:R (Nat×J)} {aD:R aK},(∀t d,look (j0 aq aR E up) t=S d->look br t=S d)->(∀f e,(hi (λ_=>U) aq 0 (aR.take i) L)[f]? =S e->rd.contains f=U->aD[f]? =S e)->aZ c br aD ak d)
 (g:ak.guard=Y:=by rfl) (aq:ak.dst=S a8:=by rfl) (aQ:cd a8 c.n=U:=by rfl):fb c ops Q aR E L i ak (az a8 up rd d):=iV (λ_ _ _ a b=>h a b) g aq aQ
def ed{a:J}{b:R aK->Prop}(h:∀{aD},b aD->aZ c E aD ak a)(d:ak.guard=Y:=by rfl):∀aD,b aD->h0 c ops E aD ak a:=λaD av=>.v (h av) d
end
def sO:R (aw Nat)->R (R Nat)->R J->R ee
 |a::b,d::c,e::f=>⟨a,d,[],[],λ_=>e,λ_ _=>⟨Y,.dead⟩⟩::sO b c f
 |_,_,_=>[]
def Dz:R (aw Nat)->R (R Nat)->R (aw Nat×R Nat×R Nat×R Nat)
 |a::b,d::c=>(a,d,[],[])::Dz b c
 |_,_=>[]
def DA(E:R (Nat×J)):R (aw Nat)->R (R Nat)->R J->R (Nat×J)
 |a::b,_::c,d::e=>rC a d (DA E b c e)
 |_,_,_=>E
def DH:R bA->R (aw Nat)->Nat->aI
 |[],[],_=>U
 |ak::b,S a::c,n=>(match ak.dst with |some t=>ce t a|none=>V)&&cd a n&&DH b c n
 |_,_,_=>V
section
variable{c:cX}{E:R (Nat×J)}{L:R aK}{ops:bE bA}{Q:cK->cg->bj->Prop}
def x8(c:cX)(ops:bE bA)(E:R (Nat×J))(L:R aK)(aR:R ee):R bA->R (aw Nat)->R (R Nat)->R J->Prop
 |ak::f,_::g,d::h,i::j=>(∀b:R aK,(∀(a:Nat) (e:aK),L[a]? =S e->uY (λ_=>V) a 0 []=U->b[a]? =S e)->h0 c ops (j0 (λ_ _=>Y) aR E d) b ak i)∧x8 c ops E L aR f g h j
 |_,[],[],[]=>True
 |_,_,_,_=>False
def K3{a:ee}:∀{c:R (aw Nat)} {d:R (R Nat)} {e:R J},a∈sO c d e->a.wr=[]∧∀g f,a.dm g=a.dm f
 | _::c,_::d,_::e,b=>by
   rcases fj.1 b with rfl|b
   ·simp_all
   exact K3 b
theorem Ls{aq:Nat->Hid}{aR:R ee}(b:∀a∈aR,∀g f,a.dm g=a.dm f):∀{d:R Nat},j0 aq aR E d=j0 (λ_ _=>Y) aR E d
 |[]=>rfl
 | c::i=>by
   unfold j0;cases h:aR[c]? with
   |none=>exact Ls b
   | some a=>
     cases e:a.slot with
     |none=>simp only[e];exact Ls b
     |some j=>simp only[e];rw[b a (fM h) _ (hE a.up c (λ_ _=>Y)),Ls b]
def Z4{aq:Nat->Hid}:∀{aR:R ee} {k:Nat} {L:R aK},(∀a∈aR,a.wr=[])->hi (λ_=>U) aq k aR L=L
 |[],_,_,_=>rfl
 | a::d,k,L,b=>by
   unfold hi;rw[b a jS];exact Z4 λx c=>b x (gO _ c)
def P5{aq:Nat->Hid}:∀{a:R (aw Nat)} {b:R (R Nat)} {c:R J} {k:Nat},jj (λ_=>U) aq E k (sO a b c)=DA E a b c
 |some f::a,d::b,e::c,k=>by simp_all[sO,DA,jj,rC,P5]
 |none::a,d::b,e::c,k=>by simp_all[sO,DA,jj,rC,P5]
 |[],_,_,_=>by rfl
 |_::_,[],_,_=>by rfl
 |_::_,_::_,[],_=>by rfl
def aa.oh{ak:bA}{h:R bA}{d:Nat}{b:J}{i:R (Nat×J)}(e:h0 c ops i L ak b)(j:∀t b,look i t=S b->look E t=S b)(aq:ak.dst=S d)(aQ:cd d c.n=U)(k:aa c ops Q h ((d,b)::E) L):aa c ops Q (ak::h) E L:=λa l f=>by
 obtain⟨m,n⟩:=e a l (f.less λt b o=>⟨b,j t b o,λ_ _ _ e=>e⟩);unfold cX.tR wpListIn;by_cases g:ct ak (yielded ops a.tmps)=U
 ·rw[bT g];refine((m g).wpIn λr A ⟨p,q⟩=>?_);rw[aq];exact k _ _ ((f.world p).put (by simp_all) q)
 rw[bU g,aq];exact⟨λ_ _=>trivial,k _ _ (f.put (by simp_all) (n (by simp_all)))⟩
def x8.HK{aR:R ee}(p:∀b∈aR,∀g q,b.dm g=b.dm q):∀{e:R bA} {f:R (aw Nat)} {h:R (R Nat)} {i:R J} {k n:Nat},x8 c ops E L aR e f h i->DH (e.take n) f c.n=U->qn c ops Q aR E L 0 k (e.take n) (sO f h i)
 | e,[],h,i,k,n,_,a=>by
   cases b:e.take n with
   |nil=>cases h <;> cases i <;> trivial
   |cons ak F=>rw[b]at a;cases a
 |[],j::f,h,i,k,n,_,a=>by rw[List.take_nil]at a;cases a
 |ak::e,j::f,h,i,k,0,_,a=>by cases a
 |ak::e,j::f,[],i,k,n+1,b,_=>b.elim
 |ak::e,j::f,d::h,[],k,n+1,b,_=>b.elim
 |ak::e,Y::f,d::h,l::i,k,n+1,b,a=>by simp_all[DH]
 | ak::e,S j::f,d::h,l::i,k,n+1,b,a=>by
   simp only[List.take_succ_cons,DH,hx]at a;refine⟨λG H r A _ B=>?_,x8.HK p b.2 a.2⟩;have m:r=L:=B;subst m;have C:ak.dst=S j:=by
    have:=a.1.1;cases aq:ak.dst with
    |none=>simp_all
    |some t=>simp_all
   exact aa.oh (b.1 _ λI m D _=>D) (λt l K=>A t l (by grind[Ls])) C a.1.2 (aa.nil (af.fin (λ_=>Y) o o))
def ar.gX{i:Nat}{l:R bA}{e:R Nat}(hm:c.P.follows .mixedOrders=U)(n:Nat)(a:R (aw Nat))(b:R (R Nat))(d:R J)(j:x8 c l.toArray E L (sO a b d) l a b d)(k:aa c l.toArray Q (l.drop n) (DA E a b d) L)
 (m:lB (sO a b d)=Dz a b:=by rfl) (o:E.map (·.1)=e:=by rfl) (p:Gv.rv l.toArray n (Dz a b) e=U:=by kernel_rfl) (aR:DH (l.take n) a c.n=U:=by rfl):ar c Q (.region i l.toArray U) E L:=
 have q:∀h∈sO a b d,∀g r,h.dm g=h.dm r:=λh hm=>(K3 hm).2
 ar.Lr n (np:=0) hm (sO a b d) (Dz a b) e m o p (λh hm A f=>by rw[(K3 hm).1]at f;cases f) (x8.HK q j aR) (λaq=>by rw[P5,Z4 λh hm=>(K3 hm).1];exact k)
end
section
variable{c:cX}{E gZ:R (Nat×J)}{L gH:R aK}{Q:cK->cg->bj->Prop}{x:cx}
def vc{aY:aB}{b:aI}{y z:ec}(n:Nat)(f:R Nat)(a:aY->R (Nat×J))(d:aY->R (Nat×aK))(e:aY->R aK)(h:∀g,af c Q .normal (a g++gZ) (ic gH (d g)++e g))
 (i:(∀g,af c (dr Q) .normal (a g++gZ) (ic gH (d g)++e g))->b=U->ar c (dr Q) y E L) (j:(∀g,af c (dr Q) .normal (a g++gZ) (ic gH (d g)++e g))->b=V->ar c (dr Q) z E L)
 (l:p1 n L gH:=by repeat (first|exact p1.nil|apply p1.cons)) (m:iE E f gZ:=by repeat (first|exact iE.nil|(apply iE.cons;rfl))) (k:aN c E L x (.of b):=by first|exact ae o|exact gU _):ar c Q (.cond x y z) E L:=
 ar.bs (λg=>a g++gZ) (λg=>ic gH (d g)++e g) k h i j
def DG{e aY l:aB}{d:l->Prop}{b:aI}{y z:ec}{m p:ag e}{k:e->ag l}(h:ag.bind (bif b then m else p) k d)(n:Nat)(q:R Nat)(f:e->aY->R (Nat×J))(i:e->aY->R (Nat×aK))(j:e->aY->R aK)
 (r:∀a g,k a d->af c Q .normal (f a g++gZ) (ic gH (i a g)++j a g))
 (A:(∀a g,k a d->af c (dr Q) .normal (f a g++gZ) (ic gH (i a g)++j a g))->b=U->m (λa=>k a d)->ar c (dr Q) y E L) (B:(∀a g,k a d->af c (dr Q) .normal (f a g++gZ) (ic gH (i a g)++j a g))->b=V->p (λa=>k a d)->ar c (dr Q) z E L)
 (D:p1 n L gH:=by repeat (first|exact p1.nil|apply p1.cons)) (F:iE E q gZ:=by repeat (first|exact iE.nil|(apply iE.cons;rfl))) (C:aN c E L x (.of b):=by first|exact ae o|exact gU _):ar c Q (.cond x y z) E L:=
 ar.alN h (λa g=>f a g++gZ) (λa g=>ic gH (i a g)++j a g) C r A B
def yB{bb bp aY aX:aB}{r:ec}{B:Nat}{b:bb->aw (bb⊕bp)}{f:bb}{e:bp}(C:cj B b f=S e)(n:Nat)(D:R Nat)(h:bb->aY->R (Nat×J))(i:bb->aY->R (Nat×aK))(j:bb->aY->R aK)(l:bp->cK)
 (m:bp->aX->R (Nat×J)) (p:bp->aX->R (Nat×aK)) (q:bp->aX->R aK) (k:aY)
 (F:∀a A,b a=S A->∀g,ar c (dP c (λa g=>h a g++gZ) (λa g=>ic gH (i a g)++j a g) l (λe d=>m e d++gZ) (λe d=>ic gH (p e d)++q e d) A) r (h a g++gZ) (ic gH (i a g)++j a g))
 (G:∀g,af c Q (l e) (m e g++gZ) (ic gH (p e g)++q e g))
 (H:p1 n L gH:=by repeat (first|exact p1.nil|apply p1.cons)) (I:iE E D gZ:=by repeat (first|exact iE.nil|(apply iE.cons;rfl))) (aA:gp E (h f k++gZ):=by repeat (first|exact gp.nil|refine gp.same o ?_)) (av:L=ic gH (i f k)++j f k:=by rfl):ar c Q (.loop r) E L:=
 ar.LZ C (λa g=>h a g++gZ) (λa g=>ic gH (i a g)++j a g) l (λe d=>m e d++gZ) (λe d=>ic gH (p e d)++q e d) k av aA F G
def wV{bb bp aY aX A:aB}{B:ec}{F:Nat}{b:bb->ag (bb⊕bp)}{f:bb}{k:bp->ag A}{C:A->Prop}(G:ag.bind (Gv.mr F b f) k C)(n:Nat)(H:R Nat)(h:bb->aY->R (Nat×J))(i:bb->aY->R (Nat×aK))(j:bb->aY->R aK)(m:bp->cK)
 (p:bp->aX->R (Nat×J)) (q:bp->aX->R (Nat×aK)) (r:bp->aX->R aK) (l:aY)
 (I:∀a D,b a D->∀g,ar c (dV c (λa g=>h a g++gZ) (λa g=>ic gH (i a g)++j a g) m (λe d=>p e d++gZ) (λe d=>ic gH (q e d)++r e d) D) B (h a g++gZ) (ic gH (i a g)++j a g))
 (K:∀e,k e C->∀g,af c Q (m e) (p e g++gZ) (ic gH (q e g)++r e g))
 (M:p1 n L gH:=by repeat (first|exact p1.nil|apply p1.cons)) (N:iE E H gZ:=by repeat (first|exact iE.nil|(apply iE.cons;rfl))) (aA:gp E (h f l++gZ):=by repeat (first|exact gp.nil|refine gp.same o ?_)) (av:L=ic gH (i f l)++j f l:=by rfl):ar c Q (.loop B) E L:=
 ar.Yo G (λa g=>h a g++gZ) (λa g=>ic gH (i a g)++j a g) m (λe d=>p e d++gZ) (λe d=>ic gH (q e d)++r e d) l av aA I K
def gw{d f:aB}{l:ec}{n:Nat}{b:d->aw (d⊕f)}{m:d}{e:f}(p:cj n b m=S e)(q:R Nat)(g:d->R (Nat×J))(j:f->cK)(k:f->R (Nat×J))
 (r:∀a i,b a=S i->ar c (dP c (λa (_:bG)=>g a++gZ) (λ_ _=>gH) j (λe (_:bG)=>k e++gZ) (λ_ _=>gH) i) l (g a++gZ) gH)
 (A:af c Q (j e) (k e++gZ) gH)
 (B:oo L gH:=by repeat (first|exact oo.nil|apply oo.cons))
 (C:iE E q gZ:=by repeat (first|exact iE.nil|(apply iE.cons;rfl))) (aA:gp E (g m++gZ):=by repeat (first|exact gp.nil|refine gp.same o ?_)):ar c Q (.loop l) E L:=
 ar.LZ p (λa (_:bG)=>g a++gZ) (λ_ _=>gH) j (λe (_:bG)=>k e++gZ) (λ_ _=>gH) () B.eq aA (λa i h _=>r a i h) (λ_=>A)
def fg{b:aI}{y z:ec}(e:R Nat)(a:R (Nat×J))(d:R (Nat×aK))(f:af c Q .normal (a++gZ) (ic gH d))
 (g:(∀_:bG,af c (dr Q) .normal (a++gZ) (ic gH d))->b=U->ar c (dr Q) y E gH) (h:(∀_:bG,af c (dr Q) .normal (a++gZ) (ic gH d))->b=V->ar c (dr Q) z E gH)
 (i:oo L gH:=by repeat (first|exact oo.nil|apply oo.cons))
 (j:iE E e gZ:=by repeat (first|exact iE.nil|(apply iE.cons;rfl))) (k:aN c E gH x (.of b):=by first|exact ae o|exact gU _):ar c Q (.cond x y z) E L:=
 hs (aY:=bG) e (λ_=>a) (λ_=>d) (λ_=>f) g h i j k
end
class cD (bb:aB)where
 cF:R Nat->bb->R (Nat×J)
instance(priority:=low) asQ {au:aB} [ah au]:cD au:=⟨λa x=>match a with |n::_=>[(n,.of x)]|[]=>[]⟩
instance{au b7:aB}[ah au][cD b7]:cD (au×b7):=⟨λa x=>match a with |n::r=>(n,.of x.1)::cD.cF r x.2|[]=>[]⟩
abbrev cG{a:aB}(n:Nat)(t:J)(b:a->R (Nat×J))(x:a):R (Nat×J):=(n,t)::b x
abbrev gx{a:aB}(n:Nat)(_:a):cK:=.exit n
abbrev h4{a:aB}(_:a):cK:=.ret
inductive NE:List (Nat×J)->List (Nat×J)->Prop
 |nil:NE [] []
 |cons {x:Nat×J} {r s:List (Nat×J)}:NE r s->NE (x::r) (x::s)
def NE.eq:∀{l a:R (Nat×J)},NE l a->l=a
 |_,_,.nil=>rfl
 |_,_,.cons b=>by rw[b.eq]
section
variable{c:cX}{E gZ:R (Nat×J)}{L:R aK}{ops:bE bA}{Q:cK->cg->bj->Prop}
def e4{z:cK}(k:af c Q z gZ L)(h:NE E gZ:=by repeat (first|exact NE.nil|apply NE.cons)):af c Q z E L:=by rw[h.eq];exact k
def abu{l:R bA}(k:aa c ops Q l gZ L)(h:NE E gZ:=by repeat (first|exact NE.nil|apply NE.cons)):aa c ops Q l E L:=by rw[h.eq];exact k
def ar.abT{f:Nat}{l:R bA}{a:R (aw Nat×R Nat×R Nat×R Nat)}{b:R Nat}(n e:Nat)(hm:c.P.follows .mixedOrders=U)(aR:R ee)
 (g:qn c l.toArray Q aR E L e 0 (l.take n) aR) (h:∀aq,aa c l.toArray Q (l.drop n) (jj (λ_=>U) aq E 0 aR) (hi (λ_=>U) aq 0 aR L))
 (i:lB aR=a:=by rfl) (j:E.map (·.1)=b:=by rfl) (k:Gv.rv l.toArray n a b=U:=by kernel_rfl) (m:(a.all λd=>d.2.2.2.all λo=>cd o e)=U:=by kernel_rfl):ar c Q (.region f l.toArray U) E L:=.asC n e hm aR b g h i j k m
def ar.pf{d:Nat}{l:R bA}{b:R (aw Nat×R Nat×R Nat×R Nat)}{a:R Nat}(hm:c.P.follows .mixedOrders=U)(aR:R ee)
 (e:wu c l.toArray Q aR E L 0 l aR) (f:∀aq,af c Q .normal (jj (λ_=>U) aq E 0 aR) (hi (λ_=>U) aq 0 aR L))
 (g:lB aR=b:=by rfl) (h:E.map (·.1)=a:=by rfl) (i:Gv.rv l.toArray (T l) b a=U:=by kernel_rfl):ar c Q (.region d l.toArray U) E L:=.MG hm aR a e f g h i
end
def fk(n:Nat):R Nat->aI
 |[]=>V
 |a::b=>bif ce a n then U else fk n b
def mf{n:Nat}:∀{l:R Nat},fk n l=U↔n∈l
 |[]=>by simp[fk]
 | a::b=>by
   unfold fk;cases c:ce a n with
   |true=>simp_all
   | false=>
     have d:n≠a:=λe=>by simp_all
     simp_all[cond_false,mf,fj,false_or]
def kU(a:Nat->aI)(E:R (Nat×J)):R (Nat×Nat×J)->R (Nat×J)
 |[]=>E
 |x::b=>bif a x.1 then x.2::kU a E b else kU a E b
def DB(i:Nat):R (Nat×Nat×J)->aw J
 |[]=>Y
 |x::a=>bif ce x.1 i then S x.2.2 else DB i a
def Mr(i:Nat):R (Nat×Nat×J)->aw (Nat×J)
 |[]=>Y
 |x::a=>bif ce x.1 i then S x.2 else Mr i a
def DI:R Edge->R Nat
 |[]=>[]
 |a::b=>bif cM .any a then a.on::DI b else DI b
def GN{d:Nat}:∀{l:R Edge},d∈DI l↔∃a∈l,cM .any a=U∧a.on=d
 |[]=>by simp[DI]
 | a::b=>by
   unfold DI;cases c:cM .any a with
   | true=>
     simp only[cond_true,fj,GN]
     grind
   | false=>
     simp_all[cond_false,GN,fj]
def kn(ak:bA):R Nat:=DI ak.after.toList
def DJ(a:R (Nat×Nat×J)):R Nat:=a.map (·.2.1)
structure tU(iO:List (Nat×Nat×J))(E:List (Nat×J)):Prop where
 MO:(DJ iO).Nodup
 out:∀t∈DJ iO,look E t=Y
def tU.app{a d:R (Nat×Nat×J)}{b:R (Nat×J)}(c:tU (d++a) b):tU a b:=⟨by have:=c.MO;grind[DJ],λt e=>c.out t (by simp_all[DJ,pt])⟩
def Lt{a e:aB}{b:a->e}:∀{l:R a},(l.map b).Nodup->∀{x y:a},x∈l->y∈l->b x=b y->x=y
 | z::i,f,x,y,c,d,g=>by
   obtain⟨j,h⟩:=s7.1 f;rcases fj.1 c with k|c
   ·grind
   rcases fj.1 d with m|d
   ·simp_all
   exact Lt h c d g
def mQ{ls:Nat->aI}{E:R (Nat×J)}{t:Nat}{dm:J}:∀{iO:R (Nat×Nat×J)},tU iO E->(look (kU ls E iO) t=S dm↔(∃i,ls i=U∧(i,t,dm)∈iO)∨look E t=S dm)
 |[],_=>by simp[kU]
 | x::d,b=>by
   have e:=s7.1 b.MO;have h:=mQ (ls:=ls) (t:=t) (dm:=dm) (iO:=d) ⟨e.2,λt f=>b.out t (gO _ f)⟩;have j:look E t=S dm->x.2.1≠t:=λc a=>by rw[<-a,b.out _ jS]at c;cases c
   have aF:∀i,(i,t,dm)∈d->x.2.1≠t:=λi c a=>e.1 (by simp_all);unfold kU;cases k:ls x.1 with
   | false=>
     grind
   | true=>
     simp only[cond_true,look]
     cases g:ce x.2.1 t with
     | true=>
       have a:=kb.1 g
       grind
     | false=>
       have a:x.2.1≠t:=λa=>by simp_all
       grind
def Rw{b c:Nat->aI}{E:R (Nat×J)}{t:Nat}{d:J}{a:R (Nat×Nat×J)}(f:∀i,b i=U->c i=U)(e:tU a E)(g:look (kU b E a) t=S d):look (kU c E a) t=S d:=
 (mQ e).2 (((mQ e).1 g).imp (λ⟨i,h,j⟩=>⟨i,f i h,j⟩) id)
def ai2{h j:Nat->aI}{E:R (Nat×J)}{i t e:Nat}{k l:J}{c:R (Nat×Nat×J)}(n:∀a,j a=U->h a=U∨a=i)(d:tU c E)(f:(i,t,k)∈c)(p:(c.map (·.1)).Nodup)(m:look (kU j E c) e=S l):look ((t,k)::kU h E c) e=S l:=by
 simp only[look];cases q:ce t e with
 | true=>
   have r:=kb.1 q
   subst r
   rcases (mQ d).1 m with⟨a,_,b⟩|b
   ·have:=Lt d.MO f b o
    simp_all
   rw[d.out t (lk.2 ⟨_,f,rfl⟩)]at b;cases b
 | false=>
   refine(mQ d).2 (((mQ d).1 m).imp (λ⟨a,A,b⟩=>⟨a,?_,b⟩) id)
   rcases n a A with g|g
   ·exact g
   subst g
   have:=Lt p f b o
   simp_all
theorem CJ{t:Nat}{a:R (Nat×J)}:∀{b:R (Nat×J)},look (b++a) t=match look b t with |some c=>S c|none=>look a t
 |[]=>rfl
 | x::d=>by
   simp only[List.cons_append,look];cases ce x.1 t with
   |true=>rfl
   |false=>exact CJ
def alS{f:Nat->aI}{E a:R (Nat×J)}{t:Nat}{g:J}{b:R (Nat×Nat×J)}(d:tU b (a++E))(h:look (kU f (a++E) b) t=S g):look (a++kU f E b) t=S g:=by
 have j:∀t∈DJ b,look a t=Y∧look E t=Y:=λt e=>by
  have h:=d.out t e;grind[CJ]
 have k:tU b E:=⟨d.MO,λt e=>(j t e).2⟩;rw[CJ];rcases (mQ d).1 h with⟨i,c,l⟩|c
 ·rw[(j t (lk.2 ⟨_,l,rfl⟩)).1];exact(mQ k).2 (.inl ⟨i,c,l⟩)
 rw[CJ]at c;cases m:look a t with
 |some n=>simp_all
 |none=>rw[m]at c;exact(mQ k).2 (.inr c)
section
variable{c:cX}{E:R (Nat×J)}{L:R aK}{l:R bA}{Q:cK->cg->bj->Prop}
structure A3(l:List Oper)(ar9 asD:List Nat)(ls:Array Bool):Prop where
 size:ls.size=l.length
 eq:∀i,i∈ar9->ls.getD i V=fk i asD
 w8:∀i ak,l[i]? =S ak->ls.getD i V=U->∀d∈kn ak,ls.getD d V=U
def yF(l:R bA)(a:bE aI):Nat:=T ((b' (T l)).filter λb=> !a.getD b V)
def fe(c:cX)(l:R bA)(Q:cK->cg->bj->Prop)(e h:R Nat)(d:R (Nat×Nat×J))(E:R (Nat×J))(L:R aK):Prop:=
 (tU d E∧∀x∈d,fk x.1 e=V)∧∀f b a g,A3 l e h b->yF l b<=f->b0 c (kU (λi=>b.getD i V) E d) L a g->wpAnyIn c.F 9 c.P .any l.toArray Q f b a g
def w9(c:cX)(l:R bA)(E:R (Nat×J))(L:R aK)(a:R (Nat×Nat×J)):R Nat->Prop
 |[]=>True
 |i::b=>(match l[i]?,DB i a with |some ak,S d=>h0 c l.toArray (kU (λe=>fk e (kn ak)) E a) L ak d|_,_=>False)∧w9 c l E L a b
def w9.get{a:R (Nat×Nat×J)}:∀{d:R Nat},w9 c l E L a d->∀{i:Nat},i∈d->∃ak e,l[i]? =S ak∧DB i a=S e∧h0 c l.toArray (kU (λj=>fk j (kn ak)) E a) L ak e
 | j::g,f,i,b=>by
   rcases fj.1 b with rfl|b
   ·have h:=f.1;grind
   exact w9.get f.2 b
def gf(c:cX)(l:R bA)(Q:cK->cg->bj->Prop)(f g:R Nat)(b:R (Nat×Nat×J))(E:R (Nat×J))(L:R aK)(k:Nat):Prop:=
 tU b E->∀e a ak,l[k]? =S ak->A3 l f g a->a.getD k V=V->(∀d∈kn ak,a.getD d V=U)->yF l (a.setIfInBounds k U)<=e->
  aa c l.toArray (yK (wpAnyIn c.F 9 c.P .any l.toArray Q e (a.setIfInBounds k U)) Q) [ak] (kU (λi=>a.getD i V) E b) L
def yL(c:cX)(l:R bA)(Q:cK->cg->bj->Prop)(a b:R Nat)(d:R (Nat×Nat×J))(E:R (Nat×J))(L:R aK):R Nat->Prop
 |[]=>True
 |k::e=>gf c l Q a b d E L k∧yL c l Q a b d E L e
def yL.get{b d:R Nat}{e:R (Nat×Nat×J)}:∀{f:R Nat},yL c l Q b d e E L f->∀{k:Nat},k∈f->gf c l Q b d e E L k
 | _::_,g,k,a=>by
   rcases fj.1 a with rfl|a
   ·exact g.1
   exact yL.get g.2 a
def HS(l:R bA):R Nat->R Nat->aI
 |_,[]=>U
 |a,i::b=>(a.any λk=>match l[k]? with |some ak=>fk i (kn ak)|none=>V)&&HS l (i::a) b
def O6{a:bE aI}(aq:∀i ak,l[i]? =S ak->a.getD i V=U->∀d∈kn ak,a.getD d V=U):∀{e b:R Nat},HS l b e=U->(∀k∈b,a.getD k V=U)->∀i∈e,a.getD i V=U
 | i::q,b,f,m,n,c=>by
   simp only[HS,hx,oA]at f;obtain⟨⟨k,g,h⟩,o⟩:=f;have p:a.getD i V=U:=by
    cases j:l[k]? with
    |none=>simp_all
    |some ak=>rw[j]at h;exact aq k ak j (m k g) i (mf.1 h)
   rcases fj.1 c with rfl|c
   ·exact p
   exact O6 aq o (λk g=>by grind) n c
def DK(l:R bA):R Nat->R Nat->aI
 |_,[]=>U
 |a,i::b=>(match l[i]? with |some ak=>a.any λk=>fk k (kn ak)|none=>V)&&DK l (i::a) b
def K7{a:bE aI}(aq:∀i ak,l[i]? =S ak->a.getD i V=U->∀d∈kn ak,a.getD d V=U):∀{e b:R Nat},DK l b e=U->(∀k∈b,a.getD k V=V)->∀i∈e,a.getD i V=V
 | i::r,b,f,A,j,c=>by
   simp only[DK,hx]at f;obtain⟨g,m⟩:=f;have n:a.getD i V=V:=by
    cases h:l[i]? with
    |none=>simp_all
    | some ak=>
      rw[h,oA]at g
      obtain⟨k,o,p⟩:=g
      cases q:a.getD i V with
      |false=>rfl
      |true=>have:=aq i ak h q k (mf.1 p);simp_all
   rcases fj.1 c with rfl|c
   ·exact n
   exact K7 aq m (λk o=>by grind) j c
def yw(l:R bA)(b c:R Nat):R Nat->R Nat->R Nat
 |[],a=>a
 |i::e,a=>yw l b c e (match l[i]? with |some ak=>(bif (fk i b&& !fk i c)||(kn ak).any (λd=>fk d a)then i::a else a)|none=>a)
def WK{l:R bA}{g h:R Nat}{c:bE aI}(o:∀i,i∈g->c.getD i V=fk i h)(aq:∀i ak,l[i]? =S ak->c.getD i V=U->∀d∈kn ak,c.getD d V=U):∀{q a:R Nat},(∀k∈a,c.getD k V=V)->∀k∈yw l g h q a,c.getD k V=V
 |[],a,j,k,e=>j k e
 | i::D,a,j,k,e=>by
   rw[yw]at e;revert e;generalize r:(match l[i]? with |some ak=>(bif (fk i g&& !fk i h)||(kn ak).any (λd=>fk d a)then i::a else a)|none=>a)=E;intro e;refine WK o aq (λm b=>?_) k e;rw[<-r]at b;cases p:l[i]? with
   |none=>simp_all
   | some ak=>
     rw[p]at b
     simp only at b
     cases n:(fk i g&& !fk i h)||(kn ak).any (λd=>fk d a)with
     |false=>rw[n]at b;simp_all
     | true=>
       rw[n]at b
       rcases fj.1 b with rfl|b
       ·rcases Bool.or_eq_true_iff.1 n with f|f
        ·simp only[hx,xf]at f
         rw[o m (mf.1 f.1),f.2]
        obtain⟨d,A,B⟩:=oA.1 f
        cases C:c.getD m V with
        |false=>rfl
        |true=>have:=aq m ak p C d A;rw[j d (mf.1 B)]at this;grind
       simp_all
def DL(l:R bA)(e:Nat)(a b c f g:R Nat)(aP:R (Nat×Nat))(h:R Nat):aI:=
 (b' (T l)).all (λi=>match l[i]? with
  |none=>V
  | some ak=>(kn ak).all (λd=>cd d i)&&(bif fk i a then fk i b||fk i g||(kn ak).any (λd=>fk d (yw l a b (b' (T l)) []))
    else fk i c||(kn ak).any (λd=>fk d (yw l a b (b' (T l)) []))||(fk i f&&aP.any λx=>ce x.1 i&&(match ak.dst with |some t=>ce t x.2|none=>V))))&&
 HS l b c&&a.all (λi=>cd i (T l))&&b.all (λi=>fk i a)&&aP.all (λx=>cd x.1 (T l))&&cb (aP.map (·.2)).Nodup&&(aP.map (·.1)).all (λi=> !fk i a)&&aP.all (λx=>cd x.2 e&& !fk x.2 h)&&cb (aP.map (·.1)).Nodup
def Pl{t:Nat}:∀{E:R (Nat×J)},fk t (E.map (·.1))=V->look E t=Y
 |[],_=>rfl
 | x::c,a=>by
   simp only[pv,fk]at a;cases b:ce x.1 t with
   |true=>simp_all
   |false=>rw[b]at a;simp only[look,b,cond_false];exact Pl a
def WL{i:Nat}{b:J}:∀{d:R (Nat×Nat×J)},DB i d=S b->∃t,(i,t,b)∈d
 | x::e,a=>by
   unfold DB at a;cases c:ce x.1 i with
   | true=>
     rw[c]at a
     have f:x.2.2=b:=by simp_all
     have:=kb.1 c
     grind
   |false=>rw[c]at a;obtain⟨t,g⟩:=WL a;grind
def b0.DC{e:R (Nat×J)}{a:cg}{f:bj}(g:b0 c E L a f)(d:∀t b,look e t=S b->look E t=S b):b0 c e L a f:=g.less λt b h=>⟨b,d t b h,λ_ _ _ d=>d⟩
def fe.core{ao:Nat}{h m:R Nat}{p:R (Nat×Nat×J)}{aP:R (Nat×Nat)}{ap:R Nat}(ar aa ab:R Nat)(aF:w9 c l E L p aa)(aG:yL c l Q h m p E L ab)
 (aH:(∀k∈h,k∈m)->af c Q .normal (kU (λ_=>U) E p) L) (aJ:p.map (λx=>(x.1,x.2.1))=aP) (aK:E.map (·.1)=ap) (aL:c.n=ao) (au:DL l ao h m ar aa ab aP ap=U):fe c l Q h m p E L:=by
 subst aJ aK aL
 simp only[DL,hx,qd,ik,uu]at au
 obtain⟨⟨⟨⟨⟨⟨⟨⟨a9,aM⟩,a_⟩,aN⟩,aO⟩,ba⟩,bb⟩,aR⟩,ac⟩:=au
 have B:tU p E:=⟨by simp_all[DJ,Function.comp_def],λt O=>by
  obtain⟨x,P,rfl⟩:=lk.1 O;have:=aR (x.1,x.2.1) (lk.2 ⟨x,P,rfl⟩);exact Pl (by simp_all)⟩
 have ac:(p.map (·.1)).Nodup:=by grind
 have ad:∀i,i<T l->∃ak,l[i]? =S ak∧(∀d∈kn ak,d<i)∧((bif fk i h then fk i m||fk i ab||(kn ak).any (λd=>fk d (yw l h m (b' (T l)) []))
  else fk i ar||(kn ak).any (λd=>fk d (yw l h m (b' (T l)) []))||(fk i aa&&(p.map λx=>(x.1,x.2.1)).any λx=>ce x.1 i&&(match ak.dst with |some t=>ce t x.2|none=>V)))=U):=λi n=>by
  simp_all
 have bc:∀(b:bE aI),A3 l h m b->∀(ak:bA),(∀d∈kn ak,b.getD d V=U)->(kn ak).any (λd=>fk d (yw l h m (b' (T l)) []))=V:=λb e ak aq=>by
  rw[Bt];intro d bd f;have:=WK e.eq e.w8 (by simp) d (mf.1 f);grind
 have be:∀(b:bE aI),A3 l h m b->∀i,b.getD i V=U->i<T l:=λb e i f=>by
  rw[<-e.size];grind
 have aS:∀(b:bE aI) (a:cg) (o:bj),A3 l h m b->(∀i,i<T l->b.getD i V=U)->b0 c (kU (λi=>b.getD i V) E p) L a o->cr .any l.toArray b=[]∧Q .normal a o:=λb a o e f A=>by
  refine⟨?_,aH (λk r=>?_) a o (A.DC λt av G=>(mQ B).2 (((mQ B).1 G).imp (λ⟨i,_,ae⟩=>⟨i,?_,ae⟩) id))⟩
  ·rw[List.eq_nil_iff_forall_not_mem];intro g C;obtain⟨j,ak,H,_⟩:=xx.1 C;grind
  ·have:=e.eq k r;rw[f k (by simp_all)]at this;exact mf.1 this.symm
  have:=aO (i,t) (lk.2 ⟨_,ae,rfl⟩);simp_all
 have aw:∀(b:bE aI),A3 l h m b->(∀i,i<T l->b.getD i V=U)∨∃i,i<T l∧b.getD i V=V:=λb e=>by
  grind
 refine⟨⟨B,λx P=>?_⟩,λI=>?_⟩
 ·grind
 induction I with
 | zero=>
   intro b a o e aT A
   rcases aw b e with f|⟨i,n,f⟩
   ·exact aS b a o e f A
   have:i∈(b' (T l)).filter λg=> !b.getD g V:=uk.2 ⟨qW.2 n,by grind⟩
   grind[yF]
 | succ I aU=>
   intro b a o e aT A
   refine⟨λbf=>?_,λi n=>?_⟩
   ·rcases aw b e with f|⟨i,n,f⟩
    ·grind
    exfalso
    have aV:∀d i,i<=d->i<T l->b.getD i V=U:=by
     intro d;induction d with
     | zero=>
       intro i aW n
       cases G:b.getD i V with
       |true=>rfl
       | false=>
         obtain⟨ak,H,aq,_⟩:=ad i n
         have:i∈cr .any l.toArray b:=xx.2 ⟨getD_in (by rw[e.size];exact n) G,ak,by grind,λq aX ag=>by
          have:=aq q.on (GN.2 ⟨q,by grind,ag,rfl⟩);omega⟩
         grind
     | succ d bg=>
       intro i aW n
       cases G:b.getD i V with
       |true=>rfl
       | false=>
         obtain⟨ak,H,aq,_⟩:=ad i n
         have:i∈cr .any l.toArray b:=xx.2 ⟨getD_in (by rw[e.size];exact n) G,ak,by grind,λq aX ag=>by
          have j:=aq q.on (GN.2 ⟨q,by grind,ag,rfl⟩);grind⟩
         grind
    rw[aV i i (jT _) n]at f;cases f
   obtain⟨ah,ak,H,bh⟩:=xx.1 n
   have ah:=getD_both ah
   have K:l[i]? =S ak:=by grind
   have ai:i<T l:=(lX.1 K).1
   have aj:∀d∈kn ak,b.getD d V=U:=λd aq=>by
    obtain⟨q,j,ae,rfl⟩:=GN.1 aq;grind
   have ax:∀g,(b.setIfInBounds i U).getD g V=U->b.getD g V=U∨g=i:=λg C=>by
    by_cases q:i=g
    ·omega
    rw[getD_set_ne V q]at C;grind
   have ay:yF l (b.setIfInBounds i U)<=I:=by
    have:yF l (b.setIfInBounds i U)<yF l b:=by
     refine Yw (λg=> !b.getD g V) (λg=> !(b.setIfInBounds i U).getD g V) i (by grind) (by simp[e.size,ai]) (λg C=>?_) (T l) ai;grind[getD_set_true]
    omega
   obtain⟨bi,az,_,D⟩:=ad i ai
   rw[K]at az;cases az
   cases M:fk i h with
   | true=>
     rw[M]at D
     simp only[cond_true,qV]at D
     rcases D with(j|j)|j
     ·have:=e.eq i (mf.1 M)
      grind
     ·exact UZ H (yL.get aG (mf.1 j) B I b ak K e ah aj ay a o A)
     grind
   | false=>
     rw[M]at D
     simp only[cond_false,qV]at D
     rcases D with(j|j)|j
     ·have:=O6 e.w8 aM (λk r=>by rw[e.eq k (mf.1 (aN k r))];exact mf.2 r) i (mf.1 j)
      grind
     ·grind
     simp only[hx,oA]at j
     obtain⟨j,⟨x,P,aY,aA⟩⟩:=j
     obtain⟨y,aZ,rfl⟩:=lk.1 P
     obtain⟨bk,av,aB,a0,a1⟩:=w9.get aF (mf.1 j)
     rw[K]at aB;cases aB
     obtain⟨t,O⟩:=WL a0
     have a2:=kb.1 aY
     have:=Lt ac aZ O a2
     subst this
     have a3:ak.dst=S t:=by
      cases aq:ak.dst with
      |none=>grind
      |some z=>rw[aq]at aA;rw[kb.1 aA]
     have aQ:cd t c.n=U:=by
      grind
     have a4:b0 c (kU (λg=>fk g (kn ak)) E p) L a o:=A.DC λa5 a6 f=>Rw (λg C=>aj g (mf.1 C)) B f
     have a7:A3 l h m (b.setIfInBounds i U):=⟨by rw[M4];exact e.size,λk r=>(by
      rw[getD_set_ne V (λq=>by subst q;rw[mf.2 r]at M;cases M)];exact e.eq k r),λk a8 al r d aq=>(by
      rcases ax k r with f|rfl
      ·exact getD_set_true (e.w8 k a8 al f d aq)
      rw[K]at al;cases al;exact getD_set_true (aj d aq))⟩
     have aC:∀N F,Fr [] o F->av.holds (aP L++c.cv) F N->wpAnyIn c.F 9 c.P .any l.toArray Q I (b.setIfInBounds i U) (a.put ak.dst N) F:=λN F am an=>by
      refine aU _ _ _ a7 ay ?_;rw[a3];exact((A.world am).put (by simpa using aQ) an).DC λa5 a6 f=>ai2 ax B O ac f
     have aD:=a1 a o a4
     unfold wpOpIn
     simp only[H]
     split
     ·rename_i aE
      exact hr.wpIn (aD.1 aE) λN F ⟨am,an⟩=>aC N F am an
     rename_i aE
     exact⟨λ_ _=>trivial,aC undef o (.refl _ _) (aD.2 (by grind))⟩
def gf.of{m n:R Nat}{o:R (Nat×Nat×J)}{k:Nat}{p:aB}(D:p->R (Nat×J))(F:p->R (Nat×Nat×J))(aD:p->R aK){aP:R Nat}(K:∀g,fe c l Q m (k::n) (F g++o) (D g++E) (aD g))
 (h:∀ak,l[k]? =S ak->∀(cH:cK->cg->bj->Prop) (q:R (Nat×J)),(∀{t r},look (kU (λb=>fk b (kn ak)) E o) t=S r->look q t=S r)->(∀g,af c cH .normal (D g++q) (aD g))->aa c l.toArray cH [ak] q L)
 (am:fk k m=U:=by rfl) (an:∀g,(F g).map (·.1)=aP:=by exact λ_=>rfl) (M:DK l [k] aP=U:=by kernel_rfl):gf c l Q m n o E L k:=λN O A ak G j ao H P=>by
 refine h ak G _ _ (λh=>Rw (λb f=>H b (mf.1 f)) N h) λg a ab ac=>?_
 obtain⟨⟨B,ap⟩,ad⟩:=K g
 have ar:k<A.size:=by rw[j.size];grind
 have I:∀b,(A.setIfInBounds k U).getD b V=U->A.getD b V=U∨b=k:=λb f=>by
  by_cases e:k=b
  ·omega
  simp_all
 refine ad O _ a ab ⟨by rw[M4];exact j.size,λb f=>?_,λb ae C f d aq=>?_⟩ P (ac.DC λt r ag=>alS B.app ((mQ B.app).2 (((mQ B).1 ag).imp (λ⟨i,ah,ai⟩=>?_) id)))
 ·by_cases e:k=b
  ·simp_all[fk]
  rw[getD_set_ne V e,j.eq b f]
  show _=bif ce k b then U else fk b n
  simp_all
 ·rcases I b f with h|rfl
  ·exact getD_set_true (j.w8 b ae C h d aq)
  rw[G]at C;cases C;exact getD_set_true (H d aq)
 have aj:i≠k:=λe=>by grind
 have au:=(I i ah).resolve_right aj
 rcases eN.1 ai with al|al
 ·have:=K7 j.w8 M (λb f=>by simp_all) i (by grind)
  simp_all
 grind
inductive tZ(iO:List (Nat×Nat×J))(aP:List Nat):List (Nat×Nat×J)->Prop
 |nil:tZ iO aP []
 |new {i t:Nat} {dm:J} {r:List (Nat×Nat×J)}:fk i aP=U->tZ iO aP r->tZ iO aP ((i,t,dm)::r)
 |eW {i t:Nat} {dm:J} {r:List (Nat×Nat×J)}:Mr i iO=S (t,dm)->tZ iO aP r->tZ iO aP ((i,t,dm)::r)
def WM{i t:Nat}{b:J}:∀{d:R (Nat×Nat×J)},Mr i d=S (t,b)->(i,t,b)∈d
 | x::e,a=>by
   unfold Mr at a;cases c:ce x.1 i with
   | true=>
     rw[c]at a
     have f:x.2=(t,b):=by simp_all
     have:=kb.1 c
     grind
   |false=>rw[c]at a;exact gO _ (WM a)
def tZ.mem{e:R (Nat×Nat×J)}{aP:R Nat}{i t:Nat}{f:J}:∀{g:R (Nat×Nat×J)},tZ e aP g->(i,t,f)∈g->i∈aP∨(i,t,f)∈e
 | _,.new b c,a=>by
   rcases fj.1 a with d|a
   ·cases d;exact .inl (mf.1 b)
   exact c.mem a
 | _,.eW b c,a=>by
   rcases fj.1 a with d|a
   ·cases d;exact .inr (WM b)
   exact c.mem a
def gf.to{r A C:R Nat}{D:R (Nat×Nat×J)}{k:Nat}{B:aB}{F:B->R (Nat×Nat×J)}{M:B->R (Nat×J)}{N:B->R aK}(aP:R Nat)(m:B->R (Nat×J))(ac:∀g,fe c l Q r C (F g) (M g) (N g))
 (h:∀ak,l[k]? =S ak->∀(cH:cK->cg->bj->Prop) (G:R (Nat×J)),(∀{t n},look (kU (λb=>fk b (kn ak)) E D) t=S n->look G t=S n)->(∀g,af c cH .normal (m g++G) (N g))->aa c l.toArray cH [ak] G L)
 (ay:fk k r=U:=by rfl) (az:(r.all λi=>fk i C==fk i (k::A))=U:=by rfl) (ad:∀g,tZ D aP (F g):=by intro _;repeat (first|exact tZ.nil|refine tZ.eW o ?_|refine tZ.new o ?_)) (aA:∀g,gp (m g++E) (M g):=by intro _;repeat (first|exact gp.nil|refine gp.same o ?_))
 (aq:∀g,((F g).all λx=> !fk x.2.1 ((m g).map (·.1)))=U:=by exact λ_=>rfl) (ae:DK l [k] aP=U:=by kernel_rfl):gf c l Q r A D E L k:=λH ag I ak O p aC P ah=>by
 refine h ak O _ _ (λh=>Rw (λb f=>P b (mf.1 f)) H h) λg a ai aj=>?_
 obtain⟨⟨al,aD⟩,am⟩:=ac g
 have aE:k<I.size:=by rw[p.size];grind
 have ab:∀b,(I.setIfInBounds k U).getD b V=U->I.getD b V=U∨b=k:=λb f=>by
  by_cases e:k=b
  ·omega
  simp_all
 refine am ag _ a ai ⟨by rw[M4];exact p.size,λb f=>?_,λb an K f d aq=>?_⟩ ah (aj.less λt n ao=>?_)
 ·have q:fk b C=fk b (k::A):=by simp_all
  rw[q]
  by_cases e:k=b
  ·simp_all[fk]
  rw[getD_set_ne V e,p.eq b f]
  show _=bif ce k b then U else fk b A
  simp_all
 ·rcases ab b f with h|rfl
  ·exact getD_set_true (p.w8 b an K h d aq)
  rw[O]at K;cases K;exact getD_set_true (P d aq)
 rcases (mQ al).1 ao with⟨i,ap,q⟩|q
 ·have ar:i≠k:=λe=>by grind
  have au:=(ab i ap).resolve_right ar
  have av:look (m g) t=Y:=Pl (by grind)
  refine⟨n,?_,λ_ _ _ h=>h⟩
  rw[CJ,av]
  rcases (ad g).mem q with j|j
  ·have:=K7 p.w8 ae (λb f=>by simp_all) i j
   simp_all
  exact(mQ H).2 (.inl ⟨i,au,j⟩)
 obtain⟨aw,j,ax⟩:=(aA g).look t n q
 refine⟨aw,?_,ax⟩
 rw[CJ]at j⊢
 cases aQ:look (m g) t with
 |some aF=>simp_all
 |none=>rw[aQ]at j;exact(mQ H).2 (.inr j)
def fe.cut{aY:aB}{a b AR:R Nat}{d:R (Nat×Nat×J)}(e:aY->R (Nat×Nat×J))(f:aY->R (Nat×J))(h:aY->R aK)(i:∀g,fe c l Q a AR (e g) (f g) (h g))
 (j:(∀g,fe c l Q a AR (e g) (f g) (h g))->fe c l Q a b d E L):fe c l Q a b d E L:=j i
def fe.mid{g:Nat}{a b:R Nat}{d:R (Nat×Nat×J)}{aP:R (Nat×Nat)}{i:R Nat}(j e f:R Nat)(av:w9 c l E L d e)(aA:yL c l Q a b d E L f)(aQ:a.all (λk=>fk k b)=V:=by rfl)
 (m:d.map (λx=>(x.1,x.2.1))=aP:=by rfl) (n:E.map (·.1)=i:=by rfl) (o:c.n=g:=by rfl) (p:DL l g a b j e f aP i=U:=by kernel_rfl):fe c l Q a b d E L:=
 .core j e f av aA (λh=>absurd (show a.all (λk=>fk k b)=U from qd.2 λk q=>mf.2 (h k q)) (by simp_all)) m n o p
def fe.last{d:Nat}{e f:R Nat}{a:R (Nat×Nat×J)}{aP:R (Nat×Nat)}{g:R Nat}(h b:R Nat)(av:w9 c l E L a b)(i:af c Q .normal (kU (λ_=>U) E a) L)
 (j:a.map (λx=>(x.1,x.2.1))=aP:=by rfl) (k:E.map (·.1)=g:=by rfl) (m:c.n=d:=by rfl) (n:DL l d e f h b [] aP g=U:=by kernel_rfl):fe c l Q e f a E L:=
 .core h b [] av bo (λ_=>i) j k m n
def ar.tL{e:Nat}(f:c.P.follows .mixedOrders=U)(g:R Nat)(h:R (Nat×Nat×J))(b:fe c l Q g [] h E L):ar c Q (.region e l.toArray U) E L:=λa d j=>by
 refine wpIn_region_any f ?_;have k:∀i,(cn l.toArray.size V).getD i V=V:=λi=>by
  rcases Fv i (T l) with b|b <;> simp[b]
 have:=b.2 l.toArray.size (cn l.toArray.size V) a d.drew ⟨by simp,λi _=>k i,λi ak _ b=>by simp_all⟩ ?_ ((j.world (eo d)).DC λt o m=>?_)
 ·simp_all
 ·grind[yF]
 rcases (mQ b.1.1).1 m with⟨i,n,_⟩|n
 ·simp_all
 omega
def ahV{F:Fence}{n:Nat}{P:cV}{ak:bA}{a:cg}{f:cg->bj->Prop}{g:cg->bj->Prop}{Q:cK->cg->bj->Prop}:∀{c:Result Next},ak.uponIn F n P a f Q c->ak.uponIn F n P a f (yK g Q) c:=λ{c} b=>by
 cases c with
 | ok x w=>
   cases x <;> simp only[Oper.uponIn]at b⊢ <;> first
    |exact b
    |exact⟨b.1,CallsIn.mono b.2 (λd h e=>by cases d <;> exact e)⟩
    |exact⟨b.1,RoundIn.mono b.2 (λd h e=>by cases d <;> exact e)⟩
 |halt x w=>cases x <;> simp only[Oper.uponIn]at b⊢ <;> exact b
def alT{F:Fence}{n:Nat}{P:cV}{ops:bE bA}{Q:cK->cg->bj->Prop}{ak:bA}{d:R bA}{a:cg}{w:bj}{e:cg->bj->Prop}(f:∀a w,wpListIn F n P ops Q d a w->e a w)(b:wpListIn F n P ops Q (ak::d) a w):wpListIn F n P ops (yK e Q) [ak] a w:=by
 unfold wpListIn at b⊢;split
 ·rename_i c;rw[bT c]at b;have b:=Oper.wpIn_mono f b;exact⟨b.1,ahV b.2⟩
 rename_i c;rw[bU c]at b;exact⟨b.1,f _ _ b.2⟩
def U0{F:Fence}{n:Nat}{P:cV}{h:Region.Mode}{ops:bE bA}{e:cK->cg->bj->Prop}:∀(l:R bA) (k b:Nat) (g:bE aI) (a:cg) (w:bj),(∀f,l[f]? =ops[k+f]?)->
 cw h ops (T l) k g=U->T l<=b->wpListIn F n P ops e l a w->wpAnyIn F n P h ops e b g a w
 |[],_,0,_,_,_,_,c,_,d=>⟨by simp_all[cw],d⟩
 |[],_,b+1,_,_,_,_,c,_,d=>⟨λ_=>d,λi j=>by simp_all[cw]⟩
 | ak::l,k,b+1,g,a,w,m,c,C,d=>by
   have o:ops[k]? =S ak:=by simpa using (m 0).symm
   simp only[List.length_cons,cw,hx,ik]at c;refine⟨λD=>(by simp_all),λi j=>?_⟩;rw[c.1]at j;have p:i=k:=by simp_all
   subst p;have q:wpOpIn F n P ops e i (wpListIn F n P ops e l) a w:=by unfold wpOpIn;simp only[o];exact d
   exact wpOpIn_mono (λr A B=>U0 l (i+1) b _ r A (λf=>by have:=m (f+1);grind) c.2 (by simp_all) B) q
def yG(k n:Nat):bE aI:=((b' n).map λi=>cd i k).toArray
def gf.tail{I K:R Nat}{o:R (Nat×Nat×J)}{k:Nat}(q:R Nat)(h:aa c l.toArray Q (l.drop k) (kU (λ_=>U) E o) L)(M:(o.all λx=>cd x.1 k)=U:=by rfl)
 (r:(HS l [k] q&&(b' k).all (λi=>fk i q)&&DK l [k] ((b' (T l-(k+1))).map (· +(k+1))))=U:=by kernel_rfl) (aR:cw .any l.toArray (T l-(k+1)) (k+1) (yG (k+1) (T l))=U:=by kernel_rfl):gf c l Q I K o E L k:=λA B b ak C j av N O=>by
 simp only[hx,qd]at r
 obtain⟨⟨P,ab⟩,ac⟩:=r
 have ad:k<T l:=(lX.1 C).1
 have ae:∀i m,l[i]? =S m->(b.setIfInBounds k U).getD i V=U->∀d∈kn m,(b.setIfInBounds k U).getD d V=U:=λi m f g d aq=>by
  by_cases e:k=i
  ·subst e;rw[C]at f;cases f;exact getD_set_true (N d aq)
  rw[getD_set_ne V e]at g;exact getD_set_true (j.w8 i m f g d aq)
 have D:∀i,i<k->(b.setIfInBounds k U).getD i V=U:=λi f=>O6 ae P (λn g=>by rw[mF.1 g];simp[j.size,ad]) i (mf.1 (ab i (qW.2 f)))
 have F:b.setIfInBounds k U=yG (k+1) (T l):=by
  apply Array.ext
  ·simp[yG,j.size]
  intro i af p;have aw:i<T l:=by simp_all[yG]
  have ag:(b.setIfInBounds k U)[i]=(b.setIfInBounds k U).getD i V:=by
   rw[SN,M3 af];rfl
  rw[ag];simp only[yG,dk,xi,Nx];rcases ED i k with ah|rfl|ai
  ·rw[D i ah];exact(Nat.ble_eq_true_of_le (by omega:i+1<=k+1)).symm
  ·simp_all
  rw[getD_set_ne V (Nat.ne_of_lt ai),K7 j.w8 ac (λn g=>by simp_all) i (lk.2 ⟨i-(k+1),qW.2 (by omega),by omega⟩)];cases ax:cd i (k+1)with
  |false=>rfl
  |true=>have:=pq ax;omega
 have aj:T (l.drop (k+1))<=B:=by
  refine mK ?_ O;rw[F];unfold yF;have aF:b' (T l)=b' (k+1)++(b' (T l-(k+1))).map ((k+1)+ ·):=by
   rw[<-List.range_add];congr 1;omega
  have ay:((b' (T l-(k+1))).map ((k+1)+ ·)).filter (λn=> !(yG (k+1) (T l)).getD n V)=(b' (T l-(k+1))).map ((k+1)+ ·):=by
   refine rU.2 λx al=>?_;obtain⟨y,G,rfl⟩:=lk.1 al;have G:=qW.1 G;rw[SN,M3 (by simp_all[yG])];simp only[yG,dk,xi,Nx,d4];cases ax:cd (k+1+y) (k+1)with
   |false=>rfl
   |true=>have:=pq ax;omega
  grind
 have aq:l.drop k=ak::l.drop (k+1):=by grind[List.drop_eq_getElem_cons]
 rw[aq]at h
 intro a H am
 refine alT (λan ao ap=>?_) (show c.tR l.toArray Q (ak::l.drop (k+1)) a H from h a H (am.DC λt az ar=>(mQ A).2 (((mQ A).1 ar).imp (λ⟨i,_,p⟩=>⟨i,?_,p⟩) id)))
 ·rw[F]
  exact U0 (l.drop (k+1)) (k+1) B _ an ao (λn=>by simp) (by simp_all) aj ap
 have au:i<k:=by have:=qd.1 M _ p;simp_all
 have:=D i au
 rw[getD_set_ne V (by omega)]at this
 omega
end
end Gv
