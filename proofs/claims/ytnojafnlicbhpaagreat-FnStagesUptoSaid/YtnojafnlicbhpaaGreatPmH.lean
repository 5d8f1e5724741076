import Derived.Test.YtnojafnlicbhpaaGreatPmG
open Bool renaming false→aa,true→Z
open Option renaming none→ae,some→J
set_option linter.defProp false
namespace Go.Pm
open Go.Am
def eC:=@decide_eq_true_eq
def we:=@decide_eq_false_iff_not
structure aY where
 nt:Nat
 io:List Nat
 fz:List Nat
 hp:List Nat
def G2(pf:ah)(s:Nat)(p:aA)(i j:Nat):Option PV->Option (PF×ah)
 |some (.agg xs)=>if bK (.agg xs)=Z then(mz pf s p i j (xs.map drop)).map λpf'=>(.v (.agg (xs.map drop)),pf')else J (.v (.agg xs),pf)
 |_=>ae
def JF(pf:ah)(s:Nat)(p:aA):Option PV->Option (PF×ah)
 |some x=>if dt x=Z then ae else(iw pf s p (drop x)).map λpf'=>(.v (drop x),pf')
 |none=>ae
def uD(pf:ah):PF->Option (PF×ah)
 | .v x=>J (.v (drop x),pf)
 | .rf s p=>JF pf s p (cj pf s p)
 | .ra s p i j n=>G2 pf s p i j (dR pf (.ra s p i j n))
 |y=>J (y,pf)
def GZ(K:ah->Prop)(d:Nat):Option (PF×ah)->Prop
 |some r=>K (r.2.put d r.1)
 |none=>False
def gO(c:aY)(d:Nat)(y:PF):Bool:=decide (d<c.nt)&& !c.io.contains d&& !(bC y==J d)
def dC(c:aY)(K:ah->Prop)(d:Option Tmp)(y:PF)(pf:ah):Prop:=
 match d with
 |none=>K pf
 |some d=>gO c d y=Z/\if c.fz.contains d=Z then GZ K d (uD pf y)else K (pf.put d y)
def wF:List PV->Option (List Value)
 |[]=>J []
 | .int k n::r=>(wF r).map λl=>.int k n::l
 |_=>ae
def sR:PV->Option Value
 | .agg xs=>(wF xs).map λl=>.agg l.toArray
 | .bool b=>J (.bool b)
 | .int k n=>J (.int k n)
 | .str s=>J (.string s)
 |_=>ae
def kT:Value->Option PV
 | .bool b=>J (.bool b)
 | .int k n=>J (.int k n)
 | .string s=>J (.str s)
 |_=>ae
def D3:PF->Option Value
 | .v x=>sR x
 |_=>ae
def cq(pf:ah):Operand->Option Value
 | .tmp t=>D3 (pf t)
 | .const k=>if ct k=Z then sR (nb 0 k)else ae
 |_=>ae
def pm(pf:ah):List Operand->Option (List Value)
 |[]=>J []
 |x::xs=>(cq pf x).bind λv=>(pm pf xs).map λvs=>v::vs
def lR(P:Program)(c:aY)(o:Oper)(K:ah->Prop)(pf:ah):Prop:=
 match(gw o.op).bind (pm pf)with
 |some vs=>match(eD P o.op vs).bind kT with
  |some y=>dC c K o.dst (.v y) pf
  |none=>False
 |none=>False
inductive AD where
 |pl (s:Nat) (p:aA) (i j:Nat)
 |fz (row:List PV)
def xq(t:Nat):PV->Option AD
 | .bx _=>J (.pl t [] 0 0)
 | .fp row=>J (.fz row)
 |_=>ae
def zh(s:Nat)(p:aA):PV->Option AD
 | .bx _=>J (.pl s p 0 0)
 | .fp row=>J (.fz row)
 |_=>ae
def qA(pf:ah)(t:Nat):PF->Option AD
 | .bl _=>J (.pl t [] 0 0)
 | .v x=>xq t x
 | .pt s p i j=>J (.pl s p i j)
 | .rf s p=>(cj pf s p).bind (zh s p)
 |_=>ae
def mT(pf:ah):Operand->Option AD
 | .tmp t=>qA pf t (pf t)
 |_=>ae
def uB:AD->PF
 | .pl s p i j=>.pt s p i j
 | .fz row=>.v (.fp row)
def wM(o:Nat):AD->Option AD
 | .pl s p i j=>J (.pl s p i (j+o))
 | .fz row=>if o<=row.length then J (.fz (row.drop o))else ae
def HD(pf:ah)(s:Nat)(p:aA)(i:Nat):Option (List PV):=(cj pf s p).bind (lF i)
def C6(tz:Bool×Nat)(s:Nat)(p:aA)(i j:Nat)(row:List PV):Option PF:=
 match tz with
 |(Z,sz)=>if j+sz<=row.length then J (if((row.drop j).take sz).any bK=Z then .ra s p i j sz else .v (.agg ((row.drop j).take sz)))else ae
 |(aa,_)=>match row.drop j with
  |x::_=>J (if bK x=Z then .rf s (p++[(i,j)])else .v x)
  |[]=>ae
def D0(tz:Bool×Nat)(row:List PV):Option PF:=
 match tz with
 |(Z,sz)=>if sz<=row.length then J (.v (.agg (row.take sz)))else ae
 |(aa,_)=>match row with
  |x::_=>J (.v x)
  |[]=>ae
def Cz(tz:Bool×Nat)(pf:ah):AD->Option PF
 | .pl s p i j=>(HD pf s p i).bind (C6 tz s p i j)
 | .fz row=>D0 tz row
section
variable {nt:Nat}{pin:List (Nat×Value)}{E0 E E':Env}{pf:ah}{fr ai:FR}{c:aY}{P:Program}
structure ep (c:aY) (pin:List (Nat×Value)):Prop where
 h:∀k v,(k,v)∈pin->k∈c.io
variable{K:ah->Prop}{K':FR->AH->Prop}{ad:AD}{d s:Nat}{fv:FV}{l:Lo}{p:aA}{row:List PV}{v:Value}{x:PV}{y:PF}
def N5(h:gO c d y=Z):d<c.nt/\d∉c.io/\bC y≠J d:=by
 simp only[gO,bI,eC,qd,List.contains_eq_mem,we,beq_eq_false_iff_ne,ne_eq]at h;exact⟨h.1.1,h.1.2,h.2⟩
def X1{x:Option (PF×ah)}(h:GZ K d x):∃r,x=J r/\K (r.2.put d r.1):=by
 cases x with
 |none=>cases h
 |some r=>exact⟨r,rfl,h⟩
def d7.rl(h:d7 E){f:Nat×aA->Option (Nat×aA)}:d7 (E.rl f):=⟨h.wf,λid bY=>by
 obtain⟨h1,h2⟩:=h.fresh id bY
 exact⟨by simp[Env.rl,h1],h2⟩⟩
def d7.fz(h:d7 E){a:Nat×aA}:d7 (E.fz a):=⟨h.wf,λid bY=>by
 obtain⟨h1,h2⟩:=h.fresh id bY;refine⟨h1,?_⟩;rintro(h3|⟨r,h3⟩)
 ·exact h2 h3
 ·rw[h1]at h3;cases h3⟩
def aq.env(r:aq nt pin E0 E pf fr)(d6:d7 E')(iP:fU E E')(hm:∀s,s<nt->du E E' (J (s,[])) (J (s,[]))):aq nt pin E0 E' pf fr:=by
 refine⟨r.since.trans iP,d6.wf,d6.fresh,λt=>?_,r.hi,r.rt,r.pin⟩;rcases dK t nt with ht|ht
 ·exact(r.f t).stay iP.g (hm t ht) rfl λs hs=>⟨rfl,KL.Ir (hm s (r.rt t s hs))⟩
 ·rw[r.hi t ht];exact wA
def zri(r:aq c.nt pin E0 E pf fr)(hp:ep c pin)(hx:PR E (J (c.nt,[(0,0)])) x v){d:Option Tmp}(h:dC c K d (.v x) pf)
(hk:∀pf' ai E',K pf'->aq c.nt pin E0 E' pf' ai->E'.H=E.H->K' ai E'.H):bB c.nt K' d (.v v) fr E.H:=by
 cases d with
 |none=>exact hk pf fr E h r rfl
 |some d=>
  obtain⟨h1,h2⟩:=h;obtain⟨c1,c2,c3⟩:=N5 h1;simp only[bB,aB c1];have jU:∀w,(d,w)∉pin:=λw hw=>c2 (hp.h d w hw)
  split at h2
  ·
   have h2:K (pf.put d (.v (drop x))):=h2;have hd:PR (E.fz (c.nt,[(0,0)])) ae (drop x) v:=hx.freeze pV MK;refine hk _ _ (E.fz (c.nt,[(0,0)])) h2 ?_ rfl;exact r.set c1 jU pV (λs hs _=>yX (by show s≠c.nt;omega)) EZ r.ok.fz.wf r.ok.fz.fresh (n0 (by simp[FR.put]) hd.up) (λs hs=>by cases hs)
  ·refine hk _ _ (E.rl (fg (c.nt,[(0,0)]) (d,[]))) h2 ?_ rfl;exact r.set c1 jU dO (λs hs _=>iZ λq=>kB (by show s≠c.nt;omega)) nS r.ok.rl.wf r.ok.rl.fresh (n0 (by simp[FR.put]) (hx.move dO (k8 λq=>zgw _ _ q))) (λs hs=>by cases hs)
def gC(r:aq c.nt pin E0 E pf fr)(hp:ep c pin)(hx:PR E (J (c.nt,[(0,0)])) x v){d:Option Tmp}(h:dC c K d (.v x) pf)
(hk:∀pf' ai E',K pf'->aq c.nt pin E0 E' pf' ai->K' ai E'.H):bB c.nt K' d (.v v) fr E.H:=zri r hp hx h λpf' ai E' a b _=>hk pf' ai E' a b
def Wk.frame(h:Wk E fr s p v)(hd:s≠d):Wk E (fr.put d fv) s p v:=by
 have e:(fr.put d fv) s=fr s:=by simp[FR.put,hd]
 rcases h with⟨r,h1,h2⟩|⟨cells,j,p',y,h1,h2⟩
 ·exact .inl ⟨r,e.trans h1,h2⟩
 ·exact .inr ⟨cells,j,p',y,e.trans h1,h2⟩
def Ba(E:Env)(fr:FR)(y:PF)(fv:FV):Prop:=
 match y with
 | .pt s p i j=>I3 E fr s p i j fv
 | .rf s p=>∃v,fv=.v v/\Wk E fr s p v
 | .rv s p lo hi=>(Wk E fr s p (.slice ae 0 0)/\fv=.v (.slice ae 0 0)/\lo=0/\hi=0)\/
  ∃id off es n c,Wk E fr s p (.slice (J ⟨id,off,J es⟩) n c)/\lo<=hi/\hi<=n/\fv=.v (.slice (J ⟨id,off+lo*es,J es⟩) (hi-lo) (c-lo))
 | .ra s p i j n=>∃vs,fv=.v (.agg vs)/\(vs.toList.length=n/\n≠0)/\∀q y,vs.toList[q]? =J y->Wk E fr s (p++[(i,j+q)]) y
 | .as aa s p i j n=>∃vs:List Value,fv=.ls n 1 vs/\(vs.length=n/\n≠0)/\∀q y,vs[q]? =J y->Wk E fr s (p++[(i,j+q)]) y
 | .as Z s p i j _=>∃id off k v,fv=.v (.pointer (J ⟨id,off,ae⟩))/\E.G id/\E.H.b id=J k/\k.cells[off]? =J v/\Wk E fr s (p++[(i,j)]) v
 | .cl s g us=>Ww E fr s g us fv
 |_=>False
def zDr{t:Nat}(ha:bC y≠ae):oN E y fr t↔Ba E fr y (fr t):=by
 cases y with
 |v x=>simp[bC]at ha
 |skip=>simp[bC]at ha
 |ls _ _=>simp[bC]at ha
 |bl _=>simp[bC]at ha
 |pt s p i j=>exact Dc
 |rf s p=>exact Dc
 |rv s p lo hi=>exact Dc
 |ra s p i j n=>exact Dc
 |as b s p i j n=>cases b<;>exact Dc
 |cl s g us=>exact Dc
def Ba.frame{fx:FV}(h:Ba E fr y fv)(hd:bC y≠J d):Ba E (fr.put d fx) y fv:=by
 have wk:∀{s:Nat}{p:aA}{v:Value},bC y=J s->Wk E fr s p v->Wk E (fr.put d fx) s p v:=λhs hw=>hw.frame λe=>hd (by rw[hs,e])
 cases y with
 |pt s p i j=>
  rcases h with⟨cells,h1,h2⟩|⟨v0,id,o,h1,h2⟩
  ·have:s≠d:=λe=>hd (by rw[e];rfl)
   exact .inl ⟨cells,by simp[FR.put,this,h1],h2⟩
  ·exact .inr ⟨v0,id,o,wk rfl h1,h2⟩
 |rf s p=>obtain⟨v,h1,h2⟩:=h;exact⟨v,h1,wk rfl h2⟩
 |rv s p lo hi=>
  rcases h with⟨h1,h2⟩|⟨id,off,es,n,c,h1,h2⟩
  ·exact .inl ⟨wk rfl h1,h2⟩
  ·exact .inr ⟨id,off,es,n,c,wk rfl h1,h2⟩
 |ra s p i j n=>obtain⟨vs,h1,h2,h3⟩:=h;exact⟨vs,h1,h2,λq y hq=>wk rfl (h3 q y hq)⟩
 |as b s p i j n=>
  cases b with
  |false=>obtain⟨vs,h1,h2,h3⟩:=h;exact⟨vs,h1,h2,λq y hq=>wk rfl (h3 q y hq)⟩
  |true=>obtain⟨id,off,k,v,h1,hG,hb,hc,hw⟩:=h;exact⟨id,off,k,v,h1,hG,hb,hc,wk rfl hw⟩
 |cl s g us=>obtain⟨v,vs,h1,h2,h3⟩:=h;exact⟨v,vs,h1,wk rfl h2,h3⟩
 |_=>exact h
def zwm(r:aq nt pin E0 E pf fr){i j n:Nat}{y':PF}{pf':ah}{vs:Array Value}(hs:s<nt)(hl:vs.toList.length=n)(hw:∀q y,vs.toList[q]? =J y->Wk E fr s (p++[(i,j+q)]) y)
(hj:G2 pf s p i j (dR pf (.ra s p i j n))=J (y',pf')):∃E' x,y'=.v x/\E'.H=E.H/\d7 E'/\aq nt pin E0 E' pf' fr/\PR E' ae x (.agg vs):=by
 unfold G2 at hj;split at hj
 ·rename_i o xs gu;simp only[dR]at gu;obtain⟨row,TR,qQ⟩:=bR.1 gu;unfold yb at qQ;split at qQ
  ·rename_i cV;simp only[aT,PV.agg.injEq]at qQ;have g9:xs.length=n:=by rw[<-qQ];simp;omega
   have ic:∀q x,xs[q]? =J x->cj pf s (p++[(i,j+q)])=J x:=by
    intro q x hq;rw[S8 TR];rw[<-qQ,l6]at hq;split at hq
    ·rw[jd]at hq;exact hq
    ·cases hq
   have eV:∀q x v,xs[q]? =J x->vs.toList[q]? =J v->PR E (J (s,p++[(i,j+q)])) x v:=by
    intro q x v hq hv;by_cases hx:x=.au
    ·subst hx;exact .au v
    ·obtain⟨v',w1,w2⟩:=r.at (ic q x hq) hx (.inl Lk);rw[w1.same (hw q v hv)]at w2;exact w2
   split at hj
   ·rename_i ho;simp only[bN,b9]at hj;obtain⟨aQ,h1,rfl,rfl⟩:=hj;have hne:xs≠[]:=by rintro rfl;simp[ziJ]at ho
    let S:Nat×aA->Prop:=λx=>∃q r,q<n/\x=(s,p++(i,j+q)::r)
    let E1:Env:={E with G:=λid=>E.G id\/∃x,E.ow id=J x/\S x}
    have hg:GK E E1:=λ_ h=>⟨.inl h,λk hk=>⟨k,hk,rfl⟩⟩
    have iP:fU E E1:=⟨cy _,hg,λid _ h=>⟨h,rfl,by
     rintro(h3|⟨x,h3,_⟩)
     ·exact h3
     ·rw[h]at h3;cases h3⟩⟩
    have d6:d7 E1:=⟨r.wf,λid bY=>by
     obtain⟨h1,h2⟩:=r.fresh id bY;refine⟨h1,?_⟩;rintro(h3|⟨x,h3,_⟩)
     ·exact h2 h3
     ·rw[h1]at h3;cases h3⟩
    have zX:∀q x v,xs[q]? =J x->vs.toList[q]? =J v->PR E1 ae (drop x) v:=λq x v hq hv=>by
     have GH:q<n:=by have:=(cT.1 hq).1;omega
     refine(eV q x v hq hv).freeze hg λid r h1 _=>⟨.inr ⟨_,h1,q,r,GH,by simp⟩,λk hk=>⟨k,hk,rfl⟩⟩
    refine⟨E1,_,rfl,rfl,d6,?_,.agg (by simp;rw[g9];simpa using hl.symm) λq x v hq hv=>?_⟩
    ·refine r.R7 hs (by simpa using hne) h1 rfl iP hg (λt _ tY id q h1 h2=>⟨h1,?_,rfl⟩) d6.fresh (λid q g1 g2 g3=>⟨g1,?_⟩) λt z v g1 g2=>?_
     ·rintro(h3|⟨x,h3,q',r',hq',rfl⟩)
      ·exact h2 h3
      ·rw[h1,aT,b9]at h3;exact tY h3.1
     ·rintro(h3|⟨x,h3,q',r',hq',rfl⟩)
      ·exact g2 h3
      ·rw[g1,aT,b9]at h3;refine g3 (j+q') r' h3.2 ⟨by omega,?_⟩;simp;omega
     ·obtain⟨x,hq,rfl⟩:=mc g1;have mV:t<vs.toList.length:=by have:=(cT.1 hq).1;omega
      have hv:=cE mV;have:=(hw t _ hv).same g2;rw[this]at hv;exact(zX t x v hq hv).up
    ·obtain⟨x0,dy,rfl⟩:=mc hq;exact zX q x0 v dy hv
   ·rename_i ho;cases hj;have ho':bK (.agg xs)=aa:=by simpa using ho
    rw[ziJ,KA]at ho';refine⟨E,_,rfl,rfl,r.ok,r,.agg (by rw[g9,hl]) λq x v hq hv=>(eV q x v hq hv).free (by simpa using ho' x (eo hq))⟩
  ·cases qQ
 ·cases hj
def jk(r:aq c.nt pin E0 E pf fr)(hp:ep c pin){s0:Nat}(lD:bC y=J s0)(hs:s0<c.nt)(hx:Ba E fr y fv){d:Option Tmp}(h:dC c K d y pf)
(hk:∀pf' ai E',K pf'->aq c.nt pin E0 E' pf' ai->K' ai E'.H):bB c.nt K' d fv fr E.H:=by
 cases d with
 |none=>exact hk pf fr E h r
 |some d=>
  obtain⟨h1,h2⟩:=h;obtain⟨c1,c2,c3⟩:=N5 h1;simp only[bB,aB c1];have jU:∀w,(d,w)∉pin:=λw hw=>c2 (hp.h d w hw)
  have tf:K (pf.put d y)->K' (fr.put d fv) E.H:=λh2=>by
   refine hk _ _ E h2 (r.set c1 jU (GK.refl E) (λs _ _=>.refl _) (fU.refl E) r.wf r.fresh ?_ (λs mu=>by rw[lD]at mu;cases mu;exact hs));rw[zDr (by rw[lD];simp)];have:=hx.frame (fx:=fv) c3;simpa[FR.put]using this
  split at h2
  ·cases y with
   |rf s p=>
    obtain⟨v,rfl,w⟩:=hx;obtain⟨q,h3,h4⟩:=X1 h2;simp only[uD,JF]at h3;split at h3
    ·rename_i x hgx;split at h3
     ·cases h3
     ·rename_i hj;simp only[bN]at h3;obtain⟨aQ,k1,rfl⟩:=h3;simp only[bC,aT]at lD;subst lD;obtain⟨v',a1,a2,a3⟩:=r.Et hs hgx (n5 (by simpa using hj)) (iQ r w hgx) k1;have:=a1.same w;subst this;exact hk _ _ (E.fz (s,p)) h4 (a2.set c1 jU (GK.refl _) (λs _ _=>.refl _) (fU.refl _) a2.wf a2.fresh (n0 (by simp[FR.put]) a3.up) (λs hs=>by cases hs))
    ·cases h3
   |ra s p i j n=>
    obtain⟨vs,rfl,w1,w2⟩:=hx;obtain⟨⟨y',aQ⟩,h3,h4⟩:=X1 h2;simp only[bC,aT]at lD;subst lD;obtain⟨E1,x,rfl,e1,ok1,r1,xR⟩:=zwm r hs w1.1 w2 h3;have:=hk _ (fr.put d (.v (.agg vs))) E1 h4 (r1.set c1 jU (GK.refl _) (λs _ _=>.refl _) (fU.refl _) r1.wf r1.fresh (n0 (v:=.agg vs) (by simp[FR.put]) xR.up) (λs hs=>by cases hs));rw[e1]at this;exact this
   |pt s p i j=>exact tf h2
   |rv s p lo hi=>exact tf h2
   |as b s p i j n=>exact tf h2
   |cl s g us=>exact tf h2
   |_=>simp[bC]at lD
  ·exact tf h2
def zyU{l:Nat->Lo}:∀{xs:List PV}{vs ws:List Value},wF xs=J vs->xs.length=ws.length->(∀(j:Nat) (x:PV) (y:Value),xs[j]? =J x->ws[j]? =J y->PR E (l j) x y)->ws=vs:=by
 intro xs;induction xs generalizing l with
 |nil=>intro vs ws h1 h2 _;simp only[wF]at h1;cases h1;exact mL h2.symm
 |cons x xs ih=>
  intro vs ws h1 h2 h3;cases ws with
  |nil=>simp at h2
  |cons w ws=>
   cases x<;>simp only[wF]at h1<;>try cases h1
   simp only[bN]at h1;obtain⟨II,h4,rfl⟩:=h1;have h5:=h3 0 _ w rfl rfl;generalize l 0=l0 at h5;cases h5;exact gn _ (ih (l:=λj=>l (j+1)) h4 (by simpa using h2) λj x y hx hy=>h3 (j+1) x y (by simpa using hx) (by simpa using hy))
def VR{w:Value}(h:sR x=J v)(hr:PR E l x w):w=v:=by
 cases x with
 |agg xs=>
  simp only[sR,bN]at h;obtain⟨vs,h1,rfl⟩:=h;cases hr with
  |agg hl hh=>
   have:=zyU h1 hl hh;rw[<-this]
 |_=>simp[sR]at h<;>subst h<;>cases hr<;>rfl
def Ry(h:kT v=J x):PR E l x v:=by
 cases v<;>simp[kT]at h<;>subst h
 ·exact .bool _
 ·exact .int _ _
 ·exact .str _
def pA(r:aq nt pin E0 E pf fr){x:Operand}(h:cq pf x=J v):be fr x=J v:=by
 cases x with
 |tmp t=>
  simp only[cq]at h;have hf:=r.f t;cases aE:pf t with
  |v x=>
   rw[aE]at h hf;simp only[D3]at h;obtain⟨w,h1,h2⟩:=gi hf (by rintro rfl;simp[sR]at h);have:=VR h h2;subst this;simp[be,h1]
  |_=>rw[aE]at h;simp[D3]at h
 |const k=>
  simp only[cq]at h;split at h
  ·rename_i hk;have:=VR h (IP (E:=E) hk ae);subst this;simp[be,hk]
  ·cases h
 |func f=>simp[cq]at h
 |global g=>simp[cq]at h
def Oc{H:AH}{x:Operand}(h:be fr x=J v):bh fr H x=J (v,fr,H):=by
 cases x with
 |tmp t=>simp only[be]at h;split at h<;>simp_all [bh]
 |const c=>simp[bh,h]
 |func f=>simp[bh,h]
 |global g=>simp[be]at h
def zwM(r:aq nt pin E0 E pf fr):∀{xs:List Operand}{vs:List Value},pm pf xs=J vs->∀H,cn fr H xs=J (vs,fr,H):=by
 intro xs;induction xs with
 |nil=>intro vs h H;simp[pm]at h;simp[cn,h]
 |cons x xs ih=>
  intro vs h H;simp only[pm,bR,bN]at h;obtain⟨v,h1,vs1,h2,rfl⟩:=h;simp[cn,Oc (H:=H) (pA r h1),ih h2 H]
def yf(r:aq c.nt pin E0 E pf fr)(hp:ep c pin){o:Oper}(h:lR P c o K pf)
(hk:∀pf' ai E',K pf'->aq c.nt pin E0 E' pf' ai->K' ai E'.H):dA P c.nt o K' fr E.H:=by
 unfold lR at h;split at h
 ·rename_i vs j3;split at h
  ·rename_i y hy;simp only[bR]at j3 hy;obtain⟨xs,h1,h2⟩:=j3;obtain⟨v,h3,h4⟩:=hy;simp only[dA,h1,zwM r h2,h3];exact gC r hp (Ry h4) h hk
  ·cases h
 ·cases h
def F2(nt:Nat)(E:Env)(fr:FR)(fv:FV):AD->Prop
 | .pl s p i j=>s<nt/\I3 E fr s p i j fv
 | .fz row=>∃v,fv=.v v/\PR E ae (.fp row) v
def VZ(hw:Wk E fr s p v)(h:PR E (J (s,p)) (.bx row) v):I3 E fr s p 0 0 (.v v):=by
 cases h with
 |bx how hG hb bc hl hh=>exact .inr ⟨_,_,0,hw,.bx how hG,rfl⟩
def HF(r:aq nt pin E0 E pf fr){a:Operand}(h:mT pf a=J ad):∃fv,bM fr a=J fv/\F2 nt E fr fv ad:=by
 cases a with
 |tmp t=>
  simp only[mT]at h;have hf:=r.f t
  have ht:t<nt:=by
   rcases dK t nt with h1|h1
   ·exact h1
   ·rw[r.hi t h1]at h;simp[qA,jP,xq]at h
  cases aE:pf t with
  |bl row=>
   rw[aE]at h hf;simp only[qA,aT]at h;subst h;obtain⟨cells,c1,_⟩:=hf;exact⟨.lp t 0,by simp[bM,c1],ht,.inl ⟨cells,c1,rfl,rfl,rfl⟩⟩
  |v x=>
   rw[aE]at h hf;simp only[qA]at h;obtain⟨v,h1,h2⟩:=gi hf (by rintro rfl;simp[xq]at h);cases x with
   |bx row=>
    simp only[xq,aT]at h;subst h;exact⟨.v v,by simp[bM,h1],ht,VZ (.inl ⟨v,h1,rfl⟩) h2⟩
   |fp row=>
    simp only[xq,aT]at h;subst h;exact⟨.v v,by simp[bM,h1],v,rfl,h2.free (by simp[bK])⟩
   |_=>simp[xq]at h
  |pt s p i j=>
   rw[aE]at h hf;simp only[qA,aT]at h;subst h;have hs:=r.rt t s (by rw[aE];rfl);rcases hf with⟨cells,h1,h2,h3,h4⟩|⟨v0,id,o,h1,h2,h3⟩
   ·exact⟨.lp s j,by simp[bM,h4,h1],hs,.inl ⟨cells,h1,h2,h3,rfl⟩⟩
   ·exact⟨_,by simp[bM,h3],hs,.inr ⟨v0,id,o,h1,h2,rfl⟩⟩
  |rf s p=>
   rw[aE]at h hf;simp only[qA,bR]at h;obtain⟨x,hx,h⟩:=h;obtain⟨v,h1,h2⟩:=hf;obtain⟨v',w1,w2⟩:=r.at hx (by rintro rfl;simp[zh]at h) (iQ r h2 hx);have:=w1.same h2;subst this;cases x with
   |bx row=>
    simp only[zh,aT]at h;subst h;exact⟨.v v',by simp[bM,h1],r.rt t s (by rw[aE];rfl),VZ h2 w2⟩
   |fp row=>
    simp only[zh,aT]at h;subst h;exact⟨.v v',by simp[bM,h1],v',rfl,w2.free (by simp[bK])⟩
   |_=>simp[zh]at h
  |_=>rw[aE]at h;simp[qA]at h
 |_=>simp[mT]at h
def zE(r:aq c.nt pin E0 E pf fr)(hp:ep c pin)(hx:F2 c.nt E fr fv ad){d:Option Tmp}(h:dC c K d (uB ad) pf)
(hk:∀pf' ai E',K pf'->aq c.nt pin E0 E' pf' ai->K' ai E'.H):bB c.nt K' d fv fr E.H:=by
 cases ad with
 |pl s p i j=>exact jk r hp (y:=.pt s p i j) rfl hx.1 hx.2 h hk
 |fz row=>
  obtain⟨v,rfl,hv⟩:=hx;exact gC r hp hv.up h hk
def zA2{id off o:Nat}(h:PR E l (.fp row) (.pointer (J ⟨id,off,ae⟩)))(ho:o<=row.length):PR E l (.fp (row.drop o)) (.pointer (J ⟨id,off+o,ae⟩)):=by
 cases h with
 |fp hG hb hl hh=>
  refine .fp hG hb (by simp;omega) λj x y h1 h2=>?_
  rw[jd]at h1;exact hh (o+j) x y h1 (by rw[<-iN];exact h2)
def VE(h:PR E l (.fp row) v):∃id off,v=.pointer (J ⟨id,off,ae⟩):=by
 cases h;exact⟨_,_,rfl⟩
def Xd{Kj:AD}{o:Nat}(h:F2 nt E fr fv ad)(ha:wM o ad=J Kj):
 (∃t off,fv=.lp t off/\F2 nt E fr (.lp t (off+o)) Kj)\/∃id off,fv=.v (.pointer (J ⟨id,off,ae⟩))/\F2 nt E fr (.v (.pointer (J ⟨id,off+o,ae⟩))) Kj:=by
 cases ad with
 |pl s p i j=>
  simp only[wM,aT]at ha;subst ha;obtain⟨hs,h⟩:=h;rcases h with⟨cells,h1,h2,h3,rfl⟩|⟨v0,id,o',h1,h2,rfl⟩
  ·exact .inl ⟨s,j,rfl,hs,.inl ⟨cells,h1,h2,h3,rfl⟩⟩
  ·exact .inr ⟨id,o'+j,rfl,hs,.inr ⟨v0,id,o',h1,h2,by rw[iN]⟩⟩
 |fz row=>
  simp only[wM]at ha;split at ha
  ·rename_i cV;simp only[aT]at ha;subst ha;obtain⟨v,rfl,hv⟩:=h;obtain⟨id,off,rfl⟩:=VE hv;exact .inr ⟨id,off,rfl,_,rfl,zA2 hv cV⟩
  ·cases ha
end
end Go.Pm
