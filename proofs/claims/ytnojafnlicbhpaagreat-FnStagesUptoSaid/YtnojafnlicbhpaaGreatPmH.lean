import Derived.Test.YtnojafnlicbhpaaGreatPmG
open Bool renaming false→aa,true→Z
open Option renaming none→ae,some→J
set_option linter.defProp false
namespace Go.Pm
open Go.Am
def eO:=@decide_eq_true_eq
def xL:=@decide_eq_false_iff_not
structure aY where
 nt:Nat
 io:List Nat
 fz:List Nat
 hp:List Nat
def Ik(pf:ah)(s:Nat)(p:aC)(i j:Nat):Option PV->Option (PF×ah)
 |some (.agg xs)=>if bN (.agg xs)=Z then(mT pf s p i j (xs.map drop)).map λpf'=>(.v (.agg (xs.map drop)),pf')else J (.v (.agg xs),pf)
 |_=>ae
def J3(pf:ah)(s:Nat)(p:aC):Option PV->Option (PF×ah)
 |some x=>if dB x=Z then ae else(iC pf s p (drop x)).map λpf'=>(.v (drop x),pf')
 |none=>ae
def wd(pf:ah):PF->Option (PF×ah)
 | .v x=>J (.v (drop x),pf)
 | .rf s p=>J3 pf s p (cn pf s p)
 | .ra s p i j n=>Ik pf s p i j (dW pf (.ra s p i j n))
 |y=>J (y,pf)
def KA(K:ah->Prop)(d:Nat):Option (PF×ah)->Prop
 |some r=>K (r.2.put d r.1)
 |none=>False
def ic(c:aY)(d:Nat)(y:PF):Bool:=decide (d<c.nt)&& !c.io.contains d&& !(bE y==J d)
def dI(c:aY)(K:ah->Prop)(d:Option Tmp)(y:PF)(pf:ah):Prop:=
 match d with
 |none=>K pf
 |some d=>ic c d y=Z/\if c.fz.contains d=Z then KA K d (wd pf y)else K (pf.put d y)
def yC:List PV->Option (List Value)
 |[]=>J []
 | .int k n::r=>(yC r).map λl=>.int k n::l
 |_=>ae
def tx:PV->Option Value
 | .agg xs=>(yC xs).map λl=>.agg l.toArray
 | .bool b=>J (.bool b)
 | .int k n=>J (.int k n)
 | .str s=>J (.string s)
 |_=>ae
def l4:Value->Option PV
 | .bool b=>J (.bool b)
 | .int k n=>J (.int k n)
 | .string s=>J (.str s)
 |_=>ae
def EK:PF->Option Value
 | .v x=>tx x
 |_=>ae
def cu(pf:ah):Operand->Option Value
 | .tmp t=>EK (pf t)
 | .const k=>if cz k=Z then tx (nF 0 k)else ae
 |_=>ae
def pR(pf:ah):List Operand->Option (List Value)
 |[]=>J []
 |x::xs=>(cu pf x).bind λv=>(pR pf xs).map λvs=>v::vs
def lU(P:Program)(c:aY)(o:Oper)(K:ah->Prop)(pf:ah):Prop:=
 match(gG o.op).bind (pR pf)with
 |some vs=>match(eY P o.op vs).bind l4 with
  |some y=>dI c K o.dst (.v y) pf
  |none=>False
 |none=>False
inductive AD where
 |pl (s:Nat) (p:aC) (i j:Nat)
 |fz (row:List PV)
def yF(t:Nat):PV->Option AD
 | .bx _=>J (.pl t [] 0 0)
 | .fp row=>J (.fz row)
 |_=>ae
def A4(s:Nat)(p:aC):PV->Option AD
 | .bx _=>J (.pl s p 0 0)
 | .fp row=>J (.fz row)
 |_=>ae
def rJ(pf:ah)(t:Nat):PF->Option AD
 | .bl _=>J (.pl t [] 0 0)
 | .v x=>yF t x
 | .pt s p i j=>J (.pl s p i j)
 | .rf s p=>(cn pf s p).bind (A4 s p)
 |_=>ae
def nh(pf:ah):Operand->Option AD
 | .tmp t=>rJ pf t (pf t)
 |_=>ae
def uM:AD->PF
 | .pl s p i j=>.pt s p i j
 | .fz row=>.v (.fp row)
def yy(o:Nat):AD->Option AD
 | .pl s p i j=>J (.pl s p i (j+o))
 | .fz row=>if o<=row.length then J (.fz (row.drop o))else ae
def J4(pf:ah)(s:Nat)(p:aC)(i:Nat):Option (List PV):=(cn pf s p).bind (lL i)
def DY(tz:Bool×Nat)(s:Nat)(p:aC)(i j:Nat)(row:List PV):Option PF:=
 match tz with
 |(Z,sz)=>if j+sz<=row.length then J (if((row.drop j).take sz).any bN=Z then .ra s p i j sz else .v (.agg ((row.drop j).take sz)))else ae
 |(aa,_)=>match row.drop j with
  |x::_=>J (if bN x=Z then .rf s (p++[(i,j)])else .v x)
  |[]=>ae
def Fb(tz:Bool×Nat)(row:List PV):Option PF:=
 match tz with
 |(Z,sz)=>if sz<=row.length then J (.v (.agg (row.take sz)))else ae
 |(aa,_)=>match row with
  |x::_=>J (.v x)
  |[]=>ae
def Dn(tz:Bool×Nat)(pf:ah):AD->Option PF
 | .pl s p i j=>(J4 pf s p i).bind (DY tz s p i j)
 | .fz row=>Fb tz row
section
variable {nt:Nat}{pin:List (Nat×Value)}{E0 E E':Env}{pf:ah}{fr ak:FR}{c:aY}{P:Program}
structure eG (c:aY) (pin:List (Nat×Value)):Prop where
 h:∀k v,(k,v)∈pin->k∈c.io
variable{K:ah->Prop}{K':FR->AH->Prop}{ad:AD}{d s:Nat}{fv:FV}{l:Lo}{p:aC}{row:List PV}{v:Value}{x:PV}{y:PF}
def Pt(h:ic c d y=Z):d<c.nt/\d∉c.io/\bE y≠J d:=by
 simp only[ic,bK,eO,qK,List.contains_eq_mem,xL,beq_eq_false_iff_ne,ne_eq]at h;exact⟨h.1.1,h.1.2,h.2⟩
def YV{x:Option (PF×ah)}(h:KA K d x):∃r,x=J r/\K (r.2.put d r.1):=by
 cases x with
 |none=>cases h
 |some r=>exact⟨r,rfl,h⟩
def ey.rl(h:ey E){f:Nat×aC->Option (Nat×aC)}:ey (E.rl f):=⟨h.wf,λid b9=>by
 obtain⟨h1,h2⟩:=h.fresh id b9
 exact⟨by simp[Env.rl,h1],h2⟩⟩
def ey.fz(h:ey E){a:Nat×aC}:ey (E.fz a):=⟨h.wf,λid b9=>by
 obtain⟨h1,h2⟩:=h.fresh id b9;refine⟨h1,?_⟩;rintro(h3|⟨r,h3⟩)
 ·exact h2 h3
 ·rw[h1]at h3;cases h3⟩
def av.env(r:av nt pin E0 E pf fr)(d7:ey E')(jf:gn E E')(hm:∀s,s<nt->dC E E' (J (s,[])) (J (s,[]))):av nt pin E0 E' pf fr:=by
 refine⟨r.since.trans jf,d7.wf,d7.fresh,λt=>?_,r.hi,r.rt,r.pin⟩;rcases dQ t nt with ht|ht
 ·exact(r.f t).stay jf.g (hm t ht) rfl λs hs=>⟨rfl,KL.J8 (hm s (r.rt t s hs))⟩
 ·rw[r.hi t ht];exact yt
def ZO(r:av c.nt pin E0 E pf fr)(hp:eG c pin)(hx:PR E (J (c.nt,[(0,0)])) x v){d:Option Tmp}(h:dI c K d (.v x) pf)
(hk:∀pf' ak E',K pf'->av c.nt pin E0 E' pf' ak->E'.H=E.H->K' ak E'.H):bC c.nt K' d (.v v) fr E.H:=by
 cases d with
 |none=>exact hk pf fr E h r rfl
 |some d=>
  obtain⟨h1,h2⟩:=h;obtain⟨c1,c2,c3⟩:=Pt h1;simp only[bC,aD c1];have jY:∀w,(d,w)∉pin:=λw hw=>c2 (hp.h d w hw)
  split at h2
  ·
   have h2:K (pf.put d (.v (drop x))):=h2;have hd:PR (E.fz (c.nt,[(0,0)])) ae (drop x) v:=hx.freeze p9 Oj;refine hk _ _ (E.fz (c.nt,[(0,0)])) h2 ?_ rfl;exact r.set c1 jY p9 (λs hs _=>Bb (by show s≠c.nt;omega)) Gv r.ok.fz.wf r.ok.fz.fresh (o9 (by simp[FR.put]) hd.up) (λs hs=>by cases hs)
  ·refine hk _ _ (E.rl (fq (c.nt,[(0,0)]) (d,[]))) h2 ?_ rfl;exact r.set c1 jY dU (λs hs _=>jh λq=>lq (by show s≠c.nt;omega)) oi r.ok.rl.wf r.ok.rl.fresh (o9 (by simp[FR.put]) (hx.move dU (lF λq=>zgu _ _ q))) (λs hs=>by cases hs)
def g8(r:av c.nt pin E0 E pf fr)(hp:eG c pin)(hx:PR E (J (c.nt,[(0,0)])) x v){d:Option Tmp}(h:dI c K d (.v x) pf)
(hk:∀pf' ak E',K pf'->av c.nt pin E0 E' pf' ak->K' ak E'.H):bC c.nt K' d (.v v) fr E.H:=ZO r hp hx h λpf' ak E' a b _=>hk pf' ak E' a b
def Wk.frame(h:Wk E fr s p v)(hd:s≠d):Wk E (fr.put d fv) s p v:=by
 have e:(fr.put d fv) s=fr s:=by simp[FR.put,hd]
 rcases h with⟨r,h1,h2⟩|⟨cells,j,p',y,h1,h2⟩
 ·exact .inl ⟨r,e.trans h1,h2⟩
 ·exact .inr ⟨cells,j,p',y,e.trans h1,h2⟩
def Eb(E:Env)(fr:FR)(y:PF)(fv:FV):Prop:=
 match y with
 | .pt s p i j=>Ie E fr s p i j fv
 | .rf s p=>∃v,fv=.v v/\Wk E fr s p v
 | .rv s p lo hi=>(Wk E fr s p (.slice ae 0 0)/\fv=.v (.slice ae 0 0)/\lo=0/\hi=0)\/
  ∃id off es n c,Wk E fr s p (.slice (J ⟨id,off,J es⟩) n c)/\lo<=hi/\hi<=n/\fv=.v (.slice (J ⟨id,off+lo*es,J es⟩) (hi-lo) (c-lo))
 | .ra s p i j n=>∃vs,fv=.v (.agg vs)/\(vs.toList.length=n/\n≠0)/\∀q y,vs.toList[q]? =J y->Wk E fr s (p++[(i,j+q)]) y
 | .as aa s p i j n=>∃vs:List Value,fv=.ls n 1 vs/\(vs.length=n/\n≠0)/\∀q y,vs[q]? =J y->Wk E fr s (p++[(i,j+q)]) y
 | .as Z s p i j _=>∃id off k v,fv=.v (.pointer (J ⟨id,off,ae⟩))/\E.G id/\E.H.b id=J k/\k.cells[off]? =J v/\Wk E fr s (p++[(i,j)]) v
 | .cl s g us=>ClV E fr s g us fv
 |_=>False
def zDH{t:Nat}(ha:bE y≠ae):oL E y fr t↔Eb E fr y (fr t):=by
 cases y with
 |v x=>simp[bE]at ha
 |skip=>simp[bE]at ha
 |ls _ _=>simp[bE]at ha
 |bl _=>simp[bE]at ha
 |pt s p i j=>exact Ex
 |rf s p=>exact Ex
 |rv s p lo hi=>exact Ex
 |ra s p i j n=>exact Ex
 |as b s p i j n=>cases b<;>exact Ex
 |cl s g us=>exact Ex
def Eb.frame{fx:FV}(h:Eb E fr y fv)(hd:bE y≠J d):Eb E (fr.put d fx) y fv:=by
 have wk:∀{s:Nat}{p:aC}{v:Value},bE y=J s->Wk E fr s p v->Wk E (fr.put d fx) s p v:=λhs hw=>hw.frame λe=>hd (by rw[hs,e])
 cases y with
 |pt s p i j=>
  rcases h with⟨cells,h1,h2⟩|⟨v0,id,o,h1,h2⟩
  ·have:s≠d:=λe=>hd (by rw[e];rfl)
   exact .inl ⟨cells,by simp[FR.put,this,h1],h2⟩
  ·exact .inr ⟨v0,id,o,wk rfl h1,h2⟩
 |rf s p=>obtain⟨v,h1,h2⟩:=h;exact⟨v,h1,wk rfl h2⟩
 |rv s p lo hi=>
  rcases h with⟨h1,h2⟩|⟨id,off,es,n,c,h1,h2⟩
  ·exact .inl ⟨wk rfl h1,h2⟩
  ·exact .inr ⟨id,off,es,n,c,wk rfl h1,h2⟩
 |ra s p i j n=>obtain⟨vs,h1,h2,h3⟩:=h;exact⟨vs,h1,h2,λq y hq=>wk rfl (h3 q y hq)⟩
 |as b s p i j n=>
  cases b with
  |false=>obtain⟨vs,h1,h2,h3⟩:=h;exact⟨vs,h1,h2,λq y hq=>wk rfl (h3 q y hq)⟩
  |true=>obtain⟨id,off,k,v,h1,hG,hb,hc,hw⟩:=h;exact⟨id,off,k,v,h1,hG,hb,hc,wk rfl hw⟩
 |cl s g us=>obtain⟨v,vs,h1,h2,h3⟩:=h;exact⟨v,vs,h1,wk rfl h2,h3⟩
 |_=>exact h
def zwO(r:av nt pin E0 E pf fr){i j n:Nat}{y':PF}{pf':ah}{vs:Array Value}(hs:s<nt)(hl:vs.toList.length=n)(hw:∀q y,vs.toList[q]? =J y->Wk E fr s (p++[(i,j+q)]) y)
(hj:Ik pf s p i j (dW pf (.ra s p i j n))=J (y',pf')):∃E' x,y'=.v x/\E'.H=E.H/\ey E'/\av nt pin E0 E' pf' fr/\PR E' ae x (.agg vs):=by
 unfold Ik at hj;split at hj
 ·rename_i o xs gM;simp only[dW]at gM;obtain⟨row,TX,qV⟩:=bW.1 gM;unfold zk at qV;split at qV
  ·rename_i da;simp only[aT,PV.agg.injEq]at qV;have iv:xs.length=n:=by rw[<-qV];simp;omega
   have iP:∀q x,xs[q]? =J x->cn pf s (p++[(i,j+q)])=J x:=by
    intro q x hq;rw[Vu TX];rw[<-qV,mu]at hq;split at hq
    ·rw[jw]at hq;exact hq
    ·cases hq
   have fg:∀q x v,xs[q]? =J x->vs.toList[q]? =J v->PR E (J (s,p++[(i,j+q)])) x v:=by
    intro q x v hq hv;by_cases hx:x=.ax
    ·subst hx;exact .ax v
    ·obtain⟨v',w1,w2⟩:=r.at (iP q x hq) hx (.inl P2);rw[w1.same (hw q v hv)]at w2;exact w2
   split at hj
   ·rename_i ho;simp only[bP,cg]at hj;obtain⟨aR,h1,rfl,rfl⟩:=hj;have hne:xs≠[]:=by rintro rfl;simp[ziI]at ho
    let S:Nat×aC->Prop:=λx=>∃q r,q<n/\x=(s,p++(i,j+q)::r)
    let E1:Env:={E with G:=λid=>E.G id\/∃x,E.ow id=J x/\S x}
    have hg:GK E E1:=λ_ h=>⟨.inl h,λk hk=>⟨k,hk,rfl⟩⟩
    have jf:gn E E1:=⟨cB _,hg,λid _ h=>⟨h,rfl,by
     rintro(h3|⟨x,h3,_⟩)
     ·exact h3
     ·rw[h]at h3;cases h3⟩⟩
    have d7:ey E1:=⟨r.wf,λid b9=>by
     obtain⟨h1,h2⟩:=r.fresh id b9;refine⟨h1,?_⟩;rintro(h3|⟨x,h3,_⟩)
     ·exact h2 h3
     ·rw[h1]at h3;cases h3⟩
    have BN:∀q x v,xs[q]? =J x->vs.toList[q]? =J v->PR E1 ae (drop x) v:=λq x v hq hv=>by
     have Lt:q<n:=by have:=(cY.1 hq).1;omega
     refine(fg q x v hq hv).freeze hg λid r h1 _=>⟨.inr ⟨_,h1,q,r,Lt,by simp⟩,λk hk=>⟨k,hk,rfl⟩⟩
    refine⟨E1,_,rfl,rfl,d7,?_,.agg (by simp;rw[iv];simpa using hl.symm) λq x v hq hv=>?_⟩
    ·refine r.SK hs (by simpa using hne) h1 rfl jf hg (λt _ tM id q h1 h2=>⟨h1,?_,rfl⟩) d7.fresh (λid q g1 g2 g3=>⟨g1,?_⟩) λt z v g1 g2=>?_
     ·rintro(h3|⟨x,h3,q',r',hq',rfl⟩)
      ·exact h2 h3
      ·rw[h1,aT,cg]at h3;exact tM h3.1
     ·rintro(h3|⟨x,h3,q',r',hq',rfl⟩)
      ·exact g2 h3
      ·rw[g1,aT,cg]at h3;refine g3 (j+q') r' h3.2 ⟨by omega,?_⟩;simp;omega
     ·obtain⟨x,hq,rfl⟩:=mC g1;have nC:t<vs.toList.length:=by have:=(cY.1 hq).1;omega
      have hv:=cJ nC;have:=(hw t _ hv).same g2;rw[this]at hv;exact(BN t x v hq hv).up
    ·obtain⟨x0,dD,rfl⟩:=mC hq;exact BN q x0 v dD hv
   ·rename_i ho;cases hj;have ho':bN (.agg xs)=aa:=by simpa using ho
    rw[ziI,L2]at ho';refine⟨E,_,rfl,rfl,r.ok,r,.agg (by rw[iv,hl]) λq x v hq hv=>(fg q x v hq hv).free (by simpa using ho' x (eA hq))⟩
  ·cases qV
 ·cases hj
def jQ(r:av c.nt pin E0 E pf fr)(hp:eG c pin){s0:Nat}(mc:bE y=J s0)(hs:s0<c.nt)(hx:Eb E fr y fv){d:Option Tmp}(h:dI c K d y pf)
(hk:∀pf' ak E',K pf'->av c.nt pin E0 E' pf' ak->K' ak E'.H):bC c.nt K' d fv fr E.H:=by
 cases d with
 |none=>exact hk pf fr E h r
 |some d=>
  obtain⟨h1,h2⟩:=h;obtain⟨c1,c2,c3⟩:=Pt h1;simp only[bC,aD c1];have jY:∀w,(d,w)∉pin:=λw hw=>c2 (hp.h d w hw)
  have tJ:K (pf.put d y)->K' (fr.put d fv) E.H:=λh2=>by
   refine hk _ _ E h2 (r.set c1 jY (GK.refl E) (λs _ _=>.refl _) (gn.refl E) r.wf r.fresh ?_ (λs mW=>by rw[mc]at mW;cases mW;exact hs));rw[zDH (by rw[mc];simp)];have:=hx.frame (fx:=fv) c3;simpa[FR.put]using this
  split at h2
  ·cases y with
   |rf s p=>
    obtain⟨v,rfl,w⟩:=hx;obtain⟨q,h3,h4⟩:=YV h2;simp only[wd,J3]at h3;split at h3
    ·rename_i x hgx;split at h3
     ·cases h3
     ·rename_i hj;simp only[bP]at h3;obtain⟨aR,k1,rfl⟩:=h3;simp only[bE,aT]at mc;subst mc;obtain⟨v',a1,a2,a3⟩:=r.Hk hs hgx (oT (by simpa using hj)) (jn r w hgx) k1;have:=a1.same w;subst this;exact hk _ _ (E.fz (s,p)) h4 (a2.set c1 jY (GK.refl _) (λs _ _=>.refl _) (gn.refl _) a2.wf a2.fresh (o9 (by simp[FR.put]) a3.up) (λs hs=>by cases hs))
    ·cases h3
   |ra s p i j n=>
    obtain⟨vs,rfl,w1,w2⟩:=hx;obtain⟨⟨y',aR⟩,h3,h4⟩:=YV h2;simp only[bE,aT]at mc;subst mc;obtain⟨E1,x,rfl,e1,ok1,r1,y9⟩:=zwO r hs w1.1 w2 h3;have:=hk _ (fr.put d (.v (.agg vs))) E1 h4 (r1.set c1 jY (GK.refl _) (λs _ _=>.refl _) (gn.refl _) r1.wf r1.fresh (o9 (v:=.agg vs) (by simp[FR.put]) y9.up) (λs hs=>by cases hs));rw[e1]at this;exact this
   |pt s p i j=>exact tJ h2
   |rv s p lo hi=>exact tJ h2
   |as b s p i j n=>exact tJ h2
   |cl s g us=>exact tJ h2
   |_=>simp[bE]at mc
  ·exact tJ h2
def zyQ{l:Nat->Lo}:∀{xs:List PV}{vs ws:List Value},yC xs=J vs->xs.length=ws.length->(∀(j:Nat) (x:PV) (y:Value),xs[j]? =J x->ws[j]? =J y->PR E (l j) x y)->ws=vs:=by
 intro xs;induction xs generalizing l with
 |nil=>intro vs ws h1 h2 _;simp only[yC]at h1;cases h1;exact m9 h2.symm
 |cons x xs ih=>
  intro vs ws h1 h2 h3;cases ws with
  |nil=>simp at h2
  |cons w ws=>
   cases x<;>simp only[yC]at h1<;>try cases h1
   simp only[bP]at h1;obtain⟨IW,h4,rfl⟩:=h1;have h5:=h3 0 _ w rfl rfl;generalize l 0=l0 at h5;cases h5;exact gF _ (ih (l:=λj=>l (j+1)) h4 (by simpa using h2) λj x y hx hy=>h3 (j+1) x y (by simpa using hx) (by simpa using hy))
def zvD{w:Value}(h:tx x=J v)(hr:PR E l x w):w=v:=by
 cases x with
 |agg xs=>
  simp only[tx,bP]at h;obtain⟨vs,h1,rfl⟩:=h;cases hr with
  |agg hl hh=>
   have:=zyQ h1 hl hh;rw[<-this]
 |_=>simp[tx]at h<;>subst h<;>cases hr<;>rfl
def QJ(h:l4 v=J x):PR E l x v:=by
 cases v<;>simp[l4]at h<;>subst h
 ·exact .bool _
 ·exact .int _ _
 ·exact .str _
def qk(r:av nt pin E0 E pf fr){x:Operand}(h:cu pf x=J v):be fr x=J v:=by
 cases x with
 |tmp t=>
  simp only[cu]at h;have hf:=r.f t;cases aF:pf t with
  |v x=>
   rw[aF]at h hf;simp only[EK]at h;obtain⟨w,h1,h2⟩:=gA hf (by rintro rfl;simp[tx]at h);have:=zvD h h2;subst this;simp[be,h1]
  |_=>rw[aF]at h;simp[EK]at h
 |const k=>
  simp only[cu]at h;split at h
  ·rename_i hk;have:=zvD h (H3 (E:=E) hk ae);subst this;simp[be,hk]
  ·cases h
 |func f=>simp[cu]at h
 |global g=>simp[cu]at h
def O8{H:AH}{x:Operand}(h:be fr x=J v):bg fr H x=J (v,fr,H):=by
 cases x with
 |tmp t=>simp only[be]at h;split at h<;>simp_all [bg]
 |const c=>simp[bg,h]
 |func f=>simp[bg,h]
 |global g=>simp[be]at h
def zwG(r:av nt pin E0 E pf fr):∀{xs:List Operand}{vs:List Value},pR pf xs=J vs->∀H,cr fr H xs=J (vs,fr,H):=by
 intro xs;induction xs with
 |nil=>intro vs h H;simp[pR]at h;simp[cr,h]
 |cons x xs ih=>
  intro vs h H;simp only[pR,bW,bP]at h;obtain⟨v,h1,vs1,h2,rfl⟩:=h;simp[cr,O8 (H:=H) (qk r h1),ih h2 H]
def yO(r:av c.nt pin E0 E pf fr)(hp:eG c pin){o:Oper}(h:lU P c o K pf)
(hk:∀pf' ak E',K pf'->av c.nt pin E0 E' pf' ak->K' ak E'.H):dE P c.nt o K' fr E.H:=by
 unfold lU at h;split at h
 ·rename_i vs kI;split at h
  ·rename_i y hy;simp only[bW]at kI hy;obtain⟨xs,h1,h2⟩:=kI;obtain⟨v,h3,h4⟩:=hy;simp only[dE,h1,zwG r h2,h3];exact g8 r hp (QJ h4) h hk
  ·cases h
 ·cases h
def GH(nt:Nat)(E:Env)(fr:FR)(fv:FV):AD->Prop
 | .pl s p i j=>s<nt/\Ie E fr s p i j fv
 | .fz row=>∃v,fv=.v v/\PR E ae (.fp row) v
def ZU(hw:Wk E fr s p v)(h:PR E (J (s,p)) (.bx row) v):Ie E fr s p 0 0 (.v v):=by
 cases h with
 |bx how hG hb bc hl hh=>exact .inr ⟨_,_,0,hw,.bx how hG,rfl⟩
def LU(r:av nt pin E0 E pf fr){a:Operand}(h:nh pf a=J ad):∃fv,bO fr a=J fv/\GH nt E fr fv ad:=by
 cases a with
 |tmp t=>
  simp only[nh]at h;have hf:=r.f t
  have ht:t<nt:=by
   rcases dQ t nt with h1|h1
   ·exact h1
   ·rw[r.hi t h1]at h;simp[rJ,jP,yF]at h
  cases aF:pf t with
  |bl row=>
   rw[aF]at h hf;simp only[rJ,aT]at h;subst h;obtain⟨cells,c1,_⟩:=hf;exact⟨.lp t 0,by simp[bO,c1],ht,.inl ⟨cells,c1,rfl,rfl,rfl⟩⟩
  |v x=>
   rw[aF]at h hf;simp only[rJ]at h;obtain⟨v,h1,h2⟩:=gA hf (by rintro rfl;simp[yF]at h);cases x with
   |bx row=>
    simp only[yF,aT]at h;subst h;exact⟨.v v,by simp[bO,h1],ht,ZU (.inl ⟨v,h1,rfl⟩) h2⟩
   |fp row=>
    simp only[yF,aT]at h;subst h;exact⟨.v v,by simp[bO,h1],v,rfl,h2.free (by simp[bN])⟩
   |_=>simp[yF]at h
  |pt s p i j=>
   rw[aF]at h hf;simp only[rJ,aT]at h;subst h;have hs:=r.rt t s (by rw[aF];rfl);rcases hf with⟨cells,h1,h2,h3,h4⟩|⟨v0,id,o,h1,h2,h3⟩
   ·exact⟨.lp s j,by simp[bO,h4,h1],hs,.inl ⟨cells,h1,h2,h3,rfl⟩⟩
   ·exact⟨_,by simp[bO,h3],hs,.inr ⟨v0,id,o,h1,h2,rfl⟩⟩
  |rf s p=>
   rw[aF]at h hf;simp only[rJ,bW]at h;obtain⟨x,hx,h⟩:=h;obtain⟨v,h1,h2⟩:=hf;obtain⟨v',w1,w2⟩:=r.at hx (by rintro rfl;simp[A4]at h) (jn r h2 hx);have:=w1.same h2;subst this;cases x with
   |bx row=>
    simp only[A4,aT]at h;subst h;exact⟨.v v',by simp[bO,h1],r.rt t s (by rw[aF];rfl),ZU h2 w2⟩
   |fp row=>
    simp only[A4,aT]at h;subst h;exact⟨.v v',by simp[bO,h1],v',rfl,w2.free (by simp[bN])⟩
   |_=>simp[A4]at h
  |_=>rw[aF]at h;simp[rJ]at h
 |_=>simp[nh]at h
def Ad(r:av c.nt pin E0 E pf fr)(hp:eG c pin)(hx:GH c.nt E fr fv ad){d:Option Tmp}(h:dI c K d (uM ad) pf)
(hk:∀pf' ak E',K pf'->av c.nt pin E0 E' pf' ak->K' ak E'.H):bC c.nt K' d fv fr E.H:=by
 cases ad with
 |pl s p i j=>exact jQ r hp (y:=.pt s p i j) rfl hx.1 hx.2 h hk
 |fz row=>
  obtain⟨v,rfl,hv⟩:=hx;exact g8 r hp hv.up h hk
def zBw{id off o:Nat}(h:PR E l (.fp row) (.pointer (J ⟨id,off,ae⟩)))(ho:o<=row.length):PR E l (.fp (row.drop o)) (.pointer (J ⟨id,off+o,ae⟩)):=by
 cases h with
 |fp hG hb hl hh=>
  refine .fp hG hb (by simp;omega) λj x y h1 h2=>?_
  rw[jw]at h1;exact hh (o+j) x y h1 (by rw[<-jc];exact h2)
def zyu(h:PR E l (.fp row) v):∃id off,v=.pointer (J ⟨id,off,ae⟩):=by
 cases h;exact⟨_,_,rfl⟩
def zoV{JU:AD}{o:Nat}(h:GH nt E fr fv ad)(ha:yy o ad=J JU):
 (∃t off,fv=.lp t off/\GH nt E fr (.lp t (off+o)) JU)\/∃id off,fv=.v (.pointer (J ⟨id,off,ae⟩))/\GH nt E fr (.v (.pointer (J ⟨id,off+o,ae⟩))) JU:=by
 cases ad with
 |pl s p i j=>
  simp only[yy,aT]at ha;subst ha;obtain⟨hs,h⟩:=h;rcases h with⟨cells,h1,h2,h3,rfl⟩|⟨v0,id,o',h1,h2,rfl⟩
  ·exact .inl ⟨s,j,rfl,hs,.inl ⟨cells,h1,h2,h3,rfl⟩⟩
  ·exact .inr ⟨id,o'+j,rfl,hs,.inr ⟨v0,id,o',h1,h2,by rw[jc]⟩⟩
 |fz row=>
  simp only[yy]at ha;split at ha
  ·rename_i da;simp only[aT]at ha;subst ha;obtain⟨v,rfl,hv⟩:=h;obtain⟨id,off,rfl⟩:=zyu hv;exact .inr ⟨id,off,rfl,_,rfl,zBw hv da⟩
  ·cases ha
end
end Go.Pm
