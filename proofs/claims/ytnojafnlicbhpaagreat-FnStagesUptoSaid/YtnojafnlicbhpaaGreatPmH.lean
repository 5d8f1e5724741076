import Derived.Test.YtnojafnlicbhpaaGreatPmG
open Bool renaming false→aa,true→Z
open Option renaming none→ae,some→J
set_option linter.defProp false
namespace Go.Pm
open Go.Am
def eC:=@decide_eq_true_eq
def wd:=@decide_eq_false_iff_not
structure aY where
 nt:Nat
 io:List Nat
 fz:List Nat
 hp:List Nat
def Jf(pf:ah)(s:Nat)(p:aA)(i j:Nat):Option PV->Option (PF×ah)
 |some (.agg xs)=>if bL (.agg xs)=Z then(mz pf s p i j (xs.map drop)).map λpf'=>(.v (.agg (xs.map drop)),pf')else J (.v (.agg xs),pf)
 |_=>ae
def IK(pf:ah)(s:Nat)(p:aA):Option PV->Option (PF×ah)
 |some x=>if dv x=Z then ae else(iz pf s p (drop x)).map λpf'=>(.v (drop x),pf')
 |none=>ae
def ui(pf:ah):PF->Option (PF×ah)
 | .v x=>J (.v (drop x),pf)
 | .rf s p=>IK pf s p (ce pf s p)
 | .ra s p i j n=>Jf pf s p i j (dM pf (.ra s p i j n))
 |y=>J (y,pf)
def JS(K:ah->Prop)(d:Nat):Option (PF×ah)->Prop
 |some r=>K (r.2.put d r.1)
 |none=>False
def gJ(c:aY)(d:Nat)(y:PF):Bool:=decide (d<c.nt)&& !c.io.contains d&& !(bC y==J d)
def dB(c:aY)(K:ah->Prop)(d:Option Tmp)(y:PF)(pf:ah):Prop:=
 match d with
 |none=>K pf
 |some d=>gJ c d y=Z/\if c.fz.contains d=Z then JS K d (ui pf y)else K (pf.put d y)
def yq:List PV->Option (List Value)
 |[]=>J []
 | .int k n::r=>(yq r).map λl=>.int k n::l
 |_=>ae
def sL:PV->Option Value
 | .agg xs=>(yq xs).map λl=>.agg l.toArray
 | .bool b=>J (.bool b)
 | .int k n=>J (.int k n)
 | .str s=>J (.string s)
 |_=>ae
def lG:Value->Option PV
 | .bool b=>J (.bool b)
 | .int k n=>J (.int k n)
 | .string s=>J (.str s)
 |_=>ae
def Dm:PF->Option Value
 | .v x=>sL x
 |_=>ae
def cu(pf:ah):Operand->Option Value
 | .tmp t=>Dm (pf t)
 | .const k=>if cr k=Z then sL (ng 0 k)else ae
 |_=>ae
def pB(pf:ah):List Operand->Option (List Value)
 |[]=>J []
 |x::xs=>(cu pf x).bind λv=>(pB pf xs).map λvs=>v::vs
def lZ(P:Program)(c:aY)(o:Oper)(K:ah->Prop)(pf:ah):Prop:=
 match(gp o.op).bind (pB pf)with
 |some vs=>match(eG P o.op vs).bind lG with
  |some y=>dB c K o.dst (.v y) pf
  |none=>False
 |none=>False
inductive AD where
 |pl (s:Nat) (p:aA) (i j:Nat)
 |fz (row:List PV)
def xT(t:Nat):PV->Option AD
 | .bx _=>J (.pl t [] 0 0)
 | .fp row=>J (.fz row)
 |_=>ae
def zQ(s:Nat)(p:aA):PV->Option AD
 | .bx _=>J (.pl s p 0 0)
 | .fp row=>J (.fz row)
 |_=>ae
def q7(pf:ah)(t:Nat):PF->Option AD
 | .bl _=>J (.pl t [] 0 0)
 | .v x=>xT t x
 | .pt s p i j=>J (.pl s p i j)
 | .rf s p=>(ce pf s p).bind (zQ s p)
 |_=>ae
def m7(pf:ah):Operand->Option AD
 | .tmp t=>q7 pf t (pf t)
 |_=>ae
def ua:AD->PF
 | .pl s p i j=>.pt s p i j
 | .fz row=>.v (.fp row)
def wN(o:Nat):AD->Option AD
 | .pl s p i j=>J (.pl s p i (j+o))
 | .fz row=>if o<=row.length then J (.fz (row.drop o))else ae
def HK(pf:ah)(s:Nat)(p:aA)(i:Nat):Option (List PV):=(ce pf s p).bind (lJ i)
def Bc(tz:Bool×Nat)(s:Nat)(p:aA)(i j:Nat)(row:List PV):Option PF:=
 match tz with
 |(Z,sz)=>if j+sz<=row.length then J (if((row.drop j).take sz).any bL=Z then .ra s p i j sz else .v (.agg ((row.drop j).take sz)))else ae
 |(aa,_)=>match row.drop j with
  |x::_=>J (if bL x=Z then .rf s (p++[(i,j)])else .v x)
  |[]=>ae
def FD(tz:Bool×Nat)(row:List PV):Option PF:=
 match tz with
 |(Z,sz)=>if sz<=row.length then J (.v (.agg (row.take sz)))else ae
 |(aa,_)=>match row with
  |x::_=>J (.v x)
  |[]=>ae
def Cm(tz:Bool×Nat)(pf:ah):AD->Option PF
 | .pl s p i j=>(HK pf s p i).bind (Bc tz s p i j)
 | .fz row=>FD tz row
section
variable {nt:Nat}{pin:List (Nat×Value)}{E0 E E':Env}{pf:ah}{fr ai:FR}{c:aY}{P:Program}
structure er (c:aY) (pin:List (Nat×Value)):Prop where
 h:∀k v,(k,v)∈pin->k∈c.io
variable{K:ah->Prop}{K':FR->AH->Prop}{ad:AD}{d s:Nat}{fv:FV}{l:Lo}{p:aA}{row:List PV}{v:Value}{x:PV}{y:PF}
def Oo(h:gJ c d y=Z):d<c.nt/\d∉c.io/\bC y≠J d:=by
 simp only[gJ,bI,eC,qc,List.contains_eq_mem,wd,beq_eq_false_iff_ne,ne_eq]at h;exact⟨h.1.1,h.1.2,h.2⟩
def Ws{x:Option (PF×ah)}(h:JS K d x):∃r,x=J r/\K (r.2.put d r.1):=by
 cases x with
 |none=>cases h
 |some r=>exact⟨r,rfl,h⟩
def ej.rl(h:ej E){f:Nat×aA->Option (Nat×aA)}:ej (E.rl f):=⟨h.wf,λid bY=>by
 obtain⟨h1,h2⟩:=h.fresh id bY
 exact⟨by simp[Env.rl,h1],h2⟩⟩
def ej.fz(h:ej E){a:Nat×aA}:ej (E.fz a):=⟨h.wf,λid bY=>by
 obtain⟨h1,h2⟩:=h.fresh id bY;refine⟨h1,?_⟩;rintro(h3|⟨r,h3⟩)
 ·exact h2 h3
 ·rw[h1]at h3;cases h3⟩
def aq.env(r:aq nt pin E0 E pf fr)(dZ:ej E')(iW:fZ E E')(hm:∀s,s<nt->dr E E' (J (s,[])) (J (s,[]))):aq nt pin E0 E' pf fr:=by
 refine⟨r.since.trans iW,dZ.wf,dZ.fresh,λt=>?_,r.hi,r.rt,r.pin⟩;rcases dK t nt with ht|ht
 ·exact(r.f t).stay iW.g (hm t ht) rfl λs hs=>⟨rfl,KL.Ix (hm s (r.rt t s hs))⟩
 ·rw[r.hi t ht];exact yn
def XY(r:aq c.nt pin E0 E pf fr)(hp:er c pin)(hx:PR E (J (c.nt,[(0,0)])) x v){d:Option Tmp}(h:dB c K d (.v x) pf)
(hk:∀pf' ai E',K pf'->aq c.nt pin E0 E' pf' ai->E'.H=E.H->K' ai E'.H):bB c.nt K' d (.v v) fr E.H:=by
 cases d with
 |none=>exact hk pf fr E h r rfl
 |some d=>
  obtain⟨h1,h2⟩:=h;obtain⟨c1,c2,c3⟩:=Oo h1;simp only[bB,aB c1];have jH:∀w,(d,w)∉pin:=λw hw=>c2 (hp.h d w hw)
  split at h2
  ·
   have h2:K (pf.put d (.v (drop x))):=h2;have hd:PR (E.fz (c.nt,[(0,0)])) ae (drop x) v:=hx.freeze pP M2;refine hk _ _ (E.fz (c.nt,[(0,0)])) h2 ?_ rfl;exact r.set c1 jH pP (λs hs _=>yW (by show s≠c.nt;omega)) FA r.ok.fz.wf r.ok.fz.fresh (oS (by simp[FR.put]) hd.up) (λs hs=>by cases hs)
  ·refine hk _ _ (E.rl (fa (c.nt,[(0,0)]) (d,[]))) h2 ?_ rfl;exact r.set c1 jH dO (λs hs _=>iR λq=>kF (by show s≠c.nt;omega)) nD r.ok.rl.wf r.ok.rl.fresh (oS (by simp[FR.put]) (hx.move dO (lq λq=>zgr _ _ q))) (λs hs=>by cases hs)
def gP(r:aq c.nt pin E0 E pf fr)(hp:er c pin)(hx:PR E (J (c.nt,[(0,0)])) x v){d:Option Tmp}(h:dB c K d (.v x) pf)
(hk:∀pf' ai E',K pf'->aq c.nt pin E0 E' pf' ai->K' ai E'.H):bB c.nt K' d (.v v) fr E.H:=XY r hp hx h λpf' ai E' a b _=>hk pf' ai E' a b
def Wk.frame(h:Wk E fr s p v)(hd:s≠d):Wk E (fr.put d fv) s p v:=by
 have e:(fr.put d fv) s=fr s:=by simp[FR.put,hd]
 rcases h with⟨r,h1,h2⟩|⟨cells,j,p',y,h1,h2⟩
 ·exact .inl ⟨r,e.trans h1,h2⟩
 ·exact .inr ⟨cells,j,p',y,e.trans h1,h2⟩
def BK(E:Env)(fr:FR)(y:PF)(fv:FV):Prop:=
 match y with
 | .pt s p i j=>Iq E fr s p i j fv
 | .rf s p=>∃v,fv=.v v/\Wk E fr s p v
 | .rv s p lo hi=>(Wk E fr s p (.slice ae 0 0)/\fv=.v (.slice ae 0 0)/\lo=0/\hi=0)\/
  ∃id off es n c,Wk E fr s p (.slice (J ⟨id,off,J es⟩) n c)/\lo<=hi/\hi<=n/\fv=.v (.slice (J ⟨id,off+lo*es,J es⟩) (hi-lo) (c-lo))
 | .ra s p i j n=>∃vs,fv=.v (.agg vs)/\(vs.toList.length=n/\n≠0)/\∀q y,vs.toList[q]? =J y->Wk E fr s (p++[(i,j+q)]) y
 | .as aa s p i j n=>∃vs:List Value,fv=.ls n 1 vs/\(vs.length=n/\n≠0)/\∀q y,vs[q]? =J y->Wk E fr s (p++[(i,j+q)]) y
 | .as Z s p i j _=>∃id off k v,fv=.v (.pointer (J ⟨id,off,ae⟩))/\E.G id/\E.H.b id=J k/\k.cells[off]? =J v/\Wk E fr s (p++[(i,j)]) v
 | .cl s g us=>XG E fr s g us fv
 |_=>False
def zDp{t:Nat}(ha:bC y≠ae):n8 E y fr t↔BK E fr y (fr t):=by
 cases y with
 |v x=>simp[bC]at ha
 |skip=>simp[bC]at ha
 |ls _ _=>simp[bC]at ha
 |bl _=>simp[bC]at ha
 |pt s p i j=>exact Db
 |rf s p=>exact Db
 |rv s p lo hi=>exact Db
 |ra s p i j n=>exact Db
 |as b s p i j n=>cases b<;>exact Db
 |cl s g us=>exact Db
def BK.frame{fx:FV}(h:BK E fr y fv)(hd:bC y≠J d):BK E (fr.put d fx) y fv:=by
 have wk:∀{s:Nat}{p:aA}{v:Value},bC y=J s->Wk E fr s p v->Wk E (fr.put d fx) s p v:=λhs hw=>hw.frame λe=>hd (by rw[hs,e])
 cases y with
 |pt s p i j=>
  rcases h with⟨cells,h1,h2⟩|⟨v0,id,o,h1,h2⟩
  ·have:s≠d:=λe=>hd (by rw[e];rfl)
   exact .inl ⟨cells,by simp[FR.put,this,h1],h2⟩
  ·exact .inr ⟨v0,id,o,wk rfl h1,h2⟩
 |rf s p=>obtain⟨v,h1,h2⟩:=h;exact⟨v,h1,wk rfl h2⟩
 |rv s p lo hi=>
  rcases h with⟨h1,h2⟩|⟨id,off,es,n,c,h1,h2⟩
  ·exact .inl ⟨wk rfl h1,h2⟩
  ·exact .inr ⟨id,off,es,n,c,wk rfl h1,h2⟩
 |ra s p i j n=>obtain⟨vs,h1,h2,h3⟩:=h;exact⟨vs,h1,h2,λq y hq=>wk rfl (h3 q y hq)⟩
 |as b s p i j n=>
  cases b with
  |false=>obtain⟨vs,h1,h2,h3⟩:=h;exact⟨vs,h1,h2,λq y hq=>wk rfl (h3 q y hq)⟩
  |true=>obtain⟨id,off,k,v,h1,hG,hb,hc,hw⟩:=h;exact⟨id,off,k,v,h1,hG,hb,hc,wk rfl hw⟩
 |cl s g us=>obtain⟨v,vs,h1,h2,h3⟩:=h;exact⟨v,vs,h1,wk rfl h2,h3⟩
 |_=>exact h
def zwc(r:aq nt pin E0 E pf fr){i j n:Nat}{y':PF}{pf':ah}{vs:Array Value}(hs:s<nt)(hl:vs.toList.length=n)(hw:∀q y,vs.toList[q]? =J y->Wk E fr s (p++[(i,j+q)]) y)
(hj:Jf pf s p i j (dM pf (.ra s p i j n))=J (y',pf')):∃E' x,y'=.v x/\E'.H=E.H/\ej E'/\aq nt pin E0 E' pf' fr/\PR E' ae x (.agg vs):=by
 unfold Jf at hj;split at hj
 ·rename_i o xs gv;simp only[dM]at gv;obtain⟨row,TY,qN⟩:=bR.1 gv;unfold wU at qN;split at qN
  ·rename_i cV;simp only[aT,PV.agg.injEq]at qN;have g9:xs.length=n:=by rw[<-qN];simp;omega
   have ib:∀q x,xs[q]? =J x->ce pf s (p++[(i,j+q)])=J x:=by
    intro q x hq;rw[OR TY];rw[<-qN,l6]at hq;split at hq
    ·rw[jd]at hq;exact hq
    ·cases hq
   have eV:∀q x v,xs[q]? =J x->vs.toList[q]? =J v->PR E (J (s,p++[(i,j+q)])) x v:=by
    intro q x v hq hv;by_cases hx:x=.au
    ·subst hx;exact .au v
    ·obtain⟨v',w1,w2⟩:=r.at (ib q x hq) hx (.inl K5);rw[w1.same (hw q v hv)]at w2;exact w2
   split at hj
   ·rename_i ho;simp only[bN,b9]at hj;obtain⟨aQ,h1,rfl,rfl⟩:=hj;have hne:xs≠[]:=by rintro rfl;simp[ziA]at ho
    let S:Nat×aA->Prop:=λx=>∃q r,q<n/\x=(s,p++(i,j+q)::r)
    let E1:Env:={E with G:=λid=>E.G id\/∃x,E.ow id=J x/\S x}
    have hg:GK E E1:=λ_ h=>⟨.inl h,λk hk=>⟨k,hk,rfl⟩⟩
    have iW:fZ E E1:=⟨cy _,hg,λid _ h=>⟨h,rfl,by
     rintro(h3|⟨x,h3,_⟩)
     ·exact h3
     ·rw[h]at h3;cases h3⟩⟩
    have dZ:ej E1:=⟨r.wf,λid bY=>by
     obtain⟨h1,h2⟩:=r.fresh id bY;refine⟨h1,?_⟩;rintro(h3|⟨x,h3,_⟩)
     ·exact h2 h3
     ·rw[h1]at h3;cases h3⟩
    have Ae:∀q x v,xs[q]? =J x->vs.toList[q]? =J v->PR E1 ae (drop x) v:=λq x v hq hv=>by
     have Kd:q<n:=by have:=(cT.1 hq).1;omega
     refine(eV q x v hq hv).freeze hg λid r h1 _=>⟨.inr ⟨_,h1,q,r,Kd,by simp⟩,λk hk=>⟨k,hk,rfl⟩⟩
    refine⟨E1,_,rfl,rfl,dZ,?_,.agg (by simp;rw[g9];simpa using hl.symm) λq x v hq hv=>?_⟩
    ·refine r.Rs hs (by simpa using hne) h1 rfl iW hg (λt _ te id q h1 h2=>⟨h1,?_,rfl⟩) dZ.fresh (λid q g1 g2 g3=>⟨g1,?_⟩) λt z v g1 g2=>?_
     ·rintro(h3|⟨x,h3,q',r',hq',rfl⟩)
      ·exact h2 h3
      ·rw[h1,aT,b9]at h3;exact te h3.1
     ·rintro(h3|⟨x,h3,q',r',hq',rfl⟩)
      ·exact g2 h3
      ·rw[g1,aT,b9]at h3;refine g3 (j+q') r' h3.2 ⟨by omega,?_⟩;simp;omega
     ·obtain⟨x,hq,rfl⟩:=mt g1;have mQ:t<vs.toList.length:=by have:=(cT.1 hq).1;omega
      have hv:=cE mQ;have:=(hw t _ hv).same g2;rw[this]at hv;exact(Ae t x v hq hv).up
    ·obtain⟨x0,dA,rfl⟩:=mt hq;exact Ae q x0 v dA hv
   ·rename_i ho;cases hj;have ho':bL (.agg xs)=aa:=by simpa using ho
    rw[ziA,Kx]at ho';refine⟨E,_,rfl,rfl,r.ok,r,.agg (by rw[g9,hl]) λq x v hq hv=>(eV q x v hq hv).free (by simpa using ho' x (eo hq))⟩
  ·cases qN
 ·cases hj
def jm(r:aq c.nt pin E0 E pf fr)(hp:er c pin){s0:Nat}(kY:bC y=J s0)(hs:s0<c.nt)(hx:BK E fr y fv){d:Option Tmp}(h:dB c K d y pf)
(hk:∀pf' ai E',K pf'->aq c.nt pin E0 E' pf' ai->K' ai E'.H):bB c.nt K' d fv fr E.H:=by
 cases d with
 |none=>exact hk pf fr E h r
 |some d=>
  obtain⟨h1,h2⟩:=h;obtain⟨c1,c2,c3⟩:=Oo h1;simp only[bB,aB c1];have jH:∀w,(d,w)∉pin:=λw hw=>c2 (hp.h d w hw)
  have tC:K (pf.put d y)->K' (fr.put d fv) E.H:=λh2=>by
   refine hk _ _ E h2 (r.set c1 jH (GK.refl E) (λs _ _=>.refl _) (fZ.refl E) r.wf r.fresh ?_ (λs mB=>by rw[kY]at mB;cases mB;exact hs));rw[zDp (by rw[kY];simp)];have:=hx.frame (fx:=fv) c3;simpa[FR.put]using this
  split at h2
  ·cases y with
   |rf s p=>
    obtain⟨v,rfl,w⟩:=hx;obtain⟨q,h3,h4⟩:=Ws h2;simp only[ui,IK]at h3;split at h3
    ·rename_i x UD;split at h3
     ·cases h3
     ·rename_i hj;simp only[bN]at h3;obtain⟨aQ,k1,rfl⟩:=h3;simp only[bC,aT]at kY;subst kY;obtain⟨v',a1,a2,a3⟩:=r.Ei hs UD (nX (by simpa using hj)) (jc r w UD) k1;have:=a1.same w;subst this;exact hk _ _ (E.fz (s,p)) h4 (a2.set c1 jH (GK.refl _) (λs _ _=>.refl _) (fZ.refl _) a2.wf a2.fresh (oS (by simp[FR.put]) a3.up) (λs hs=>by cases hs))
    ·cases h3
   |ra s p i j n=>
    obtain⟨vs,rfl,w1,w2⟩:=hx;obtain⟨⟨y',aQ⟩,h3,h4⟩:=Ws h2;simp only[bC,aT]at kY;subst kY;obtain⟨E1,x,rfl,e1,ok1,r1,wF⟩:=zwc r hs w1.1 w2 h3;have:=hk _ (fr.put d (.v (.agg vs))) E1 h4 (r1.set c1 jH (GK.refl _) (λs _ _=>.refl _) (fZ.refl _) r1.wf r1.fresh (oS (v:=.agg vs) (by simp[FR.put]) wF.up) (λs hs=>by cases hs));rw[e1]at this;exact this
   |pt s p i j=>exact tC h2
   |rv s p lo hi=>exact tC h2
   |as b s p i j n=>exact tC h2
   |cl s g us=>exact tC h2
   |_=>simp[bC]at kY
  ·exact tC h2
def zzM{l:Nat->Lo}:∀{xs:List PV}{vs ws:List Value},yq xs=J vs->xs.length=ws.length->(∀(j:Nat) (x:PV) (y:Value),xs[j]? =J x->ws[j]? =J y->PR E (l j) x y)->ws=vs:=by
 intro xs;induction xs generalizing l with
 |nil=>intro vs ws h1 h2 _;simp only[yq]at h1;cases h1;exact mK h2.symm
 |cons x xs ih=>
  intro vs ws h1 h2 h3;cases ws with
  |nil=>simp at h2
  |cons w ws=>
   cases x<;>simp only[yq]at h1<;>try cases h1
   simp only[bN]at h1;obtain⟨HA,h4,rfl⟩:=h1;have h5:=h3 0 _ w rfl rfl;generalize l 0=l0 at h5;cases h5;exact gn _ (ih (l:=λj=>l (j+1)) h4 (by simpa using h2) λj x y hx hy=>h3 (j+1) x y (by simpa using hx) (by simpa using hy))
def zvg{w:Value}(h:sL x=J v)(hr:PR E l x w):w=v:=by
 cases x with
 |agg xs=>
  simp only[sL,bN]at h;obtain⟨vs,h1,rfl⟩:=h;cases hr with
  |agg hl hh=>
   have:=zzM h1 hl hh;rw[<-this]
 |_=>simp[sL]at h<;>subst h<;>cases hr<;>rfl
def SP(h:lG v=J x):PR E l x v:=by
 cases v<;>simp[lG]at h<;>subst h
 ·exact .bool _
 ·exact .int _ _
 ·exact .str _
def pV(r:aq nt pin E0 E pf fr){x:Operand}(h:cu pf x=J v):be fr x=J v:=by
 cases x with
 |tmp t=>
  simp only[cu]at h;have hf:=r.f t;cases aD:pf t with
  |v x=>
   rw[aD]at h hf;simp only[Dm]at h;obtain⟨w,h1,h2⟩:=ga hf (by rintro rfl;simp[sL]at h);have:=zvg h h2;subst this;simp[be,h1]
  |_=>rw[aD]at h;simp[Dm]at h
 |const k=>
  simp only[cu]at h;split at h
  ·rename_i hk;have:=zvg h (Hr (E:=E) hk ae);subst this;simp[be,hk]
  ·cases h
 |func f=>simp[cu]at h
 |global g=>simp[cu]at h
def L8{H:AH}{x:Operand}(h:be fr x=J v):bh fr H x=J (v,fr,H):=by
 cases x with
 |tmp t=>simp only[be]at h;split at h<;>simp_all [bh]
 |const c=>simp[bh,h]
 |func f=>simp[bh,h]
 |global g=>simp[be]at h
def zw0(r:aq nt pin E0 E pf fr):∀{xs:List Operand}{vs:List Value},pB pf xs=J vs->∀H,ck fr H xs=J (vs,fr,H):=by
 intro xs;induction xs with
 |nil=>intro vs h H;simp[pB]at h;simp[ck,h]
 |cons x xs ih=>
  intro vs h H;simp only[pB,bR,bN]at h;obtain⟨v,h1,vs1,h2,rfl⟩:=h;simp[ck,L8 (H:=H) (pV r h1),ih h2 H]
def xV(r:aq c.nt pin E0 E pf fr)(hp:er c pin){o:Oper}(h:lZ P c o K pf)
(hk:∀pf' ai E',K pf'->aq c.nt pin E0 E' pf' ai->K' ai E'.H):dw P c.nt o K' fr E.H:=by
 unfold lZ at h;split at h
 ·rename_i vs j4;split at h
  ·rename_i y hy;simp only[bR]at j4 hy;obtain⟨xs,h1,h2⟩:=j4;obtain⟨v,h3,h4⟩:=hy;simp only[dw,h1,zw0 r h2,h3];exact gP r hp (SP h4) h hk
  ·cases h
 ·cases h
def FX(nt:Nat)(E:Env)(fr:FR)(fv:FV):AD->Prop
 | .pl s p i j=>s<nt/\Iq E fr s p i j fv
 | .fz row=>∃v,fv=.v v/\PR E ae (.fp row) v
def Vn(hw:Wk E fr s p v)(h:PR E (J (s,p)) (.bx row) v):Iq E fr s p 0 0 (.v v):=by
 cases h with
 |bx how hG hb bc hl hh=>exact .inr ⟨_,_,0,hw,.bx how hG,rfl⟩
def Ip(r:aq nt pin E0 E pf fr){a:Operand}(h:m7 pf a=J ad):∃fv,bM fr a=J fv/\FX nt E fr fv ad:=by
 cases a with
 |tmp t=>
  simp only[m7]at h;have hf:=r.f t
  have ht:t<nt:=by
   rcases dK t nt with h1|h1
   ·exact h1
   ·rw[r.hi t h1]at h;simp[q7,jP,xT]at h
  cases aD:pf t with
  |bl row=>
   rw[aD]at h hf;simp only[q7,aT]at h;subst h;obtain⟨cells,c1,_⟩:=hf;exact⟨.lp t 0,by simp[bM,c1],ht,.inl ⟨cells,c1,rfl,rfl,rfl⟩⟩
  |v x=>
   rw[aD]at h hf;simp only[q7]at h;obtain⟨v,h1,h2⟩:=ga hf (by rintro rfl;simp[xT]at h);cases x with
   |bx row=>
    simp only[xT,aT]at h;subst h;exact⟨.v v,by simp[bM,h1],ht,Vn (.inl ⟨v,h1,rfl⟩) h2⟩
   |fp row=>
    simp only[xT,aT]at h;subst h;exact⟨.v v,by simp[bM,h1],v,rfl,h2.free (by simp[bL])⟩
   |_=>simp[xT]at h
  |pt s p i j=>
   rw[aD]at h hf;simp only[q7,aT]at h;subst h;have hs:=r.rt t s (by rw[aD];rfl);rcases hf with⟨cells,h1,h2,h3,h4⟩|⟨v0,id,o,h1,h2,h3⟩
   ·exact⟨.lp s j,by simp[bM,h4,h1],hs,.inl ⟨cells,h1,h2,h3,rfl⟩⟩
   ·exact⟨_,by simp[bM,h3],hs,.inr ⟨v0,id,o,h1,h2,rfl⟩⟩
  |rf s p=>
   rw[aD]at h hf;simp only[q7,bR]at h;obtain⟨x,hx,h⟩:=h;obtain⟨v,h1,h2⟩:=hf;obtain⟨v',w1,w2⟩:=r.at hx (by rintro rfl;simp[zQ]at h) (jc r h2 hx);have:=w1.same h2;subst this;cases x with
   |bx row=>
    simp only[zQ,aT]at h;subst h;exact⟨.v v',by simp[bM,h1],r.rt t s (by rw[aD];rfl),Vn h2 w2⟩
   |fp row=>
    simp only[zQ,aT]at h;subst h;exact⟨.v v',by simp[bM,h1],v',rfl,w2.free (by simp[bL])⟩
   |_=>simp[zQ]at h
  |_=>rw[aD]at h;simp[q7]at h
 |_=>simp[m7]at h
def zu(r:aq c.nt pin E0 E pf fr)(hp:er c pin)(hx:FX c.nt E fr fv ad){d:Option Tmp}(h:dB c K d (ua ad) pf)
(hk:∀pf' ai E',K pf'->aq c.nt pin E0 E' pf' ai->K' ai E'.H):bB c.nt K' d fv fr E.H:=by
 cases ad with
 |pl s p i j=>exact jm r hp (y:=.pt s p i j) rfl hx.1 hx.2 h hk
 |fz row=>
  obtain⟨v,rfl,hv⟩:=hx;exact gP r hp hv.up h hk
def zBI{id off o:Nat}(h:PR E l (.fp row) (.pointer (J ⟨id,off,ae⟩)))(ho:o<=row.length):PR E l (.fp (row.drop o)) (.pointer (J ⟨id,off+o,ae⟩)):=by
 cases h with
 |fp hG hb hl hh=>
  refine .fp hG hb (by simp;omega) λj x y h1 h2=>?_
  rw[jd]at h1;exact hh (o+j) x y h1 (by rw[<-iN];exact h2)
def VT(h:PR E l (.fp row) v):∃id off,v=.pointer (J ⟨id,off,ae⟩):=by
 cases h;exact⟨_,_,rfl⟩
def zoS{I1:AD}{o:Nat}(h:FX nt E fr fv ad)(ha:wN o ad=J I1):
 (∃t off,fv=.lp t off/\FX nt E fr (.lp t (off+o)) I1)\/∃id off,fv=.v (.pointer (J ⟨id,off,ae⟩))/\FX nt E fr (.v (.pointer (J ⟨id,off+o,ae⟩))) I1:=by
 cases ad with
 |pl s p i j=>
  simp only[wN,aT]at ha;subst ha;obtain⟨hs,h⟩:=h;rcases h with⟨cells,h1,h2,h3,rfl⟩|⟨v0,id,o',h1,h2,rfl⟩
  ·exact .inl ⟨s,j,rfl,hs,.inl ⟨cells,h1,h2,h3,rfl⟩⟩
  ·exact .inr ⟨id,o'+j,rfl,hs,.inr ⟨v0,id,o',h1,h2,by rw[iN]⟩⟩
 |fz row=>
  simp only[wN]at ha;split at ha
  ·rename_i cV;simp only[aT]at ha;subst ha;obtain⟨v,rfl,hv⟩:=h;obtain⟨id,off,rfl⟩:=VT hv;exact .inr ⟨id,off,rfl,_,rfl,zBI hv cV⟩
  ·cases ha
end
end Go.Pm
