import Derived.Test.YtnojafnlicbhpaaGreatPmK
open Bool renaming false→aa,true→Z
open Option renaming none→ae,some→J
set_option linter.defProp false
namespace Go.Pm
open Go.Am
def dY(P:Program)(t:TypeId)(i:Nat):Nat:=
 match P.underlying t with
 |some (.struct jX)=>match jX[i]? with
  |some f=>cR P f.type
  |none=>0
 |some (.array _ e)|some (.slice e)=>cR P e
 |_=>0
def mS(P:Program)(t:TypeId):Option ((Nat->Option (Nat×Nat))×List PV):=
 match P.underlying t with
 |some (.struct jX)=>match cA P t with
  |some (_,_,_,z)=>if(z.all ct&&jX.toList.all (λf=>(P.info? f.type).isSome))=Z then J (dv P t,zz P t z)else ae
  |none=>ae
 |some (.array _ e)=>match cA P t with
  |some (_,_,_,z)=>match cA P e with
   |some (_,es,_)=>if z.all ct=Z then J ((λi=>J (i*es,es)),zz P t z)else ae
   |none=>ae
  |none=>ae
 |_=>ae
def CV(size:Nat)(x:PV):Bool:=jS x&&decide ((cN x).length=size)&&decide (size≠0)
def vw(kR:Nat->Option (Nat×Nat)):List (Nat×PV)->List PV->Option (List PV)
 |[],cs=>J cs
 |(i,x)::r,cs=>(kR i).bind λo=>if CV o.2 x=Z then(jR cs o.1 (cN x)).bind (vw kR r)else ae
def Qz(c:aY)(d:Option Tmp)(K:ah->Prop)(pf:ah):Option (List PV)->Prop
 |some row=>dC c K d (.v (.agg row)) pf
 |none=>False
def Fh(P:Program)(c:aY)(t:TypeId)(ps:List (Nat×Operand))(d:Option Tmp)(K:ah->Prop)(pf:ah):Prop:=
 match mS P t,pX pf (ps.map λp=>(dY P t p.1,p.2))with
 |some b,J (xs,aQ)=>Qz c d K aQ (vw b.1 ((ps.map (·.1)).zip xs) b.2)
 |_,_=>False
def sf(es:Nat):List (Nat×PV)->List (List PV)->Option (List (List PV))
 |[],rows=>J rows
 |(i,x)::r,rows=>if CV es x=Z/\i<rows.length then sf es r (rows.set i (cN x))else ae
def Ot(c:aY)(es:Nat)(d:Nat)(K:ah->Prop)(pf:ah):Option (List (List PV))->Prop
 |some rows=>gO c d .skip=Z/\K (pf.put d (.ls es rows))
 |none=>False
def Ob:Option PV->Bool
 |some (.sl ..)=>Z
 |_=>aa
def yy(pf:ah)(s:Nat)(p:aA)(i j:Nat):Nat->List (Nat×Operand)->Bool
 |_,[]=>Z
 |q,(q',.tmp t)::r=>if q'=q/\Ci (pf t)=J (s,p++[(i,j+q)])/\Ob (cj pf s (p++[(i,j+q)]))=Z then yy pf s p i j (q+1) r else aa
 |_,_=>aa
def FG(pf:ah):List (Nat×Operand)->Option (Nat×aA×Nat×Nat)
 |(_,.tmp t)::_=>(Ci (pf t)).bind λx=>(oQ x.2).map λy=>(x.1,y)
 |_=>ae
def JG(P:Program)(t:TypeId)(len:Nat)(ps:List (Nat×Operand))(pf:ah):Option PF:=
 (ez P t).bind λz=>(FG pf ps).bind λa=>if z.1=1/\len<=2^24/\ps.length=len/\yy pf a.1 a.2.1 a.2.2.1 a.2.2.2 0 ps=Z then J (.as aa a.1 a.2.1 a.2.2.1 a.2.2.2 len)else ae
def HT(P:Program)(c:aY)(t:TypeId)(len:Nat)(ps:List (Nat×Operand))(d:Nat)(K:ah->Prop)(pf:ah):Prop:=
 match JG P t len ps pf with
 |some y=>dC c K (J d) y pf
 |none=>False
def Tg(c:aY):Option Tmp->Bool
 |some d=>yF c d
 |none=>aa
def uJ(c:aY)(d:Nat)(xs:List PV):List PV:=if c.fz.contains (d+3*c.nt)=Z then xs.map drop else xs
def Ex(P:Program)(c:aY)(t:TypeId)(len:Nat)(ps:List (Nat×Operand))(d:Option Tmp)(K:ah->Prop)(pf:ah):Prop:=
 if Tg c d=Z then HT P c t len ps (d.getD 0) K pf else
 match ez P t,pX pf (ps.map λp=>(dY P t p.1,p.2)),d with
 |some z,J (xs,aQ),J d=>len*z.1<=2^24/\Ot c z.1 d K aQ (sf z.1 ((ps.map (·.1)).zip (uJ c d xs)) (List.replicate len z.2.2))
 |_,_,_=>False
def xY(pf:ah)(s:Nat)(p:aA)(x:PV):Option (PV×ah):=if dt x=Z then ae else if bK x=Z then(iw pf s p (drop x)).map λpf'=>(drop x,pf')else J (x,pf)
def yq(hb:Bool)(pf:ah)(t:Nat):PF->Option (PV×ah)
 | .v x=>xY pf t [] x
 | .rf s p=>(cj pf s p).bind (xY pf s p)
 | .bl row=>if hb=Z then J (.fp (row.map drop),(pf.bS t (.v (.fp (row.map drop)))).kill t 0)else ae
 |_=>ae
def ta(hb:Bool)(pf:ah):Operand->Option (PV×ah)
 | .tmp t=>yq hb pf t (pf t)
 | .const c=>if ct c=Z then J (drop (nb 0 c),pf)else ae
 | .func f=>J (.func (.func f) [] [],pf)
 | .global _=>ae
def rM(hb:Bool)(pf:ah):List Operand->Option (List PV×ah)
 |[]=>J ([],pf)
 |x::xs=>(ta hb pf x).bind λa=>(rM hb a.2 xs).map λb=>(a.1::b.1,b.2)
def SG(c:aY):Option Tmp->Bool
 |some d=>c.fz.contains (d+4*c.nt)
 |none=>aa
def Ko(pf:ah):Fn->List Operand->List Operand->Option (FuncId×Nat×List Operand)
 | .func g,[],.tmp s::ys=>match pf s with
  | .v (.bx _)=>J (g,s,ys)
  |_=>ae
 |_,_,_=>ae
def IW(c:aY)(pf:ah)(x:FuncId×Nat×List Operand):Option (PF×ah):=(rM (!c.hp.isEmpty) pf x.2.2).map λy=>(.cl x.2.1 x.1 y.1,y.2)
def EO(c:aY)(fn:Fn)(xs ys:List Operand)(d:Option Tmp)(K:ah->Prop)(pf:ah):Prop:=
 if SG c d=Z then match(Ko pf fn xs ys).bind (IW c pf)with
  |some (y,aQ)=>dC c K d y aQ
  |none=>False
 else
 match rM (!c.hp.isEmpty) pf (xs++ys)with
 |some (vs,aQ)=>dC c K d (.v (.func fn (vs.take xs.length) (vs.drop xs.length))) aQ
 |none=>False
section
variable {nt:Nat}{pin:List (Nat×Value)}{E0 E E':Env}{pf:ah}{fr ai:FR}{c:aY}{P:Program}
def tD(r:aq nt pin E0 E pf fr){x:Option Operand}{b:Option Nat}(h:oE pf x=J b):
 (x=ae/\b=ae)\/∃op q n,x=J op/\be fr op=J (.int q n)/\0<=n/\b=J n.toNat:=by
 cases x with
 |none=>simp only[oE,aT]at h;exact .inl ⟨rfl,h.symm⟩
 |some op=>
  simp only[oE,bR]at h;obtain⟨v,h1,h2⟩:=h;split at h2
  ·rename_i q n;split at h2
   ·rename_i hn;simp only[aT]at h2;exact .inr ⟨op,q,n,rfl,pA r h1,hn,h2.symm⟩
   ·cases h2
  ·cases h2
def YE(r:aq nt pin E0 E pf fr){t eL l:Nat}{h:Option Nat}{y:PF}(hs:mU eL l h pf t (pf t)=J y):
 ∃a n cc,fr t=.v (.slice a n cc)/\n<=cc/\l<=h.getD n/\h.getD n<=n/\(∀ad,a=J ad->ad=⟨ad.block,ad.off,J eL⟩)/\(a=ae->n=0/\cc=0)/\
  ∀v,(a=ae/\v=.slice ae 0 0\/∃ad,a=J ad/\v=.slice (J ⟨ad.block,ad.off+l*eL,J eL⟩) (h.getD n-l) (cc-l))->
   ((∃s,bC y=J s/\s<nt/\Ba E fr y (.v v))\/∃x,y=.v x/\PR E ae x v):=by
 have hf:=r.f t
 have ht:t<nt:=by
  rcases dK t nt with h1|h1
  ·exact h1
  ·rw[r.hi t h1]at hs;simp[mU,jP,th]at hs
 have key:∀{s:Nat}{p:aA}{x:PV}{v0:Value}{f:Nat->Nat->PF},s<nt->(∀a b,f a b=.rv s p a b)->Wk E fr s p v0->PR E (J (s,p)) x v0->fr t=.v v0->th eL l h f x=J y->
  ∃a n cc,fr t=.v (.slice a n cc)/\n<=cc/\l<=h.getD n/\h.getD n<=n/\(∀ad,a=J ad->ad=⟨ad.block,ad.off,J eL⟩)/\(a=ae->n=0/\cc=0)/\
  ∀v,(a=ae/\v=.slice ae 0 0\/∃ad,a=J ad/\v=.slice (J ⟨ad.block,ad.off+l*eL,J eL⟩) (h.getD n-l) (cc-l))->
   ((∃s,bC y=J s/\s<nt/\Ba E fr y (.v v))\/∃x,y=.v x/\PR E ae x v):=by
  intro s p x v0 f iP hff hw hx mY hq;unfold th at hq;split at hq
  ·rename_i es rows;split at hq
   ·rename_i hb;obtain⟨rfl,eJ,fX⟩:=hb;simp only[aT]at hq;subst hq;rw[hff];cases hx with
    |sl0 _ _=>
     have fX:h.getD 0<=0:=fX;have eJ:l<=h.getD 0:=eJ;refine⟨ae,0,0,mY,cy _,eJ,fX,(λad e=>by cases e),λ_=>⟨rfl,rfl⟩,λv hv=>?_⟩;rcases hv with⟨_,rfl⟩|⟨ad,e,_⟩
     ·exact .inl ⟨s,rfl,iP,.inl ⟨hw,rfl,by omega,by show h.getD 0=0;omega⟩⟩
     ·cases e
    | @fk _ id off es n cc k rows how hG hb bc hn hc hm hr hl hh=>
     subst hn;refine⟨J ⟨id,off,J es⟩,rows.length,cc,mY,hc,eJ,fX,(λad e=>by cases e;rfl),(λe=>by cases e),λv hv=>?_⟩;rcases hv with⟨e,_⟩|⟨ad,e,rfl⟩
     ·cases e
     ·cases e;exact .inl ⟨s,rfl,iP,.inr ⟨id,off,es,rows.length,cc,hw,eJ,fX,rfl⟩⟩
   ·cases hq
  ·rename_i es rows;split at hq
   ·rename_i hb;obtain⟨rfl,eJ,fX⟩:=hb;simp only[aT]at hq;subst hq;have kZ:=hx.free (by simp[bK]);cases kZ with
    |sl0 _ _=>
     have fX:h.getD 0<=0:=fX;have eJ:l<=h.getD 0:=eJ;refine⟨ae,0,0,mY,cy _,eJ,fX,(λad e=>by cases e),λ_=>⟨rfl,rfl⟩,λv hv=>?_⟩;rcases hv with⟨_,rfl⟩|⟨ad,e,_⟩
     ·exact .inr ⟨_,rfl,by simpa using PR.sl0 (E:=E) (l:=ae) aa es⟩
     ·cases e
    | @jF _ id off es n cc k rows hG hb hn hc hm hr hl hh=>
     have eV:PR E ae (.sl aa es rows) (.slice (J ⟨id,off,J es⟩) n cc):=.jF hG hb hn hc hm hr hl hh;subst hn;refine⟨J ⟨id,off,J es⟩,rows.length,cc,mY,hc,eJ,fX,(λad e=>by cases e;rfl),(λe=>by cases e),λv hv=>?_⟩;rcases hv with⟨e,_⟩|⟨ad,e,rfl⟩
     ·cases e
     ·cases e;obtain⟨_,_,_,e3⟩:=eV.cut eJ fX;exact .inr ⟨_,rfl,e3⟩
   ·cases hq
  ·cases hq
 cases aE:pf t with
 |v x=>
  rw[aE]at hs hf;simp only[mU]at hs;obtain⟨v,h1,h2⟩:=gi hf (by rintro rfl;simp[th]at hs);exact key (p:=[]) ht (λ_ _=>rfl) (.inl ⟨v,h1,rfl⟩) h2 h1 hs
 |rf s p=>
  rw[aE]at hs hf;simp only[mU,bR]at hs;obtain⟨x,hx,hs⟩:=hs;obtain⟨v,h1,h2⟩:=hf;obtain⟨v',w1,w2⟩:=r.at hx (by rintro rfl;simp[th]at hs) (iQ r h2 hx);have:=w1.same h2;subst this;exact key (r.rt t s (by rw[aE];rfl)) (λ_ _=>rfl) h2 w2 h1 hs
 |rv s p lo hi=>
  rw[aE]at hs hf;simp only[mU,bR]at hs;obtain⟨x,hx,hs⟩:=hs;have iP:=r.rt t s (by rw[aE];rfl);unfold GP at hs;split at hs
  ·rename_i es rows;split at hs
   ·rename_i hb;obtain⟨⟨rfl,eJ,fX⟩,rS,tN⟩:=hb;simp only[aT]at hs;subst hs;rcases hf with⟨h1,h2,rfl,rfl⟩|⟨id,off,bw,n,cc,h1,h2,h3,h4⟩
    ·refine⟨ae,0,0,h2,cy _,rS,tN,(λad e=>by cases e),λ_=>⟨rfl,rfl⟩,λv hv=>?_⟩;rcases hv with⟨_,rfl⟩|⟨ad,e,_⟩
     ·have tN:h.getD 0<=0:=tN;have rS:l<=h.getD 0:=rS;exact .inl ⟨s,rfl,iP,.inl ⟨h1,rfl,by omega,by show 0+h.getD 0=0;omega⟩⟩
     ·cases e
    ·obtain⟨v',w1,w2⟩:=r.at hx (by simp) (iQ r h1 hx);have:=w1.same h1;subst this;have ee:=zO w2;subst ee;refine⟨_,hi-lo,cc-lo,h4,?_,rS,tN,(λad e=>by cases e;rfl),(λe=>by cases e),λv hv=>?_⟩
     ·cases w2 with
      |fk how hG hb bc hn hc hm hr hl hh=>omega
     ·rcases hv with⟨e,_⟩|⟨ad,e,rfl⟩
      ·cases e
      ·cases e;refine .inl ⟨s,rfl,iP,.inr ⟨id,off,es,n,cc,h1,by omega,by omega,?_⟩⟩;have e1:lo+h.getD (hi-lo)-(lo+l)=h.getD (hi-lo)-l:=by omega
       have e2:cc-(lo+l)=cc-lo-l:=by omega
       rw[e1,e2,nT,iN]
   ·cases hs
  ·rename_i es rows;split at hs
   ·rename_i hb;obtain⟨⟨rfl,eJ,fX⟩,rS,tN⟩:=hb;simp only[aT]at hs;subst hs;rcases hf with⟨h1,h2,rfl,rfl⟩|⟨id,off,bw,n,cc,h1,h2,h3,h4⟩
    ·refine⟨ae,0,0,h2,cy _,rS,tN,(λad e=>by cases e),λ_=>⟨rfl,rfl⟩,λv hv=>?_⟩;rcases hv with⟨_,rfl⟩|⟨ad,e,_⟩
     ·have tN:h.getD 0<=0:=tN;have e0:h.getD (0-0)=0:=by show h.getD 0=0;omega
      rw[e0];exact .inr ⟨_,rfl,by simpa using PR.sl0 (E:=E) (l:=ae) aa es⟩
     ·cases e
    ·obtain⟨v',w1,w2⟩:=r.at hx (by simp) (iQ r h1 hx);have:=w1.same h1;subst this;have ee:=zO w2;subst ee;refine⟨_,hi-lo,cc-lo,h4,?_,rS,tN,(λad e=>by cases e;rfl),(λe=>by cases e),λv hv=>?_⟩
     ·cases w2 with
      |jF hG hb hn hc hm hr hl hh=>omega
     ·rcases hv with⟨e,_⟩|⟨ad,e,rfl⟩
      ·cases e
      ·cases e;have w2':=w2.free (by simp[bK]);obtain⟨_,_,_,e3⟩:=w2'.cut (lo:=lo+l) (hi:=lo+h.getD (hi-lo)) (by omega) (by omega);have e1:lo+h.getD (hi-lo)-(lo+l)=h.getD (hi-lo)-l:=by omega
       have e2:cc-(lo+l)=cc-lo-l:=by omega
       rw[e1,e2,nT,<-iN]at e3;exact .inr ⟨_,rfl,e3⟩
   ·cases hs
  ·cases hs
 |_=>rw[aE]at hs;simp[mU]at hs
def Dh{x:Option Operand}{b:Option Nat}{vs:Option Value}{dflt:Nat}(h:(x=ae/\b=ae)\/∃op q n,x=J op/\be fr op=J (.int q n)/\0<=n/\b=J n.toNat)
(hv:vs=x.bind (be fr)):uS dflt vs=J (b.getD dflt)/\xG vs=J b/\(vs.isSome=b.isSome):=by
 rcases h with⟨rfl,rfl⟩|⟨op,q,n,rfl,h1,h2,rfl⟩
 ·subst hv;exact⟨rfl,rfl,rfl⟩
 ·simp only[aR,h1]at hv;subst hv;exact⟨by simp[uS,h2],by simp[xG,h2],rfl⟩
def Vm{ty:TypeId}{a:Option Addr}{n cc es:Nat}{l h:Option Value}{m:Option Value}{lo hi:Nat}{mo:Option Nat}(he:kV P ty=J es)(ha:∀ad,a=J ad->ad=⟨ad.block,ad.off,J es⟩)(ha0:a=ae->n=0/\cc=0)
(hb:oA l h m n cc=J (lo,hi,mo)):
 nL P ty (.slice a n cc) l h m=(match a with
  |none=>J (.slice ae 0 0)
  |some ad=>match mo with
   |none=>J (.slice (J ⟨ad.block,ad.off+lo*es,J es⟩) (hi-lo) (cc-lo))
   |some mx=>if mx-lo=0 then J (.slice ae 0 0)else J (.slice (J ⟨ad.block,ad.off+lo*es,J es⟩) (hi-lo) (mx-lo))):=by
 obtain⟨e,g,rr,h1,h2⟩:=P5 he;cases a with
 |none=>
  obtain⟨rfl,rfl⟩:=ha0 rfl;simp[nL,h1,h2,hb]
 |some ad=>
  have:=ha ad rfl;obtain⟨b,o,sp⟩:=ad;simp only at this;cases this;simp only[nL,h1,h2,hb,ne_eq,not_true_eq_false,l7];cases mo<;>rfl
def ztP(r:aq c.nt pin E0 E pf fr)(hp:ep c pin){o:Oper}{ty:TypeId}{x:Operand}{l h m:Option Operand}{K:ah->Prop}{K':FR->AH->Prop}(ho:o.op=.slice ty x l h m)(hh:E6 P c ty x l h m o.dst K pf)
(hk:∀pf' ai E',K pf'->aq c.nt pin E0 E' pf' ai->K' ai E'.H):aM P c.nt o K' fr E.H:=by
 obtain⟨d,op,MH,ps,af,g⟩:=o;simp only at ho hh;subst ho;refine(show dA P c.nt ⟨d,.slice ty x l h m,MH,ps,af,g⟩ K' fr E.H from ?_);unfold E6 at hh;split at hh
 ·rename_i t es hes
  have run:∀{lb hb:Option Nat}{mb:Option Nat}{v w:Value},oE pf l=J lb->oE pf h=J hb->oE pf m=J mb->fr t=.v v->
   (nL P ty v (l.bind (be fr)) (h.bind (be fr)) (m.bind (be fr))=J w)->(m.isSome=Z->h.isSome=Z)->
   bB c.nt K' d (.v w) fr E.H->dA P c.nt ⟨d,.slice ty (.tmp t) l h m,MH,ps,af,g⟩ K' fr E.H:=by
   intro lb hb mb v w h1 h2 h3 hv hw Fc dn;have q1:=tD r h1;have q2:=tD r h2;have q3:=tD r h3;simp only[dA,gw];have W8:∀op u,be fr op=J u->bh fr E.H op=J (u,fr,E.H):=λop u hu=>Oc hu
   rcases q1 with⟨rfl,rfl⟩|⟨o1,k1,n1,rfl,a1,a2,rfl⟩<;>rcases q2 with⟨rfl,rfl⟩|⟨o2,k2,n2,rfl,b1,b2,rfl⟩<;>rcases q3 with⟨rfl,rfl⟩|⟨o3,k3,n3,rfl,c1,c2,rfl⟩<;>
    simp_all [cn,bh,eD]
  unfold D7 at hh;split at hh
  ·rename_i lb hb h1 h2 h3;split at hh
   ·rename_i y hy;obtain⟨a,n,cc,g1,g2,g3,g4,g5,g6,g7⟩:=YE r hy;have e1:=Dh (dflt:=0) (tD r h1) rfl;have e2:=Dh (dflt:=n) (tD r h2) rfl;have e3:=Dh (dflt:=0) (tD r h3) rfl
    have P6:oA (l.bind (be fr)) (h.bind (be fr)) (m.bind (be fr)) n cc=J (lb.getD 0,hb.getD n,ae):=by
     simp only[oA,e1.1,e2.1,e3.2.1];rw[aB ⟨g3,by omega⟩]
    have jH:=Vm hes g5 g6 P6;have hm:m=ae:=by rcases tD r h3 with⟨q,_⟩|⟨_,_,_,_,_,_,q⟩;exact q;cases q
    cases a with
    |none=>
     refine run h1 h2 h3 g1 jH (by simp[hm]) ?_;rcases g7 _ (.inl ⟨rfl,rfl⟩)with⟨s,q1,q2,q3⟩|⟨x,rfl,q1⟩
     ·exact jk r hp q1 q2 q3 hh hk
     ·exact gC r hp q1.up hh hk
    |some ad=>
     refine run h1 h2 h3 g1 jH (by simp[hm]) ?_;rcases g7 _ (.inr ⟨ad,rfl,rfl⟩)with⟨s,q1,q2,q3⟩|⟨x,rfl,q1⟩
     ·exact jk r hp q1 q2 q3 hh hk
     ·exact gC r hp q1.up hh hk
   ·cases hh
  ·rename_i lb hb mb h1 h2 h3;split at hh
   ·rename_i rows a1r;obtain⟨⟨k1,k2,k3⟩,⟨y,hy⟩,dn⟩:=hh;obtain⟨a,n,cc,g1,g2,g3,g4,g5,g6,g7⟩:=YE r hy;obtain⟨a',cc',w1,w2⟩:=RS r a1r;rw[g1]at w1;simp only[FV.v.injEq,Value.slice.injEq]at w1;obtain⟨rfl,rfl,rfl⟩:=w1;have e1:=Dh (dflt:=0) (tD r h1) rfl;have e2:=Dh (dflt:=rows.length) (tD r h2) rfl;have e3:=Dh (dflt:=0) (tD r h3) rfl
    have P6:oA (l.bind (be fr)) (h.bind (be fr)) (m.bind (be fr)) rows.length cc=J (lb.getD 0,hb,J mb):=by
     simp only[oA,e1.1,e2.1,e3.2.1,v9];rw[aB ⟨by omega,by omega,by omega,by rw[e2.2.2];rfl⟩]
    have jH:=Vm hes g5 g6 P6;have hm:h.isSome=Z:=by rcases tD r h2 with⟨_,q⟩|⟨_,_,_,q,_⟩;cases q;rw[q];rfl
    have BS:bB c.nt K' d (.v (.slice ae 0 0)) fr E.H:=gC r hp (.sl0 Z es) dn hk;cases a with
    |none=>exact run h1 h2 h3 g1 jH (λ_=>hm) BS
    |some ad=>
     simp only at jH;rw[aB (by omega)]at jH;exact run h1 h2 h3 g1 jH (λ_=>hm) BS
   ·cases hh
  ·cases hh
 ·cases hh
end
end Go.Pm
