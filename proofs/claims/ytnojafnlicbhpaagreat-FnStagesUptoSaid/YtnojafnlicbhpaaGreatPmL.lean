import Derived.Test.YtnojafnlicbhpaaGreatPmK
open Bool renaming false→aa,true→Z
open Option renaming none→ae,some→J
set_option linter.defProp false
namespace Go.Pm
open Go.Am
def d6(P:Program)(t:TypeId)(i:Nat):Nat:=
 match P.underlying t with
 |some (.struct jX)=>match jX[i]? with
  |some f=>cS P f.type
  |none=>0
 |some (.array _ e)|some (.slice e)=>cS P e
 |_=>0
def nq(P:Program)(t:TypeId):Option ((Nat->Option (Nat×Nat))×List PV):=
 match P.underlying t with
 |some (.struct jX)=>match cA P t with
  |some (_,_,_,z)=>if(z.all cr&&jX.toList.all (λf=>(P.info? f.type).isSome))=Z then J (du P t,zz P t z)else ae
  |none=>ae
 |some (.array _ e)=>match cA P t with
  |some (_,_,_,z)=>match cA P e with
   |some (_,es,_)=>if z.all cr=Z then J ((λi=>J (i*es,es)),zz P t z)else ae
   |none=>ae
  |none=>ae
 |_=>ae
def CH(size:Nat)(x:PV):Bool:=jR x&&decide ((cN x).length=size)&&decide (size≠0)
def ur(kB:Nat->Option (Nat×Nat)):List (Nat×PV)->List PV->Option (List PV)
 |[],cs=>J cs
 |(i,x)::r,cs=>(kB i).bind λo=>if CH o.2 x=Z then(jL cs o.1 (cN x)).bind (ur kB r)else ae
def SQ(c:aY)(d:Option Tmp)(K:ah->Prop)(pf:ah):Option (List PV)->Prop
 |some row=>dB c K d (.v (.agg row)) pf
 |none=>False
def Gm(P:Program)(c:aY)(t:TypeId)(ps:List (Nat×Operand))(d:Option Tmp)(K:ah->Prop)(pf:ah):Prop:=
 match nq P t,ph pf (ps.map λp=>(d6 P t p.1,p.2))with
 |some b,J (xs,aQ)=>SQ c d K aQ (ur b.1 ((ps.map (·.1)).zip xs) b.2)
 |_,_=>False
def rH(es:Nat):List (Nat×PV)->List (List PV)->Option (List (List PV))
 |[],rows=>J rows
 |(i,x)::r,rows=>if CH es x=Z/\i<rows.length then rH es r (rows.set i (cN x))else ae
def N0(c:aY)(es:Nat)(d:Nat)(K:ah->Prop)(pf:ah):Option (List (List PV))->Prop
 |some rows=>gJ c d .skip=Z/\K (pf.put d (.ls es rows))
 |none=>False
def LJ:Option PV->Bool
 |some (.sl ..)=>Z
 |_=>aa
def ww(pf:ah)(s:Nat)(p:aA)(i j:Nat):Nat->List (Nat×Operand)->Bool
 |_,[]=>Z
 |q,(q',.tmp t)::r=>if q'=q/\Bi (pf t)=J (s,p++[(i,j+q)])/\LJ (ce pf s (p++[(i,j+q)]))=Z then ww pf s p i j (q+1) r else aa
 |_,_=>aa
def Fe(pf:ah):List (Nat×Operand)->Option (Nat×aA×Nat×Nat)
 |(_,.tmp t)::_=>(Bi (pf t)).bind λx=>(oL x.2).map λy=>(x.1,y)
 |_=>ae
def GX(P:Program)(t:TypeId)(len:Nat)(ps:List (Nat×Operand))(pf:ah):Option PF:=
 (ez P t).bind λz=>(Fe pf ps).bind λa=>if z.1=1/\len<=2^24/\ps.length=len/\ww pf a.1 a.2.1 a.2.2.1 a.2.2.2 0 ps=Z then J (.as aa a.1 a.2.1 a.2.2.1 a.2.2.2 len)else ae
def Iw(P:Program)(c:aY)(t:TypeId)(len:Nat)(ps:List (Nat×Operand))(d:Nat)(K:ah->Prop)(pf:ah):Prop:=
 match GX P t len ps pf with
 |some y=>dB c K (J d) y pf
 |none=>False
def Qg(c:aY):Option Tmp->Bool
 |some d=>zK c d
 |none=>aa
def uX(c:aY)(d:Nat)(xs:List PV):List PV:=if c.fz.contains (d+3*c.nt)=Z then xs.map drop else xs
def DQ(P:Program)(c:aY)(t:TypeId)(len:Nat)(ps:List (Nat×Operand))(d:Option Tmp)(K:ah->Prop)(pf:ah):Prop:=
 if Qg c d=Z then Iw P c t len ps (d.getD 0) K pf else
 match ez P t,ph pf (ps.map λp=>(d6 P t p.1,p.2)),d with
 |some z,J (xs,aQ),J d=>len*z.1<=2^24/\N0 c z.1 d K aQ (rH z.1 ((ps.map (·.1)).zip (uX c d xs)) (List.replicate len z.2.2))
 |_,_,_=>False
def yu(pf:ah)(s:Nat)(p:aA)(x:PV):Option (PV×ah):=if dv x=Z then ae else if bL x=Z then(iz pf s p (drop x)).map λpf'=>(drop x,pf')else J (x,pf)
def xP(hb:Bool)(pf:ah)(t:Nat):PF->Option (PV×ah)
 | .v x=>yu pf t [] x
 | .rf s p=>(ce pf s p).bind (yu pf s p)
 | .bl row=>if hb=Z then J (.fp (row.map drop),(pf.bU t (.v (.fp (row.map drop)))).kill t 0)else ae
 |_=>ae
def td(hb:Bool)(pf:ah):Operand->Option (PV×ah)
 | .tmp t=>xP hb pf t (pf t)
 | .const c=>if cr c=Z then J (drop (ng 0 c),pf)else ae
 | .func f=>J (.func (.func f) [] [],pf)
 | .global _=>ae
def rS(hb:Bool)(pf:ah):List Operand->Option (List PV×ah)
 |[]=>J ([],pf)
 |x::xs=>(td hb pf x).bind λa=>(rS hb a.2 xs).map λb=>(a.1::b.1,b.2)
def Qo(c:aY):Option Tmp->Bool
 |some d=>c.fz.contains (d+4*c.nt)
 |none=>aa
def Jd(pf:ah):Fn->List Operand->List Operand->Option (FuncId×Nat×List Operand)
 | .func g,[],.tmp s::ys=>match pf s with
  | .v (.bx _)=>J (g,s,ys)
  |_=>ae
 |_,_,_=>ae
def Iv(c:aY)(pf:ah)(x:FuncId×Nat×List Operand):Option (PF×ah):=(rS (!c.hp.isEmpty) pf x.2.2).map λy=>(.cl x.2.1 x.1 y.1,y.2)
def DU(c:aY)(fn:Fn)(xs ys:List Operand)(d:Option Tmp)(K:ah->Prop)(pf:ah):Prop:=
 if Qo c d=Z then match(Jd pf fn xs ys).bind (Iv c pf)with
  |some (y,aQ)=>dB c K d y aQ
  |none=>False
 else
 match rS (!c.hp.isEmpty) pf (xs++ys)with
 |some (vs,aQ)=>dB c K d (.v (.func fn (vs.take xs.length) (vs.drop xs.length))) aQ
 |none=>False
section
variable {nt:Nat}{pin:List (Nat×Value)}{E0 E E':Env}{pf:ah}{fr ai:FR}{c:aY}{P:Program}
def tc(r:aq nt pin E0 E pf fr){x:Option Operand}{b:Option Nat}(h:oO pf x=J b):
 (x=ae/\b=ae)\/∃op q n,x=J op/\be fr op=J (.int q n)/\0<=n/\b=J n.toNat:=by
 cases x with
 |none=>simp only[oO,aT]at h;exact .inl ⟨rfl,h.symm⟩
 |some op=>
  simp only[oO,bR]at h;obtain⟨v,h1,h2⟩:=h;split at h2
  ·rename_i q n;split at h2
   ·rename_i hn;simp only[aT]at h2;exact .inr ⟨op,q,n,rfl,pV r h1,hn,h2.symm⟩
   ·cases h2
  ·cases h2
def WS(r:aq nt pin E0 E pf fr){t eE l:Nat}{h:Option Nat}{y:PF}(hs:nc eE l h pf t (pf t)=J y):
 ∃a n cc,fr t=.v (.slice a n cc)/\n<=cc/\l<=h.getD n/\h.getD n<=n/\(∀ad,a=J ad->ad=⟨ad.block,ad.off,J eE⟩)/\(a=ae->n=0/\cc=0)/\
  ∀v,(a=ae/\v=.slice ae 0 0\/∃ad,a=J ad/\v=.slice (J ⟨ad.block,ad.off+l*eE,J eE⟩) (h.getD n-l) (cc-l))->
   ((∃s,bC y=J s/\s<nt/\BK E fr y (.v v))\/∃x,y=.v x/\PR E ae x v):=by
 have hf:=r.f t
 have ht:t<nt:=by
  rcases dK t nt with h1|h1
  ·exact h1
  ·rw[r.hi t h1]at hs;simp[nc,jP,tV]at hs
 have key:∀{s:Nat}{p:aA}{x:PV}{v0:Value}{f:Nat->Nat->PF},s<nt->(∀a b,f a b=.rv s p a b)->Wk E fr s p v0->PR E (J (s,p)) x v0->fr t=.v v0->tV eE l h f x=J y->
  ∃a n cc,fr t=.v (.slice a n cc)/\n<=cc/\l<=h.getD n/\h.getD n<=n/\(∀ad,a=J ad->ad=⟨ad.block,ad.off,J eE⟩)/\(a=ae->n=0/\cc=0)/\
  ∀v,(a=ae/\v=.slice ae 0 0\/∃ad,a=J ad/\v=.slice (J ⟨ad.block,ad.off+l*eE,J eE⟩) (h.getD n-l) (cc-l))->
   ((∃s,bC y=J s/\s<nt/\BK E fr y (.v v))\/∃x,y=.v x/\PR E ae x v):=by
  intro s p x v0 f iW hff hw hx mP hq;unfold tV at hq;split at hq
  ·rename_i es rows;split at hq
   ·rename_i hb;obtain⟨rfl,eI,fV⟩:=hb;simp only[aT]at hq;subst hq;rw[hff];cases hx with
    |sl0 _ _=>
     have fV:h.getD 0<=0:=fV;have eI:l<=h.getD 0:=eI;refine⟨ae,0,0,mP,cy _,eI,fV,(λad e=>by cases e),λ_=>⟨rfl,rfl⟩,λv hv=>?_⟩;rcases hv with⟨_,rfl⟩|⟨ad,e,_⟩
     ·exact .inl ⟨s,rfl,iW,.inl ⟨hw,rfl,by omega,by show h.getD 0=0;omega⟩⟩
     ·cases e
    | @fk _ id off es n cc k rows how hG hb bc hn hc hm hr hl hh=>
     subst hn;refine⟨J ⟨id,off,J es⟩,rows.length,cc,mP,hc,eI,fV,(λad e=>by cases e;rfl),(λe=>by cases e),λv hv=>?_⟩;rcases hv with⟨e,_⟩|⟨ad,e,rfl⟩
     ·cases e
     ·cases e;exact .inl ⟨s,rfl,iW,.inr ⟨id,off,es,rows.length,cc,hw,eI,fV,rfl⟩⟩
   ·cases hq
  ·rename_i es rows;split at hq
   ·rename_i hb;obtain⟨rfl,eI,fV⟩:=hb;simp only[aT]at hq;subst hq;have lU:=hx.free (by simp[bL]);cases lU with
    |sl0 _ _=>
     have fV:h.getD 0<=0:=fV;have eI:l<=h.getD 0:=eI;refine⟨ae,0,0,mP,cy _,eI,fV,(λad e=>by cases e),λ_=>⟨rfl,rfl⟩,λv hv=>?_⟩;rcases hv with⟨_,rfl⟩|⟨ad,e,_⟩
     ·exact .inr ⟨_,rfl,by simpa using PR.sl0 (E:=E) (l:=ae) aa es⟩
     ·cases e
    | @jI _ id off es n cc k rows hG hb hn hc hm hr hl hh=>
     have eV:PR E ae (.sl aa es rows) (.slice (J ⟨id,off,J es⟩) n cc):=.jI hG hb hn hc hm hr hl hh;subst hn;refine⟨J ⟨id,off,J es⟩,rows.length,cc,mP,hc,eI,fV,(λad e=>by cases e;rfl),(λe=>by cases e),λv hv=>?_⟩;rcases hv with⟨e,_⟩|⟨ad,e,rfl⟩
     ·cases e
     ·cases e;obtain⟨_,_,_,e3⟩:=eV.cut eI fV;exact .inr ⟨_,rfl,e3⟩
   ·cases hq
  ·cases hq
 cases aD:pf t with
 |v x=>
  rw[aD]at hs hf;simp only[nc]at hs;obtain⟨v,h1,h2⟩:=ga hf (by rintro rfl;simp[tV]at hs);exact key (p:=[]) ht (λ_ _=>rfl) (.inl ⟨v,h1,rfl⟩) h2 h1 hs
 |rf s p=>
  rw[aD]at hs hf;simp only[nc,bR]at hs;obtain⟨x,hx,hs⟩:=hs;obtain⟨v,h1,h2⟩:=hf;obtain⟨v',w1,w2⟩:=r.at hx (by rintro rfl;simp[tV]at hs) (jc r h2 hx);have:=w1.same h2;subst this;exact key (r.rt t s (by rw[aD];rfl)) (λ_ _=>rfl) h2 w2 h1 hs
 |rv s p lo hi=>
  rw[aD]at hs hf;simp only[nc,bR]at hs;obtain⟨x,hx,hs⟩:=hs;have iW:=r.rt t s (by rw[aD];rfl);unfold Hk at hs;split at hs
  ·rename_i es rows;split at hs
   ·rename_i hb;obtain⟨⟨rfl,eI,fV⟩,rz,ti⟩:=hb;simp only[aT]at hs;subst hs;rcases hf with⟨h1,h2,rfl,rfl⟩|⟨id,off,bw,n,cc,h1,h2,h3,h4⟩
    ·refine⟨ae,0,0,h2,cy _,rz,ti,(λad e=>by cases e),λ_=>⟨rfl,rfl⟩,λv hv=>?_⟩;rcases hv with⟨_,rfl⟩|⟨ad,e,_⟩
     ·have ti:h.getD 0<=0:=ti;have rz:l<=h.getD 0:=rz;exact .inl ⟨s,rfl,iW,.inl ⟨h1,rfl,by omega,by show 0+h.getD 0=0;omega⟩⟩
     ·cases e
    ·obtain⟨v',w1,w2⟩:=r.at hx (by simp) (jc r h1 hx);have:=w1.same h1;subst this;have ee:=zR w2;subst ee;refine⟨_,hi-lo,cc-lo,h4,?_,rz,ti,(λad e=>by cases e;rfl),(λe=>by cases e),λv hv=>?_⟩
     ·cases w2 with
      |fk how hG hb bc hn hc hm hr hl hh=>omega
     ·rcases hv with⟨e,_⟩|⟨ad,e,rfl⟩
      ·cases e
      ·cases e;refine .inl ⟨s,rfl,iW,.inr ⟨id,off,es,n,cc,h1,by omega,by omega,?_⟩⟩;have e1:lo+h.getD (hi-lo)-(lo+l)=h.getD (hi-lo)-l:=by omega
       have e2:cc-(lo+l)=cc-lo-l:=by omega
       rw[e1,e2,nS,iN]
   ·cases hs
  ·rename_i es rows;split at hs
   ·rename_i hb;obtain⟨⟨rfl,eI,fV⟩,rz,ti⟩:=hb;simp only[aT]at hs;subst hs;rcases hf with⟨h1,h2,rfl,rfl⟩|⟨id,off,bw,n,cc,h1,h2,h3,h4⟩
    ·refine⟨ae,0,0,h2,cy _,rz,ti,(λad e=>by cases e),λ_=>⟨rfl,rfl⟩,λv hv=>?_⟩;rcases hv with⟨_,rfl⟩|⟨ad,e,_⟩
     ·have ti:h.getD 0<=0:=ti;have e0:h.getD (0-0)=0:=by show h.getD 0=0;omega
      rw[e0];exact .inr ⟨_,rfl,by simpa using PR.sl0 (E:=E) (l:=ae) aa es⟩
     ·cases e
    ·obtain⟨v',w1,w2⟩:=r.at hx (by simp) (jc r h1 hx);have:=w1.same h1;subst this;have ee:=zR w2;subst ee;refine⟨_,hi-lo,cc-lo,h4,?_,rz,ti,(λad e=>by cases e;rfl),(λe=>by cases e),λv hv=>?_⟩
     ·cases w2 with
      |jI hG hb hn hc hm hr hl hh=>omega
     ·rcases hv with⟨e,_⟩|⟨ad,e,rfl⟩
      ·cases e
      ·cases e;have w2':=w2.free (by simp[bL]);obtain⟨_,_,_,e3⟩:=w2'.cut (lo:=lo+l) (hi:=lo+h.getD (hi-lo)) (by omega) (by omega);have e1:lo+h.getD (hi-lo)-(lo+l)=h.getD (hi-lo)-l:=by omega
       have e2:cc-(lo+l)=cc-lo-l:=by omega
       rw[e1,e2,nS,<-iN]at e3;exact .inr ⟨_,rfl,e3⟩
   ·cases hs
  ·cases hs
 |_=>rw[aD]at hs;simp[nc]at hs
def DL{x:Option Operand}{b:Option Nat}{vs:Option Value}{dflt:Nat}(h:(x=ae/\b=ae)\/∃op q n,x=J op/\be fr op=J (.int q n)/\0<=n/\b=J n.toNat)
(hv:vs=x.bind (be fr)):vd dflt vs=J (b.getD dflt)/\wj vs=J b/\(vs.isSome=b.isSome):=by
 rcases h with⟨rfl,rfl⟩|⟨op,q,n,rfl,h1,h2,rfl⟩
 ·subst hv;exact⟨rfl,rfl,rfl⟩
 ·simp only[aR,h1]at hv;subst hv;exact⟨by simp[vd,h2],by simp[wj,h2],rfl⟩
def U3{ty:TypeId}{a:Option Addr}{n cc es:Nat}{l h:Option Value}{m:Option Value}{lo hi:Nat}{mo:Option Nat}(he:lX P ty=J es)(ha:∀ad,a=J ad->ad=⟨ad.block,ad.off,J es⟩)(ha0:a=ae->n=0/\cc=0)
(hb:oe l h m n cc=J (lo,hi,mo)):
 nz P ty (.slice a n cc) l h m=(match a with
  |none=>J (.slice ae 0 0)
  |some ad=>match mo with
   |none=>J (.slice (J ⟨ad.block,ad.off+lo*es,J es⟩) (hi-lo) (cc-lo))
   |some mx=>if mx-lo=0 then J (.slice ae 0 0)else J (.slice (J ⟨ad.block,ad.off+lo*es,J es⟩) (hi-lo) (mx-lo))):=by
 obtain⟨e,g,rr,h1,h2⟩:=OP he;cases a with
 |none=>
  obtain⟨rfl,rfl⟩:=ha0 rfl;simp[nz,h1,h2,hb]
 |some ad=>
  have:=ha ad rfl;obtain⟨b,o,sp⟩:=ad;simp only at this;cases this;simp only[nz,h1,h2,hb,ne_eq,not_true_eq_false,l7];cases mo<;>rfl
def zt1(r:aq c.nt pin E0 E pf fr)(hp:er c pin){o:Oper}{ty:TypeId}{x:Operand}{l h m:Option Operand}{K:ah->Prop}{K':FR->AH->Prop}(ho:o.op=.slice ty x l h m)(hh:FW P c ty x l h m o.dst K pf)
(hk:∀pf' ai E',K pf'->aq c.nt pin E0 E' pf' ai->K' ai E'.H):aM P c.nt o K' fr E.H:=by
 obtain⟨d,op,Lg,ps,af,g⟩:=o;simp only at ho hh;subst ho;refine(show dw P c.nt ⟨d,.slice ty x l h m,Lg,ps,af,g⟩ K' fr E.H from ?_);unfold FW at hh;split at hh
 ·rename_i t es hes
  have run:∀{lb hb:Option Nat}{mb:Option Nat}{v w:Value},oO pf l=J lb->oO pf h=J hb->oO pf m=J mb->fr t=.v v->
   (nz P ty v (l.bind (be fr)) (h.bind (be fr)) (m.bind (be fr))=J w)->(m.isSome=Z->h.isSome=Z)->
   bB c.nt K' d (.v w) fr E.H->dw P c.nt ⟨d,.slice ty (.tmp t) l h m,Lg,ps,af,g⟩ K' fr E.H:=by
   intro lb hb mb v w h1 h2 h3 hv hw EN dj;have q1:=tc r h1;have q2:=tc r h2;have q3:=tc r h3;simp only[dw,gp];have W5:∀op u,be fr op=J u->bh fr E.H op=J (u,fr,E.H):=λop u hu=>L8 hu
   rcases q1 with⟨rfl,rfl⟩|⟨o1,k1,n1,rfl,a1,a2,rfl⟩<;>rcases q2 with⟨rfl,rfl⟩|⟨o2,k2,n2,rfl,b1,b2,rfl⟩<;>rcases q3 with⟨rfl,rfl⟩|⟨o3,k3,n3,rfl,c1,c2,rfl⟩<;>
    simp_all [ck,bh,eG]
  unfold EU at hh;split at hh
  ·rename_i lb hb h1 h2 h3;split at hh
   ·rename_i y hy;obtain⟨a,n,cc,g1,g2,g3,g4,g5,g6,g7⟩:=WS r hy;have e1:=DL (dflt:=0) (tc r h1) rfl;have e2:=DL (dflt:=n) (tc r h2) rfl;have e3:=DL (dflt:=0) (tc r h3) rfl
    have Sb:oe (l.bind (be fr)) (h.bind (be fr)) (m.bind (be fr)) n cc=J (lb.getD 0,hb.getD n,ae):=by
     simp only[oe,e1.1,e2.1,e3.2.1];rw[aB ⟨g3,by omega⟩]
    have jF:=U3 hes g5 g6 Sb;have hm:m=ae:=by rcases tc r h3 with⟨q,_⟩|⟨_,_,_,_,_,_,q⟩;exact q;cases q
    cases a with
    |none=>
     refine run h1 h2 h3 g1 jF (by simp[hm]) ?_;rcases g7 _ (.inl ⟨rfl,rfl⟩)with⟨s,q1,q2,q3⟩|⟨x,rfl,q1⟩
     ·exact jm r hp q1 q2 q3 hh hk
     ·exact gP r hp q1.up hh hk
    |some ad=>
     refine run h1 h2 h3 g1 jF (by simp[hm]) ?_;rcases g7 _ (.inr ⟨ad,rfl,rfl⟩)with⟨s,q1,q2,q3⟩|⟨x,rfl,q1⟩
     ·exact jm r hp q1 q2 q3 hh hk
     ·exact gP r hp q1.up hh hk
   ·cases hh
  ·rename_i lb hb mb h1 h2 h3;split at hh
   ·rename_i rows AaQ;obtain⟨⟨k1,k2,k3⟩,⟨y,hy⟩,dj⟩:=hh;obtain⟨a,n,cc,g1,g2,g3,g4,g5,g6,g7⟩:=WS r hy;obtain⟨a',cc',w1,w2⟩:=Sq r AaQ;rw[g1]at w1;simp only[FV.v.injEq,Value.slice.injEq]at w1;obtain⟨rfl,rfl,rfl⟩:=w1;have e1:=DL (dflt:=0) (tc r h1) rfl;have e2:=DL (dflt:=rows.length) (tc r h2) rfl;have e3:=DL (dflt:=0) (tc r h3) rfl
    have Sb:oe (l.bind (be fr)) (h.bind (be fr)) (m.bind (be fr)) rows.length cc=J (lb.getD 0,hb,J mb):=by
     simp only[oe,e1.1,e2.1,e3.2.1,v8];rw[aB ⟨by omega,by omega,by omega,by rw[e2.2.2];rfl⟩]
    have jF:=U3 hes g5 g6 Sb;have hm:h.isSome=Z:=by rcases tc r h2 with⟨_,q⟩|⟨_,_,_,q,_⟩;cases q;rw[q];rfl
    have B0:bB c.nt K' d (.v (.slice ae 0 0)) fr E.H:=gP r hp (.sl0 Z es) dj hk;cases a with
    |none=>exact run h1 h2 h3 g1 jF (λ_=>hm) B0
    |some ad=>
     simp only at jF;rw[aB (by omega)]at jF;exact run h1 h2 h3 g1 jF (λ_=>hm) B0
   ·cases hh
  ·cases hh
 ·cases hh
end
end Go.Pm
