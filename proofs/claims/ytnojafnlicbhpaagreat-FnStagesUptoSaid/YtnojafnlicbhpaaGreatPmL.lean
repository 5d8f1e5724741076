import Derived.Test.YtnojafnlicbhpaaGreatPmK
open Bool renaming false→aa,true→Z
open Option renaming none→ae,some→J
set_option linter.defProp false
namespace Go.Pm
open Go.Am
def ec(P:Program)(t:TypeId)(i:Nat):Nat:=
 match P.underlying t with
 |some (.struct jX)=>match jX[i]? with
  |some f=>cX P f.type
  |none=>0
 |some (.array _ e)|some (.slice e)=>cX P e
 |_=>0
def nE(P:Program)(t:TypeId):Option ((Nat->Option (Nat×Nat))×List PV):=
 match P.underlying t with
 |some (.struct jX)=>match cF P t with
  |some (_,_,_,z)=>if(z.all cz&&jX.toList.all (λf=>(P.info? f.type).isSome))=Z then J (dA P t,zz P t z)else ae
  |none=>ae
 |some (.array _ e)=>match cF P t with
  |some (_,_,_,z)=>match cF P e with
   |some (_,es,_)=>if z.all cz=Z then J ((λi=>J (i*es,es)),zz P t z)else ae
   |none=>ae
  |none=>ae
 |_=>ae
def CX(size:Nat)(x:PV):Bool:=kg x&&decide ((cR x).length=size)&&decide (size≠0)
def v8(lz:Nat->Option (Nat×Nat)):List (Nat×PV)->List PV->Option (List PV)
 |[],cs=>J cs
 |(i,x)::r,cs=>(lz i).bind λo=>if CX o.2 x=Z then(ke cs o.1 (cR x)).bind (v8 lz r)else ae
def QQ(c:aY)(d:Option Tmp)(K:ah->Prop)(pf:ah):Option (List PV)->Prop
 |some row=>dI c K d (.v (.agg row)) pf
 |none=>False
def Gr(P:Program)(c:aY)(t:TypeId)(ps:List (Nat×Operand))(d:Option Tmp)(K:ah->Prop)(pf:ah):Prop:=
 match nE P t,pS pf (ps.map λp=>(ec P t p.1,p.2))with
 |some b,J (xs,aR)=>QQ c d K aR (v8 b.1 ((ps.map (·.1)).zip xs) b.2)
 |_,_=>False
def sg(es:Nat):List (Nat×PV)->List (List PV)->Option (List (List PV))
 |[],rows=>J rows
 |(i,x)::r,rows=>if CX es x=Z/\i<rows.length then sg es r (rows.set i (cR x))else ae
def Px(c:aY)(es:Nat)(d:Nat)(K:ah->Prop)(pf:ah):Option (List (List PV))->Prop
 |some rows=>ic c d .skip=Z/\K (pf.put d (.ls es rows))
 |none=>False
def P1:Option PV->Bool
 |some (.sl ..)=>Z
 |_=>aa
def xU(pf:ah)(s:Nat)(p:aC)(i j:Nat):Nat->List (Nat×Operand)->Bool
 |_,[]=>Z
 |q,(q',.tmp t)::r=>if q'=q/\Cf (pf t)=J (s,p++[(i,j+q)])/\P1 (cn pf s (p++[(i,j+q)]))=Z then xU pf s p i j (q+1) r else aa
 |_,_=>aa
def GW(pf:ah):List (Nat×Operand)->Option (Nat×aC×Nat×Nat)
 |(_,.tmp t)::_=>(Cf (pf t)).bind λx=>(oV x.2).map λy=>(x.1,y)
 |_=>ae
def LS(P:Program)(t:TypeId)(len:Nat)(ps:List (Nat×Operand))(pf:ah):Option PF:=
 (ez P t).bind λz=>(GW pf ps).bind λa=>if z.1=1/\len<=2^24/\ps.length=len/\xU pf a.1 a.2.1 a.2.2.1 a.2.2.2 0 ps=Z then J (.as aa a.1 a.2.1 a.2.2.1 a.2.2.2 len)else ae
def Jj(P:Program)(c:aY)(t:TypeId)(len:Nat)(ps:List (Nat×Operand))(d:Nat)(K:ah->Prop)(pf:ah):Prop:=
 match LS P t len ps pf with
 |some y=>dI c K (J d) y pf
 |none=>False
def RD(c:aY):Option Tmp->Bool
 |some d=>AR c d
 |none=>aa
def vo(c:aY)(d:Nat)(xs:List PV):List PV:=if c.fz.contains (d+3*c.nt)=Z then xs.map drop else xs
def Hb(P:Program)(c:aY)(t:TypeId)(len:Nat)(ps:List (Nat×Operand))(d:Option Tmp)(K:ah->Prop)(pf:ah):Prop:=
 if RD c d=Z then Jj P c t len ps (d.getD 0) K pf else
 match ez P t,pS pf (ps.map λp=>(ec P t p.1,p.2)),d with
 |some z,J (xs,aR),J d=>len*z.1<=2^24/\Px c z.1 d K aR (sg z.1 ((ps.map (·.1)).zip (vo c d xs)) (List.replicate len z.2.2))
 |_,_,_=>False
def yG(pf:ah)(s:Nat)(p:aC)(x:PV):Option (PV×ah):=if dB x=Z then ae else if bN x=Z then(iC pf s p (drop x)).map λpf'=>(drop x,pf')else J (x,pf)
def ya(hb:Bool)(pf:ah)(t:Nat):PF->Option (PV×ah)
 | .v x=>yG pf t [] x
 | .rf s p=>(cn pf s p).bind (yG pf s p)
 | .bl row=>if hb=Z then J (.fp (row.map drop),(pf.bY t (.v (.fp (row.map drop)))).kill t 0)else ae
 |_=>ae
def uq(hb:Bool)(pf:ah):Operand->Option (PV×ah)
 | .tmp t=>ya hb pf t (pf t)
 | .const c=>if cz c=Z then J (drop (nF 0 c),pf)else ae
 | .func f=>J (.func (.func f) [] [],pf)
 | .global _=>ae
def sy(hb:Bool)(pf:ah):List Operand->Option (List PV×ah)
 |[]=>J ([],pf)
 |x::xs=>(uq hb pf x).bind λa=>(sy hb a.2 xs).map λb=>(a.1::b.1,b.2)
def Qx(c:aY):Option Tmp->Bool
 |some d=>c.fz.contains (d+4*c.nt)
 |none=>aa
def IX(pf:ah):Fn->List Operand->List Operand->Option (FuncId×Nat×List Operand)
 | .func g,[],.tmp s::ys=>match pf s with
  | .v (.bx _)=>J (g,s,ys)
  |_=>ae
 |_,_,_=>ae
def KG(c:aY)(pf:ah)(x:FuncId×Nat×List Operand):Option (PF×ah):=(sy (!c.hp.isEmpty) pf x.2.2).map λy=>(.cl x.2.1 x.1 y.1,y.2)
def GE(c:aY)(fn:Fn)(xs ys:List Operand)(d:Option Tmp)(K:ah->Prop)(pf:ah):Prop:=
 if Qx c d=Z then match(IX pf fn xs ys).bind (KG c pf)with
  |some (y,aR)=>dI c K d y aR
  |none=>False
 else
 match sy (!c.hp.isEmpty) pf (xs++ys)with
 |some (vs,aR)=>dI c K d (.v (.func fn (vs.take xs.length) (vs.drop xs.length))) aR
 |none=>False
section
variable {nt:Nat}{pin:List (Nat×Value)}{E0 E E':Env}{pf:ah}{fr ak:FR}{c:aY}{P:Program}
def ul(r:av nt pin E0 E pf fr){x:Option Operand}{b:Option Nat}(h:pK pf x=J b):
 (x=ae/\b=ae)\/∃op q n,x=J op/\be fr op=J (.int q n)/\0<=n/\b=J n.toNat:=by
 cases x with
 |none=>simp only[pK,aT]at h;exact .inl ⟨rfl,h.symm⟩
 |some op=>
  simp only[pK,bW]at h;obtain⟨v,h1,h2⟩:=h;split at h2
  ·rename_i q n;split at h2
   ·rename_i hn;simp only[aT]at h2;exact .inr ⟨op,q,n,rfl,qk r h1,hn,h2.symm⟩
   ·cases h2
  ·cases h2
def zrj(r:av nt pin E0 E pf fr){t eW l:Nat}{h:Option Nat}{y:PF}(hs:nM eW l h pf t (pf t)=J y):
 ∃a n cc,fr t=.v (.slice a n cc)/\n<=cc/\l<=h.getD n/\h.getD n<=n/\(∀ad,a=J ad->ad=⟨ad.block,ad.off,J eW⟩)/\(a=ae->n=0/\cc=0)/\
  ∀v,(a=ae/\v=.slice ae 0 0\/∃ad,a=J ad/\v=.slice (J ⟨ad.block,ad.off+l*eW,J eW⟩) (h.getD n-l) (cc-l))->
   ((∃s,bE y=J s/\s<nt/\Eb E fr y (.v v))\/∃x,y=.v x/\PR E ae x v):=by
 have hf:=r.f t
 have ht:t<nt:=by
  rcases dQ t nt with h1|h1
  ·exact h1
  ·rw[r.hi t h1]at hs;simp[nM,jP,tL]at hs
 have key:∀{s:Nat}{p:aC}{x:PV}{v0:Value}{f:Nat->Nat->PF},s<nt->(∀a b,f a b=.rv s p a b)->Wk E fr s p v0->PR E (J (s,p)) x v0->fr t=.v v0->tL eW l h f x=J y->
  ∃a n cc,fr t=.v (.slice a n cc)/\n<=cc/\l<=h.getD n/\h.getD n<=n/\(∀ad,a=J ad->ad=⟨ad.block,ad.off,J eW⟩)/\(a=ae->n=0/\cc=0)/\
  ∀v,(a=ae/\v=.slice ae 0 0\/∃ad,a=J ad/\v=.slice (J ⟨ad.block,ad.off+l*eW,J eW⟩) (h.getD n-l) (cc-l))->
   ((∃s,bE y=J s/\s<nt/\Eb E fr y (.v v))\/∃x,y=.v x/\PR E ae x v):=by
  intro s p x v0 f jf hff hw hx nz hq;unfold tL at hq;split at hq
  ·rename_i es rows;split at hq
   ·rename_i hb;obtain⟨rfl,eS,gv⟩:=hb;simp only[aT]at hq;subst hq;rw[hff];cases hx with
    |sl0 _ _=>
     have gv:h.getD 0<=0:=gv;have eS:l<=h.getD 0:=eS;refine⟨ae,0,0,nz,cB _,eS,gv,(λad e=>by cases e),λ_=>⟨rfl,rfl⟩,λv hv=>?_⟩;rcases hv with⟨_,rfl⟩|⟨ad,e,_⟩
     ·exact .inl ⟨s,rfl,jf,.inl ⟨hw,rfl,by omega,by show h.getD 0=0;omega⟩⟩
     ·cases e
    | @fK _ id off es n cc k rows how hG hb bc hn hc hm hr hl hh=>
     subst hn;refine⟨J ⟨id,off,J es⟩,rows.length,cc,nz,hc,eS,gv,(λad e=>by cases e;rfl),(λe=>by cases e),λv hv=>?_⟩;rcases hv with⟨e,_⟩|⟨ad,e,rfl⟩
     ·cases e
     ·cases e;exact .inl ⟨s,rfl,jf,.inr ⟨id,off,es,rows.length,cc,hw,eS,gv,rfl⟩⟩
   ·cases hq
  ·rename_i es rows;split at hq
   ·rename_i hb;obtain⟨rfl,eS,gv⟩:=hb;simp only[aT]at hq;subst hq;have lI:=hx.free (by simp[bN]);cases lI with
    |sl0 _ _=>
     have gv:h.getD 0<=0:=gv;have eS:l<=h.getD 0:=eS;refine⟨ae,0,0,nz,cB _,eS,gv,(λad e=>by cases e),λ_=>⟨rfl,rfl⟩,λv hv=>?_⟩;rcases hv with⟨_,rfl⟩|⟨ad,e,_⟩
     ·exact .inr ⟨_,rfl,by simpa using PR.sl0 (E:=E) (l:=ae) aa es⟩
     ·cases e
    | @jZ _ id off es n cc k rows hG hb hn hc hm hr hl hh=>
     have fg:PR E ae (.sl aa es rows) (.slice (J ⟨id,off,J es⟩) n cc):=.jZ hG hb hn hc hm hr hl hh;subst hn;refine⟨J ⟨id,off,J es⟩,rows.length,cc,nz,hc,eS,gv,(λad e=>by cases e;rfl),(λe=>by cases e),λv hv=>?_⟩;rcases hv with⟨e,_⟩|⟨ad,e,rfl⟩
     ·cases e
     ·cases e;obtain⟨_,_,_,e3⟩:=fg.cut eS gv;exact .inr ⟨_,rfl,e3⟩
   ·cases hq
  ·cases hq
 cases aF:pf t with
 |v x=>
  rw[aF]at hs hf;simp only[nM]at hs;obtain⟨v,h1,h2⟩:=gA hf (by rintro rfl;simp[tL]at hs);exact key (p:=[]) ht (λ_ _=>rfl) (.inl ⟨v,h1,rfl⟩) h2 h1 hs
 |rf s p=>
  rw[aF]at hs hf;simp only[nM,bW]at hs;obtain⟨x,hx,hs⟩:=hs;obtain⟨v,h1,h2⟩:=hf;obtain⟨v',w1,w2⟩:=r.at hx (by rintro rfl;simp[tL]at hs) (jn r h2 hx);have:=w1.same h2;subst this;exact key (r.rt t s (by rw[aF];rfl)) (λ_ _=>rfl) h2 w2 h1 hs
 |rv s p lo hi=>
  rw[aF]at hs hf;simp only[nM,bW]at hs;obtain⟨x,hx,hs⟩:=hs;have jf:=r.rt t s (by rw[aF];rfl);unfold J5 at hs;split at hs
  ·rename_i es rows;split at hs
   ·rename_i hb;obtain⟨⟨rfl,eS,gv⟩,sS,t7⟩:=hb;simp only[aT]at hs;subst hs;rcases hf with⟨h1,h2,rfl,rfl⟩|⟨id,off,bA,n,cc,h1,h2,h3,h4⟩
    ·refine⟨ae,0,0,h2,cB _,sS,t7,(λad e=>by cases e),λ_=>⟨rfl,rfl⟩,λv hv=>?_⟩;rcases hv with⟨_,rfl⟩|⟨ad,e,_⟩
     ·have t7:h.getD 0<=0:=t7;have sS:l<=h.getD 0:=sS;exact .inl ⟨s,rfl,jf,.inl ⟨h1,rfl,by omega,by show 0+h.getD 0=0;omega⟩⟩
     ·cases e
    ·obtain⟨v',w1,w2⟩:=r.at hx (by simp) (jn r h1 hx);have:=w1.same h1;subst this;have ee:=AW w2;subst ee;refine⟨_,hi-lo,cc-lo,h4,?_,sS,t7,(λad e=>by cases e;rfl),(λe=>by cases e),λv hv=>?_⟩
     ·cases w2 with
      |fK how hG hb bc hn hc hm hr hl hh=>omega
     ·rcases hv with⟨e,_⟩|⟨ad,e,rfl⟩
      ·cases e
      ·cases e;refine .inl ⟨s,rfl,jf,.inr ⟨id,off,es,n,cc,h1,by omega,by omega,?_⟩⟩;have e1:lo+h.getD (hi-lo)-(lo+l)=h.getD (hi-lo)-l:=by omega
       have e2:cc-(lo+l)=cc-lo-l:=by omega
       rw[e1,e2,oz,jc]
   ·cases hs
  ·rename_i es rows;split at hs
   ·rename_i hb;obtain⟨⟨rfl,eS,gv⟩,sS,t7⟩:=hb;simp only[aT]at hs;subst hs;rcases hf with⟨h1,h2,rfl,rfl⟩|⟨id,off,bA,n,cc,h1,h2,h3,h4⟩
    ·refine⟨ae,0,0,h2,cB _,sS,t7,(λad e=>by cases e),λ_=>⟨rfl,rfl⟩,λv hv=>?_⟩;rcases hv with⟨_,rfl⟩|⟨ad,e,_⟩
     ·have t7:h.getD 0<=0:=t7;have e0:h.getD (0-0)=0:=by show h.getD 0=0;omega
      rw[e0];exact .inr ⟨_,rfl,by simpa using PR.sl0 (E:=E) (l:=ae) aa es⟩
     ·cases e
    ·obtain⟨v',w1,w2⟩:=r.at hx (by simp) (jn r h1 hx);have:=w1.same h1;subst this;have ee:=AW w2;subst ee;refine⟨_,hi-lo,cc-lo,h4,?_,sS,t7,(λad e=>by cases e;rfl),(λe=>by cases e),λv hv=>?_⟩
     ·cases w2 with
      |jZ hG hb hn hc hm hr hl hh=>omega
     ·rcases hv with⟨e,_⟩|⟨ad,e,rfl⟩
      ·cases e
      ·cases e;have w2':=w2.free (by simp[bN]);obtain⟨_,_,_,e3⟩:=w2'.cut (lo:=lo+l) (hi:=lo+h.getD (hi-lo)) (by omega) (by omega);have e1:lo+h.getD (hi-lo)-(lo+l)=h.getD (hi-lo)-l:=by omega
       have e2:cc-(lo+l)=cc-lo-l:=by omega
       rw[e1,e2,oz,<-jc]at e3;exact .inr ⟨_,rfl,e3⟩
   ·cases hs
  ·cases hs
 |_=>rw[aF]at hs;simp[nM]at hs
def GA{x:Option Operand}{b:Option Nat}{vs:Option Value}{dflt:Nat}(h:(x=ae/\b=ae)\/∃op q n,x=J op/\be fr op=J (.int q n)/\0<=n/\b=J n.toNat)
(hv:vs=x.bind (be fr)):v5 dflt vs=J (b.getD dflt)/\za vs=J b/\(vs.isSome=b.isSome):=by
 rcases h with⟨rfl,rfl⟩|⟨op,q,n,rfl,h1,h2,rfl⟩
 ·subst hv;exact⟨rfl,rfl,rfl⟩
 ·simp only[aS,h1]at hv;subst hv;exact⟨by simp[v5,h2],by simp[za,h2],rfl⟩
def zoW{ty:TypeId}{a:Option Addr}{n cc es:Nat}{l h:Option Value}{m:Option Value}{lo hi:Nat}{mo:Option Nat}(he:ma P ty=J es)(ha:∀ad,a=J ad->ad=⟨ad.block,ad.off,J es⟩)(ha0:a=ae->n=0/\cc=0)
(hb:oR l h m n cc=J (lo,hi,mo)):
 n7 P ty (.slice a n cc) l h m=(match a with
  |none=>J (.slice ae 0 0)
  |some ad=>match mo with
   |none=>J (.slice (J ⟨ad.block,ad.off+lo*es,J es⟩) (hi-lo) (cc-lo))
   |some mx=>if mx-lo=0 then J (.slice ae 0 0)else J (.slice (J ⟨ad.block,ad.off+lo*es,J es⟩) (hi-lo) (mx-lo))):=by
 obtain⟨e,g,rr,h1,h2⟩:=T2 he;cases a with
 |none=>
  obtain⟨rfl,rfl⟩:=ha0 rfl;simp[n7,h1,h2,hb]
 |some ad=>
  have:=ha ad rfl;obtain⟨b,o,sp⟩:=ad;simp only at this;cases this;simp only[n7,h1,h2,hb,ne_eq,not_true_eq_false,my];cases mo<;>rfl
def ztx(r:av c.nt pin E0 E pf fr)(hp:eG c pin){o:Oper}{ty:TypeId}{x:Operand}{l h m:Option Operand}{K:ah->Prop}{K':FR->AH->Prop}(ho:o.op=.slice ty x l h m)(hh:G8 P c ty x l h m o.dst K pf)
(hk:∀pf' ak E',K pf'->av c.nt pin E0 E' pf' ak->K' ak E'.H):aP P c.nt o K' fr E.H:=by
 obtain⟨d,op,Mr,ps,af,g⟩:=o;simp only at ho hh;subst ho;refine(show dE P c.nt ⟨d,.slice ty x l h m,Mr,ps,af,g⟩ K' fr E.H from ?_);unfold G8 at hh;split at hh
 ·rename_i t es hes
  have run:∀{lb hb:Option Nat}{mb:Option Nat}{v w:Value},pK pf l=J lb->pK pf h=J hb->pK pf m=J mb->fr t=.v v->
   (n7 P ty v (l.bind (be fr)) (h.bind (be fr)) (m.bind (be fr))=J w)->(m.isSome=Z->h.isSome=Z)->
   bC c.nt K' d (.v w) fr E.H->dE P c.nt ⟨d,.slice ty (.tmp t) l h m,Mr,ps,af,g⟩ K' fr E.H:=by
   intro lb hb mb v w h1 h2 h3 hv hw Hh dv;have q1:=ul r h1;have q2:=ul r h2;have q3:=ul r h3;simp only[dE,gG];have a0g:∀op u,be fr op=J u->bg fr E.H op=J (u,fr,E.H):=λop u hu=>O8 hu
   rcases q1 with⟨rfl,rfl⟩|⟨o1,k1,n1,rfl,a1,a2,rfl⟩<;>rcases q2 with⟨rfl,rfl⟩|⟨o2,k2,n2,rfl,b1,b2,rfl⟩<;>rcases q3 with⟨rfl,rfl⟩|⟨o3,k3,n3,rfl,c1,c2,rfl⟩<;>
    simp_all [cr,bg,eY]
  unfold Gl at hh;split at hh
  ·rename_i lb hb h1 h2 h3;split at hh
   ·rename_i y hy;obtain⟨a,n,cc,g1,g2,g3,g4,g5,g6,g7⟩:=zrj r hy;have e1:=GA (dflt:=0) (ul r h1) rfl;have e2:=GA (dflt:=n) (ul r h2) rfl;have e3:=GA (dflt:=0) (ul r h3) rfl
    have RX:oR (l.bind (be fr)) (h.bind (be fr)) (m.bind (be fr)) n cc=J (lb.getD 0,hb.getD n,ae):=by
     simp only[oR,e1.1,e2.1,e3.2.1];rw[aD ⟨g3,by omega⟩]
    have j6:=zoW hes g5 g6 RX;have hm:m=ae:=by rcases ul r h3 with⟨q,_⟩|⟨_,_,_,_,_,_,q⟩;exact q;cases q
    cases a with
    |none=>
     refine run h1 h2 h3 g1 j6 (by simp[hm]) ?_;rcases g7 _ (.inl ⟨rfl,rfl⟩)with⟨s,q1,q2,q3⟩|⟨x,rfl,q1⟩
     ·exact jQ r hp q1 q2 q3 hh hk
     ·exact g8 r hp q1.up hh hk
    |some ad=>
     refine run h1 h2 h3 g1 j6 (by simp[hm]) ?_;rcases g7 _ (.inr ⟨ad,rfl,rfl⟩)with⟨s,q1,q2,q3⟩|⟨x,rfl,q1⟩
     ·exact jQ r hp q1 q2 q3 hh hk
     ·exact g8 r hp q1.up hh hk
   ·cases hh
  ·rename_i lb hb mb h1 h2 h3;split at hh
   ·rename_i rows a3b;obtain⟨⟨k1,k2,k3⟩,⟨y,hy⟩,dv⟩:=hh;obtain⟨a,n,cc,g1,g2,g3,g4,g5,g6,g7⟩:=zrj r hy;obtain⟨a',cc',w1,w2⟩:=SG r a3b;rw[g1]at w1;simp only[FV.v.injEq,Value.slice.injEq]at w1;obtain⟨rfl,rfl,rfl⟩:=w1;have e1:=GA (dflt:=0) (ul r h1) rfl;have e2:=GA (dflt:=rows.length) (ul r h2) rfl;have e3:=GA (dflt:=0) (ul r h3) rfl
    have RX:oR (l.bind (be fr)) (h.bind (be fr)) (m.bind (be fr)) rows.length cc=J (lb.getD 0,hb,J mb):=by
     simp only[oR,e1.1,e2.1,e3.2.1,xG];rw[aD ⟨by omega,by omega,by omega,by rw[e2.2.2];rfl⟩]
    have j6:=zoW hes g5 g6 RX;have hm:h.isSome=Z:=by rcases ul r h2 with⟨_,q⟩|⟨_,_,_,q,_⟩;cases q;rw[q];rfl
    have DU:bC c.nt K' d (.v (.slice ae 0 0)) fr E.H:=g8 r hp (.sl0 Z es) dv hk;cases a with
    |none=>exact run h1 h2 h3 g1 j6 (λ_=>hm) DU
    |some ad=>
     simp only at j6;rw[aD (by omega)]at j6;exact run h1 h2 h3 g1 j6 (λ_=>hm) DU
   ·cases hh
  ·cases hh
 ·cases hh
end
end Go.Pm
