import Derived.Test.YtplemekcclpaoaaGreatDoorPmK
namespace Go.Pm
open Go.Am
def zao(P:Program)(t:TypeId)(i:Nat):Nat:=
 match P.underlying t with
 |some (.struct fields)=>match fields[i]? with
  |some f=>ezT P f.type
  |none=>0
 |some (.array _ e)|some (.slice e)=>ezT P e
 |_=>0
def zdu(P:Program)(t:TypeId):Option ((Nat→Option (Nat×Nat))×List PV):=
 match P.underlying t with
 |some (.struct fields)=>match tsz P t with
  |some (_,_,_,z)=>if(z.all zai&&fields.toList.all (fun f=>(P.info? f.type).isSome))=true then some (zah P t,zz P t z)else none
  |none=>none
 |some (.array _ e)=>match tsz P t with
  |some (_,_,_,z)=>match tsz P e with
   |some (_,es,_)=>if z.all zai=true then some ((fun i=>some (i*es,es)),zz P t z)else none
   |none=>none
  |none=>none
 |_=>none
def zjD(size:Nat)(x:PV):Bool:=zcc x&&decide ((zay x).length=size)&&decide (size≠0)
def ziK(place:Nat→Option (Nat×Nat)):List (Nat×PV)→List PV→Option (List PV)
 |[],cs=>some cs
 |(i,x)::r,cs=>(place i).bind fun o=>if zjD o.2 x=true then(zfB cs o.1 (zay x)).bind (ziK place r)else none
def zuZ(c:Cfg)(d:Option Tmp)(K:PFr→Prop)(pf:PFr):Option (List PV)→Prop
 |some row=>zbr c K d (.v (.agg row)) pf
 |none=>False
def zkJ(P:Program)(c:Cfg)(t:TypeId)(ps:List (Nat×Operand))(d:Option Tmp)(K:PFr→Prop)(pf:PFr):Prop:=
 match zdu P t,zgr pf (ps.map fun p=>(zao P t p.1,p.2))with
 |some b,some (xs,pf1)=>zuZ c d K pf1 (ziK b.1 ((ps.map (·.1)).zip xs) b.2)
 |_,_=>False
def zhp(es:Nat):List (Nat×PV)→List (List PV)→Option (List (List PV))
 |[],rows=>some rows
 |(i,x)::r,rows=>if zjD es x=true∧i<rows.length then zhp es r (rows.set i (zay x))else none
def zqF(c:Cfg)(es:Nat)(d:Nat)(K:PFr→Prop)(pf:PFr):Option (List (List PV))→Prop
 |some rows=>ckd c d .skip=true∧K (pf.put d (.ls es rows))
 |none=>False
def zqP:Option PV→Bool
 |some (.sl ..)=>true
 |_=>false
def zlj(pf:PFr)(s:Nat)(p:zad)(i j:Nat):Nat→List (Nat×Operand)→Bool
 |_,[]=>true
 |q,(q',.tmp t)::r=>if q'=q∧zn1 (pf t)=some (s,p++[(i,j+q)])∧zqP (zaz pf s (p++[(i,j+q)]))=true then zlj pf s p i j (q+1) r else false
 |_,_=>false
def zpI(pf:PFr):List (Nat×Operand)→Option (Nat×zad×Nat×Nat)
 |(_,.tmp t)::_=>(zn1 (pf t)).bind fun x=>(zfn x.2).map fun y=>(x.1,y)
 |_=>none
def zrx(P:Program)(t:TypeId)(len:Nat)(ps:List (Nat×Operand))(pf:PFr):Option PF:=
 (ez P t).bind fun z=>(zpI pf ps).bind fun a=>if z.1=1∧len≤2^24∧ps.length=len∧zlj pf a.1 a.2.1 a.2.2.1 a.2.2.2 0 ps=true then some (.as false a.1 a.2.1 a.2.2.1 a.2.2.2 len)else none
def zoa(P:Program)(c:Cfg)(t:TypeId)(len:Nat)(ps:List (Nat×Operand))(d:Nat)(K:PFr→Prop)(pf:PFr):Prop:=
 match zrx P t len ps pf with
 |some y=>zbr c K (some d) y pf
 |none=>False
def zxJ(c:Cfg):Option Tmp→Bool
 |some d=>mkd c d
 |none=>false
def drx(c:Cfg)(d:Nat)(xs:List PV):List PV:=if c.fz.contains (d+3*c.nt)=true then xs.map drop else xs
def zpE(P:Program)(c:Cfg)(t:TypeId)(len:Nat)(ps:List (Nat×Operand))(d:Option Tmp)(K:PFr→Prop)(pf:PFr):Prop:=
 if zxJ c d=true then zoa P c t len ps (d.getD 0) K pf else
 match ez P t,zgr pf (ps.map fun p=>(zao P t p.1,p.2)),d with
 |some z,some (xs,pf1),some d=>len*z.1≤2^24∧zqF c z.1 d K pf1 (zhp z.1 ((ps.map (·.1)).zip (drx c d xs)) (List.replicate len z.2.2))
 |_,_,_=>False
def zkY(pf:PFr)(s:Nat)(p:zad)(x:PV):Option (PV×PFr):=if isJ x=true then none else if zaC x=true then(zck pf s p (drop x)).map fun pf'=>(drop x,pf')else some (x,pf)
def zlB(hb:Bool)(pf:PFr)(t:Nat):PF→Option (PV×PFr)
 | .v x=>zkY pf t [] x
 | .rf s p=>(zaz pf s p).bind (zkY pf s p)
 | .bl row=>if hb=true then some (.fp (row.map drop),(pf.upd t (.v (.fp (row.map drop)))).kill t 0)else none
 |_=>none
def zjH(hb:Bool)(pf:PFr):Operand→Option (PV×PFr)
 | .tmp t=>zlB hb pf t (pf t)
 | .const c=>if zai c=true then some (drop (zgF 0 c),pf)else none
 | .func f=>some (.func (.func f) [] [],pf)
 | .global _=>none
def zi0(hb:Bool)(pf:PFr):List Operand→Option (List PV×PFr)
 |[]=>some ([],pf)
 |x::xs=>(zjH hb pf x).bind fun a=>(zi0 hb a.2 xs).map fun b=>(a.1::b.1,b.2)
def clB(c:Cfg):Option Tmp→Bool
 |some d=>c.fz.contains (d+4*c.nt)
 |none=>false
def clS(pf:PFr):Fn→List Operand→List Operand→Option (FuncId×Nat×List Operand)
 | .func g,[],.tmp s::ys=>match pf s with
  | .v (.bx _)=>some (g,s,ys)
  |_=>none
 |_,_,_=>none
def clM(c:Cfg)(pf:PFr)(x:FuncId×Nat×List Operand):Option (PF×PFr):=(zi0 (!c.hp.isEmpty) pf x.2.2).map fun y=>(.cl x.2.1 x.1 y.1,y.2)
def zmT(c:Cfg)(fn:Fn)(xs ys:List Operand)(d:Option Tmp)(K:PFr→Prop)(pf:PFr):Prop:=
 if clB c d=true then match(clS pf fn xs ys).bind (clM c pf)with
  |some (y,pf1)=>zbr c K d y pf1
  |none=>False
 else
 match zi0 (!c.hp.isEmpty) pf (xs++ys)with
 |some (vs,pf1)=>zbr c K d (.v (.func fn (vs.take xs.length) (vs.drop xs.length))) pf1
 |none=>False
section
variable {nt:Nat}{pin:List (Nat×Value)}{E0 E E':Env}{pf:PFr}{fr fr':FR}{c:Cfg}{P:Program}
theorem zel(r:RelP nt pin E0 E pf fr){x:Option Operand}{b:Option Nat}(h:rdB pf x=some b):
 (x=none∧b=none)∨∃op q n,x=some op∧rdv fr op=some (.int q n)∧0≤n∧b=some n.toNat:=by
 cases x with
 |none=>simp only[rdB,Option.some.injEq]at h;exact .inl ⟨rfl,h.symm⟩
 |some op=>
  simp only[rdB,Option.bind_eq_some_iff]at h;obtain⟨v,h1,h2⟩:=h;split at h2
  ·rename_i q n;split at h2
   ·rename_i hn;simp only[Option.some.injEq]at h2;exact .inr ⟨op,q,n,rfl,zcS r h1,hn,h2.symm⟩
   ·cases h2
  ·cases h2
theorem zqj(r:RelP nt pin E0 E pf fr){t es0 l:Nat}{h:Option Nat}{y:PF}(hs:slF es0 l h pf t (pf t)=some y):
 ∃a n cc,fr t=.v (.slice a n cc)∧n≤cc∧l≤h.getD n∧h.getD n≤n∧(∀ad,a=some ad→ad=⟨ad.block,ad.off,some es0⟩)∧(a=none→n=0∧cc=0)∧
  ∀v,(a=none∧v=.slice none 0 0∨∃ad,a=some ad∧v=.slice (some ⟨ad.block,ad.off+l*es0,some es0⟩) (h.getD n-l) (cc-l))→
   ((∃s,zam y=some s∧s<nt∧AlV E fr y (.v v))∨∃x,y=.v x∧PR E none x v):=by
 have hf:=r.f t
 have ht:t<nt:=by
  rcases Nat.lt_or_ge t nt with h1|h1
  ·exact h1
  ·rw[r.hi t h1]at hs;simp[slF,jP,slV]at hs
 have key:∀{s:Nat}{p:zad}{x:PV}{v0:Value}{f:Nat→Nat→PF},s<nt→(∀a b,f a b=.rv s p a b)→Wk E fr s p v0→PR E (some (s,p)) x v0→fr t=.v v0→slV es0 l h f x=some y→
  ∃a n cc,fr t=.v (.slice a n cc)∧n≤cc∧l≤h.getD n∧h.getD n≤n∧(∀ad,a=some ad→ad=⟨ad.block,ad.off,some es0⟩)∧(a=none→n=0∧cc=0)∧
  ∀v,(a=none∧v=.slice none 0 0∨∃ad,a=some ad∧v=.slice (some ⟨ad.block,ad.off+l*es0,some es0⟩) (h.getD n-l) (cc-l))→
   ((∃s,zam y=some s∧s<nt∧AlV E fr y (.v v))∨∃x,y=.v x∧PR E none x v):=by
  intro s p x v0 f hsn hff hw hx hfr hq;unfold slV at hq;split at hq
  ·rename_i es rows;split at hq
   ·rename_i hb;obtain⟨rfl,hb1,hb2⟩:=hb;simp only[Option.some.injEq]at hq;subst hq;rw[hff];cases hx with
    |sl0 _ _=>
     have hb2:h.getD 0≤0:=hb2;have hb1:l≤h.getD 0:=hb1;refine⟨none,0,0,hfr,Nat.le_refl _,hb1,hb2,(fun ad e=>by cases e),fun _=>⟨rfl,rfl⟩,fun v hv=>?_⟩;rcases hv with⟨_,rfl⟩|⟨ad,e,_⟩
     ·exact .inl ⟨s,rfl,hsn,.inl ⟨hw,rfl,by omega,by show h.getD 0=0;omega⟩⟩
     ·cases e
    | @slO _ id off es n cc k rows how hG hb hrw hn hc hm hr hl hh=>
     subst hn;refine⟨some ⟨id,off,some es⟩,rows.length,cc,hfr,hc,hb1,hb2,(fun ad e=>by cases e;rfl),(fun e=>by cases e),fun v hv=>?_⟩;rcases hv with⟨e,_⟩|⟨ad,e,rfl⟩
     ·cases e
     ·cases e;exact .inl ⟨s,rfl,hsn,.inr ⟨id,off,es,rows.length,cc,hw,hb1,hb2,rfl⟩⟩
   ·cases hq
  ·rename_i es rows;split at hq
   ·rename_i hb;obtain⟨rfl,hb1,hb2⟩:=hb;simp only[Option.some.injEq]at hq;subst hq;have hx':=hx.free (by simp[zaC]);cases hx' with
    |sl0 _ _=>
     have hb2:h.getD 0≤0:=hb2;have hb1:l≤h.getD 0:=hb1;refine⟨none,0,0,hfr,Nat.le_refl _,hb1,hb2,(fun ad e=>by cases e),fun _=>⟨rfl,rfl⟩,fun v hv=>?_⟩;rcases hv with⟨_,rfl⟩|⟨ad,e,_⟩
     ·exact .inr ⟨_,rfl,by simpa using PR.sl0 (E:=E) (l:=none) false es⟩
     ·cases e
    | @slS _ id off es n cc k rows hG hb hn hc hm hr hl hh=>
     have hpr:PR E none (.sl false es rows) (.slice (some ⟨id,off,some es⟩) n cc):=.slS hG hb hn hc hm hr hl hh;subst hn;refine⟨some ⟨id,off,some es⟩,rows.length,cc,hfr,hc,hb1,hb2,(fun ad e=>by cases e;rfl),(fun e=>by cases e),fun v hv=>?_⟩;rcases hv with⟨e,_⟩|⟨ad,e,rfl⟩
     ·cases e
     ·cases e;obtain⟨_,_,_,e3⟩:=hpr.cut hb1 hb2;exact .inr ⟨_,rfl,e3⟩
   ·cases hq
  ·cases hq
 cases hpt:pf t with
 |v x=>
  rw[hpt]at hs hf;simp only[slF]at hs;obtain⟨v,h1,h2⟩:=zcl hf (by rintro rfl;simp[slV]at hs);exact key (p:=[]) ht (fun _ _=>rfl) (.inl ⟨v,h1,rfl⟩) h2 h1 hs
 |rf s p=>
  rw[hpt]at hs hf;simp only[slF,Option.bind_eq_some_iff]at hs;obtain⟨x,hx,hs⟩:=hs;obtain⟨v,h1,h2⟩:=hf;obtain⟨v',w1,w2⟩:=r.at hx (by rintro rfl;simp[slV]at hs) (zbc r h2 hx);have:=w1.same h2;subst this;exact key (r.rt t s (by rw[hpt];rfl)) (fun _ _=>rfl) h2 w2 h1 hs
 |rv s p lo hi=>
  rw[hpt]at hs hf;simp only[slF,Option.bind_eq_some_iff]at hs;obtain⟨x,hx,hs⟩:=hs;have hsn:=r.rt t s (by rw[hpt];rfl);unfold slW at hs;split at hs
  ·rename_i es rows;split at hs
   ·rename_i hb;obtain⟨⟨rfl,hb1,hb2⟩,hb3,hb4⟩:=hb;simp only[Option.some.injEq]at hs;subst hs;rcases hf with⟨h1,h2,rfl,rfl⟩|⟨id,off,es',n,cc,h1,h2,h3,h4⟩
    ·refine⟨none,0,0,h2,Nat.le_refl _,hb3,hb4,(fun ad e=>by cases e),fun _=>⟨rfl,rfl⟩,fun v hv=>?_⟩;rcases hv with⟨_,rfl⟩|⟨ad,e,_⟩
     ·have hb4:h.getD 0≤0:=hb4;have hb3:l≤h.getD 0:=hb3;exact .inl ⟨s,rfl,hsn,.inl ⟨h1,rfl,by omega,by show 0+h.getD 0=0;omega⟩⟩
     ·cases e
    ·obtain⟨v',w1,w2⟩:=r.at hx (by simp) (zbc r h1 hx);have:=w1.same h1;subst this;have ee:=zj3 w2;subst ee;refine⟨_,hi-lo,cc-lo,h4,?_,hb3,hb4,(fun ad e=>by cases e;rfl),(fun e=>by cases e),fun v hv=>?_⟩
     ·cases w2 with
      |slO how hG hb hrw hn hc hm hr hl hh=>omega
     ·rcases hv with⟨e,_⟩|⟨ad,e,rfl⟩
      ·cases e
      ·cases e;refine .inl ⟨s,rfl,hsn,.inr ⟨id,off,es,n,cc,h1,by omega,by omega,?_⟩⟩;have e1:lo+h.getD (hi-lo)-(lo+l)=h.getD (hi-lo)-l:=by omega
       have e2:cc-(lo+l)=cc-lo-l:=by omega
       rw[e1,e2,Nat.add_mul,Nat.add_assoc]
   ·cases hs
  ·rename_i es rows;split at hs
   ·rename_i hb;obtain⟨⟨rfl,hb1,hb2⟩,hb3,hb4⟩:=hb;simp only[Option.some.injEq]at hs;subst hs;rcases hf with⟨h1,h2,rfl,rfl⟩|⟨id,off,es',n,cc,h1,h2,h3,h4⟩
    ·refine⟨none,0,0,h2,Nat.le_refl _,hb3,hb4,(fun ad e=>by cases e),fun _=>⟨rfl,rfl⟩,fun v hv=>?_⟩;rcases hv with⟨_,rfl⟩|⟨ad,e,_⟩
     ·have hb4:h.getD 0≤0:=hb4;have e0:h.getD (0-0)=0:=by show h.getD 0=0;omega
      rw[e0];exact .inr ⟨_,rfl,by simpa using PR.sl0 (E:=E) (l:=none) false es⟩
     ·cases e
    ·obtain⟨v',w1,w2⟩:=r.at hx (by simp) (zbc r h1 hx);have:=w1.same h1;subst this;have ee:=zj3 w2;subst ee;refine⟨_,hi-lo,cc-lo,h4,?_,hb3,hb4,(fun ad e=>by cases e;rfl),(fun e=>by cases e),fun v hv=>?_⟩
     ·cases w2 with
      |slS hG hb hn hc hm hr hl hh=>omega
     ·rcases hv with⟨e,_⟩|⟨ad,e,rfl⟩
      ·cases e
      ·cases e;have w2':=w2.free (by simp[zaC]);obtain⟨_,_,_,e3⟩:=w2'.cut (lo:=lo+l) (hi:=lo+h.getD (hi-lo)) (by omega) (by omega);have e1:lo+h.getD (hi-lo)-(lo+l)=h.getD (hi-lo)-l:=by omega
       have e2:cc-(lo+l)=cc-lo-l:=by omega
       rw[e1,e2,Nat.add_mul,←Nat.add_assoc]at e3;exact .inr ⟨_,rfl,e3⟩
   ·cases hs
  ·cases hs
 |_=>rw[hpt]at hs;simp[slF]at hs
theorem zkq{x:Option Operand}{b:Option Nat}{vs:Option Value}{dflt:Nat}(h:(x=none∧b=none)∨∃op q n,x=some op∧rdv fr op=some (.int q n)∧0≤n∧b=some n.toNat)
(hv:vs=x.bind (rdv fr)):bnd dflt vs=some (b.getD dflt)∧zmB vs=some b∧(vs.isSome=b.isSome):=by
 rcases h with⟨rfl,rfl⟩|⟨op,q,n,rfl,h1,h2,rfl⟩
 ·subst hv;exact⟨rfl,rfl,rfl⟩
 ·simp only[Option.bind_some,h1]at hv;subst hv;exact⟨by simp[bnd,h2],by simp[zmB,h2],rfl⟩
theorem zno{ty:TypeId}{a:Option Addr}{n cc es:Nat}{l h:Option Value}{m:Option Value}{lo hi:Nat}{mo:Option Nat}(he:esz P ty=some es)(ha:∀ad,a=some ad→ad=⟨ad.block,ad.off,some es⟩)(ha0:a=none→n=0∧cc=0)
(hb:zcW l h m n cc=some (lo,hi,mo)):
 ze6 P ty (.slice a n cc) l h m=(match a with
  |none=>some (.slice none 0 0)
  |some ad=>match mo with
   |none=>some (.slice (some ⟨ad.block,ad.off+lo*es,some es⟩) (hi-lo) (cc-lo))
   |some mx=>if mx-lo=0 then some (.slice none 0 0)else some (.slice (some ⟨ad.block,ad.off+lo*es,some es⟩) (hi-lo) (mx-lo))):=by
 obtain⟨e,g,rr,h1,h2⟩:=znN he;cases a with
 |none=>
  obtain⟨rfl,rfl⟩:=ha0 rfl;simp[ze6,h1,h2,hb]
 |some ad=>
  have:=ha ad rfl;obtain⟨b,o,sp⟩:=ad;simp only at this;cases this;simp only[ze6,h1,h2,hb,ne_eq,not_true_eq_false,if_false];cases mo<;>rfl
theorem zsz(r:RelP c.nt pin E0 E pf fr)(hp:PinOK c pin){o:Oper}{ty:TypeId}{x:Operand}{l h m:Option Operand}{K:PFr→Prop}{K':FR→AH→Prop}(ho:o.op=.slice ty x l h m)(hh:zks P c ty x l h m o.dst K pf)
(hk:∀pf' fr' E',K pf'→RelP c.nt pin E0 E' pf' fr'→K' fr' E'.H):aop P c.nt o K' fr E.H:=by
 obtain⟨d,op,ty',ps,af,g⟩:=o;simp only at ho hh;subst ho;refine(show zaB P c.nt ⟨d,.slice ty x l h m,ty',ps,af,g⟩ K' fr E.H from ?_);unfold zks at hh;split at hh
 ·rename_i t es hes
  have run:∀{lb hb:Option Nat}{mb:Option Nat}{v w:Value},rdB pf l=some lb→rdB pf h=some hb→rdB pf m=some mb→fr t=.v v→
   (ze6 P ty v (l.bind (rdv fr)) (h.bind (rdv fr)) (m.bind (rdv fr))=some w)→(m.isSome=true→h.isSome=true)→
   zar c.nt K' d (.v w) fr E.H→zaB P c.nt ⟨d,.slice ty (.tmp t) l h m,ty',ps,af,g⟩ K' fr E.H:=by
   intro lb hb mb v w h1 h2 h3 hv hw hmh hput;have q1:=zel r h1;have q2:=zel r h2;have q3:=zel r h3;simp only[zaB,zaJ];have hmat:∀op u,rdv fr op=some u→mat fr E.H op=some (u,fr,E.H):=fun op u hu=>zjd hu
   rcases q1 with⟨rfl,rfl⟩|⟨o1,k1,n1,rfl,a1,a2,rfl⟩<;>rcases q2 with⟨rfl,rfl⟩|⟨o2,k2,n2,rfl,b1,b2,rfl⟩<;>rcases q3 with⟨rfl,rfl⟩|⟨o3,k3,n3,rfl,c1,c2,rfl⟩<;>
    simp_all [zaG,mat,zaP]
  unfold zpk at hh;split at hh
  ·rename_i lb hb h1 h2 h3;split at hh
   ·rename_i y hy;obtain⟨a,n,cc,g1,g2,g3,g4,g5,g6,g7⟩:=zqj r hy;have e1:=zkq (dflt:=0) (zel r h1) rfl;have e2:=zkq (dflt:=n) (zel r h2) rfl;have e3:=zkq (dflt:=0) (zel r h3) rfl
    have hbn:zcW (l.bind (rdv fr)) (h.bind (rdv fr)) (m.bind (rdv fr)) n cc=some (lb.getD 0,hb.getD n,none):=by
     simp only[zcW,e1.1,e2.1,e3.2.1];rw[if_pos ⟨g3,by omega⟩]
    have hsv:=zno hes g5 g6 hbn;have hm:m=none:=by rcases zel r h3 with⟨q,_⟩|⟨_,_,_,_,_,_,q⟩;exact q;cases q
    cases a with
    |none=>
     refine run h1 h2 h3 g1 hsv (by simp[hm]) ?_;rcases g7 _ (.inl ⟨rfl,rfl⟩)with⟨s,q1,q2,q3⟩|⟨x,rfl,q1⟩
     ·exact zb1 r hp q1 q2 q3 hh hk
     ·exact za6 r hp q1.up hh hk
    |some ad=>
     refine run h1 h2 h3 g1 hsv (by simp[hm]) ?_;rcases g7 _ (.inr ⟨ad,rfl,rfl⟩)with⟨s,q1,q2,q3⟩|⟨x,rfl,q1⟩
     ·exact zb1 r hp q1 q2 q3 hh hk
     ·exact za6 r hp q1.up hh hk
   ·cases hh
  ·rename_i lb hb mb h1 h2 h3;split at hh
   ·rename_i rows hrows;obtain⟨⟨k1,k2,k3⟩,⟨y,hy⟩,hput⟩:=hh;obtain⟨a,n,cc,g1,g2,g3,g4,g5,g6,g7⟩:=zqj r hy;obtain⟨a',cc',w1,w2⟩:=znw r hrows;rw[g1]at w1;simp only[FV.v.injEq,Value.slice.injEq]at w1;obtain⟨rfl,rfl,rfl⟩:=w1;have e1:=zkq (dflt:=0) (zel r h1) rfl;have e2:=zkq (dflt:=rows.length) (zel r h2) rfl;have e3:=zkq (dflt:=0) (zel r h3) rfl
    have hbn:zcW (l.bind (rdv fr)) (h.bind (rdv fr)) (m.bind (rdv fr)) rows.length cc=some (lb.getD 0,hb,some mb):=by
     simp only[zcW,e1.1,e2.1,e3.2.1,Option.getD_some];rw[if_pos ⟨by omega,by omega,by omega,by rw[e2.2.2];rfl⟩]
    have hsv:=zno hes g5 g6 hbn;have hm:h.isSome=true:=by rcases zel r h2 with⟨_,q⟩|⟨_,_,_,q,_⟩;cases q;rw[q];rfl
    have hval:zar c.nt K' d (.v (.slice none 0 0)) fr E.H:=za6 r hp (.sl0 true es) hput hk;cases a with
    |none=>exact run h1 h2 h3 g1 hsv (fun _=>hm) hval
    |some ad=>
     simp only at hsv;rw[if_pos (by omega)]at hsv;exact run h1 h2 h3 g1 hsv (fun _=>hm) hval
   ·cases hh
  ·cases hh
 ·cases hh
end
end Go.Pm
