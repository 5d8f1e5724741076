import Derived.Test.YtnojafnlicbhpaaGreatPmH
namespace Go.Pm
set_option linter.defProp false
open Bool renaming false→aa,true→Z
open Option renaming none→ae,some→J
def aR:=@Option.bind_some
def Ox:=@List.drop_eq_getElem_cons
def Oy:=@List.getElem?_of_mem
set_option linter.unusedVariables false
set_option linter.unusedSimpArgs false
open Go.Am
def zc:List Nat->List Value->List PV
 |_,[]=>[]
 |[],v::vs=>na 0 v::zc [] vs
 |e::es,v::vs=>na e v::zc es vs
def RH(P:Program):Nat->TypeId->List Nat
 |0,_=>[]
 |n+1,t=>match P.underlying t with
  |some (.struct jO)=>jO.toList.flatMap λf=>RH P n f.type
  |some (.array k e)=>(List.replicate k (RH P n e)).flatten
  |some (.slice e)=>[match cA P e with|some z=>z.2.1|none=>0]
  |_=>[0]
def zz(P:Program)(t:TypeId)(z:List Value):List PV:=zc (RH P 8 t) z
def tk(P:Program)(t:TypeId):Option (Bool×Nat):=(cA P t).map λz=>(z.1,z.2.1)
def dz:PV->PV
 | .sl _ e []=>.sl aa e []
 |x=>x
def ud:PV->PV
 | .sl _ e []=>.sl Z e []
 |x=>x
def sw(c:aY):Option Tmp->Bool
 |some d=>c.fz.contains (d+c.nt)
 |none=>aa
def uz(b:Bool)(z:List PV):List PV:=if b=Z then z.map ud else z
def zr(P:Program)(t:TypeId):Option (List PV):=(cA P t).bind λz=>if z.2.2.2.all cq=Z then J (zz P t z.2.2.2)else ae
def kV(P:Program)(t:TypeId):Option Nat:=(cS P t).bind λe=>(cA P e).map λz=>z.2.1
def cR(P:Program)(t:TypeId):Nat:=(kV P t).getD 0
def MK:PF->Option PF
 | .as Z s p i j _=>J (.rf s (p++[(i,j)]))
 |_=>ae
def HQ(P:Program)(t:TypeId)(pf:ah):Operand->Option PF
 | .tmp u=>(tk P t).bind λtz=>if tz.1=aa then MK (pf u)else ae
 |_=>ae
def LI(P:Program)(t:TypeId)(u:Nat)(pf:ah):PF->Option Value->Option (PF×ah)
 | .as aa s p i j n,J (.int _ q)=>if kV P t=J 1/\0<=q/\q<n then J (.as Z s p i (j+q.toNat) 1,pf.put u jP)else ae
 |_,_=>ae
def FO(P:Program)(t:TypeId)(x i:Operand)(pf:ah):Option (PF×ah):=
 match x with
 | .tmp u=>LI P t u pf (pf u) (cr pf i)
 |_=>ae
def y6(c:aY)(d:Nat):Bool:=c.fz.contains (d+2*c.nt)
def Cg:PF->Option (Nat×aA)
 | .rf s p=>J (s,p)
 |_=>ae
def Fl(t:Nat):PF->Option PF
 | .bl _=>J (.pt t [] 0 0)
 | .rf s p=>J (.rf s p)
 | .cl s g us=>J (.cl s g us)
 |_=>ae
def Ba(c:aY)(pf:ah):Option Tmp->Operand->Option PF
 |some d,.tmp t=>if y6 c d=Z then Fl t (pf t)else ae
 |_,_=>ae
def R7(c:aY):Option Tmp->Bool
 |some d=>c.fz.contains (d+6*c.nt)
 |none=>aa
def zj(c:aY)(d:Option Tmp)(pf:ah):PF->Option (PF×ah)
 | .rf s p=>if R7 c d=Z then(cb pf s p).bind λx=>if dr x=Z then ae else(iy pf s p .au).map λpf'=>(.v x,pf')else J (.rf s p,pf)
 |y=>J (y,pf)
def Dh(c:aY)(K:ah->Prop)(d:Option Tmp)(y:PF)(pf:ah):Prop:=
 match zj c d pf y with
 |some z=>dF c K d z.1 z.2
 |none=>False
def EN(P:Program)(c:aY)(t:TypeId)(a:Operand)(d:Option Tmp)(K:ah->Prop)(pf:ah):Prop:=
 match(tk P t).bind λtz=>(mR pf a).bind (Co tz pf)with
 |some y=>Dh c K d y pf
 |none=>match HQ P t pf a with
  |some y=>dF c K d y pf
  |none=>False
def qs:PV->Bool
 | .agg _| .bO _| .au=>aa
 |_=>Z
def EH(sz:Nat)(x:PV):Bool:=jQ x&&decide ((cO x).length=sz)&&decide (sz≠0)&&(cO x).all qs
def FJ(K:ah->Prop)(y:PV)(pf:ah):Option AD->Prop
 |some (.pl s p i j)=>match ml pf s p i j (cO y)with
  |some pf'=>K pf'
  |none=>False
 |_=>False
def Ev(P:Program)(c:aY)(t:TypeId)(a x:Operand)(d:Option Tmp)(K:ah->Prop)(pf:ah):Prop:=
 match tk P t,ep (cR P t) pf x with
 |some (_,sz),J (y,aQ)=>EH sz y=Z/\d=ae/\FJ K y aQ (mR aQ a)
 |_,_=>False
def F1(c:aY)(K:ah->Prop)(d:Option Tmp)(pf:ah):Option AD->Prop
 |some ad=>dF c K d (uI ad) pf
 |none=>False
def XV(P:Program)(c:aY)(s:TypeId)(x:Operand)(f:Nat)(d:Option Tmp)(K:ah->Prop)(pf:ah):Prop:=
 F1 c K d pf ((du P s f).bind λo=>(mR pf x).bind (ya o.1))
def WY(c:aY)(x:Operand)(d:Option Tmp)(K:ah->Prop)(pf:ah):Prop:=F1 c K d pf (mR pf x)
inductive SB where
 |own (s:Nat) (p:aA) (lo n es:Nat)
 |fz (es:Nat) (rows:List (List PV))
def tB(s:Nat)(p:aA):PV->Option SB
 | .sl Z es rows=>J (.own s p 0 rows.length es)
 | .sl aa es rows=>J (.fz es rows)
 |_=>ae
def Il(s:Nat)(p:aA)(lo hi:Nat):PV->Option SB
 | .sl Z es rows=>if lo<=hi/\hi<=rows.length then J (.own s p lo (hi-lo) es)else ae
 | .sl aa es rows=>if lo<=hi/\hi<=rows.length then J (.fz es ((rows.take hi).drop lo))else ae
 |_=>ae
def s8(pf:ah)(t:Nat):PF->Option SB
 | .v x=>tB t [] x
 | .rf s p=>(cb pf s p).bind (tB s p)
 | .rv s p lo hi=>(cb pf s p).bind (Il s p lo hi)
 |_=>ae
def F7(pf:ah):Operand->Option SB
 | .tmp t=>s8 pf t (pf t)
 |_=>ae
def FB(eI:Nat)(j:Int):SB->Option AD
 | .own s p lo n es=>if es=eI/\0<=j/\j<n then J (.pl s p (lo+j.toNat) 0)else ae
 | .fz es rows=>if es=eI/\0<=j then(rows[j.toNat]?).map .fz else ae
def NB(eI:Nat)(j:Option Value)(x:SB):Option AD:=
 match j with
 |some (.int _ j)=>FB eI j x
 |_=>ae
def Kf(P:Program)(t:TypeId):Option (Nat×Nat):=(AF P t).bind λe=>(cA P e.2).map λz=>(e.1,z.2.1)
def M2(len es:Nat)(j:Option Value)(ad:AD):Option AD:=
 match j with
 |some (.int _ j)=>if 0<=j/\j<len then ya (j.toNat*es) ad else ae
 |_=>ae
def yP(P:Program)(t:TypeId)(x i:Operand)(pf:ah):Option AD:=
 match kV P t with
 |some es=>(F7 pf x).bind (NB es (cr pf i))
 |none=>match Kf P t with
  |some (len,es)=>(mR pf x).bind (M2 len es (cr pf i))
  |none=>ae
def EY(P:Program)(c:aY)(t:TypeId)(x i:Operand)(d:Option Tmp)(K:ah->Prop)(pf:ah):Prop:=
 match yP P t x i pf with
 |some ad=>dF c K d (uI ad) pf
 |none=>match FO P t x i pf with
  |some y=>dF c K d y.1 y.2
  |none=>False
def Fo(P:Program)(c:aY)(e:TypeId)(d:Option Tmp)(K:ah->Prop)(pf:ah):Prop:=
 match zr P e,d with
 |some z,J d=>gG c d .skip=Z/\if c.hp.contains d=Z then K (pf.put d (.v (.bx z)))else K (pf.put d (.bl z))
 |_,_=>False
def qX:PF->Bool
 | .ls .. =>Z
 |_=>aa
def uY(pf:ah):Operand->Bool
 | .tmp t=>qX (pf t)
 |_=>aa
def DQ(P:Program)(c:aY)(e:TypeId)(x:Operand)(d:Option Tmp)(K:ah->Prop)(pf:ah):Prop:=
 match tk P e,ep (cR P e) pf x,d with
 |some _,J (y,aQ),J d=>uY pf x=aa/\jQ y=Z/\gG c d .skip=Z/\if c.hp.contains d=Z then(if c.fz.contains d=Z then K ((aQ.put d (.v (.bx (cO y)))).put d (.v (drop (.bx (cO y)))))else K (aQ.put d (.v (.bx (cO y)))))else K (aQ.put d (.bl (cO y)))
 |_,_,_=>False
def AW(c:aY):Option Tmp->Bool
 |some d=> !c.hp.isEmpty&&c.fz.contains (d+5*c.nt)
 |none=>aa
def B2(pf:ah)(t s:Nat):aA->Nat->Nat->PF->Option (PF×ah)
 |[],0,0,.bl row=>J (.rf s [],((pf.bU s (.v (.bx row))).kill s 0).put t (.rf s []))
 |_,_,_,_=>ae
def sW(c:aY)(t:Nat)(d:Option Tmp)(K:ah->Prop)(pf:ah):PF->Prop
 | .v x=>dr x=aa/\if bK x=Z then dF c K d (.rf t []) pf else dF c K d (.v x) pf
 | .ls es rows=>t<c.nt/\dF c K d (.rf t []) ((pf.bU t (.v (.sl Z es rows))).kill t 0)
 | .bl _=>dF c K d (.pt t [] 0 0) pf
 | .skip=>False
 | .as .. =>False
 | .pt s p i j=>if AW c d=Z then match B2 pf t s p i j (pf s)with
  |some y=>dF c K d y.1 y.2
  |none=>False
  else dF c K d (.pt s p i j) pf
 |y=>dF c K d y pf
def tn(e:Nat)(c:aY)(x:Operand)(d:Option Tmp)(K:ah->Prop)(pf:ah):Prop:=
 match x with
 | .tmp t=>sW c t d K pf (pf t)
 |x=>match ep e pf x with
  |some (y,aQ)=>dF c K d (.v y) aQ
  |none=>False
def FZ(e:Nat)(c:aY)(x:Operand)(d:Option Tmp)(K:ah->Prop)(pf:ah):Prop:=
 match Ba c pf d x with
 |some y=>dF c K d y pf
 |none=>match ep e pf x with
  |some (y,aQ)=>dF c K d (.v y) aQ
  |none=>False
section
variable {nt:Nat}{pin:List (Nat×Value)}{E0 E E':Env}{pf:ah}{fr ai:FR}{c:aY}{P:Program}
variable{K:ah->Prop}{K':FR->AH->Prop}{a x:Operand}{d:Option Tmp}{fv:FV}{o:Oper}{p:aA}{s:Nat}{t:TypeId}
def Dk{x:Bool×Nat}(h:tk P t=J x):∃r,cA P t=J (x.1,x.2,r):=by
 simp only[tk,bN]at h;obtain⟨⟨a,b,cc⟩,h1,rfl⟩:=h;exact⟨cc,h1⟩
def zA9{x:List PV}(h:zr P t=J x):∃g s b z,cA P t=J (g,s,b,z)/\z.all cq=Z/\x=zz P t z:=by
 simp only[zr,bR]at h;obtain⟨⟨a,b,cc,z⟩,h1,h2⟩:=h;split at h2
 ·rename_i hz;simp only[aT]at h2;exact⟨a,b,cc,z,h1,hz,h2.symm⟩
 ·cases h2
def Dp:∀{n:Nat}{cs:List Value},n<=cs.length->tj n cs=J (cs.take n):=by
 intro n;induction n with
 |zero=>intro cs _;simp[tj]
 |succ n ih=>
  intro cs h;cases cs with
  |nil=>simp at h
  |cons c cs=>simp[tj,ih (by simpa using h)]
def vd(fr:FR)(H:AH):FV->Option (List Value)
 | .lp s o=>match fr s with
  | .loc cells=>J (cells.drop o)
  |_=>ae
 | .v (.pointer (J ⟨id,off,ae⟩))=>H.load id off
 |_=>ae
def Vn{H:AH}(h:bM fr a=J fv):mH fr H a=vd fr H fv:=by
 unfold mH vd;rw[h];cases fv with
 |v x=>
  cases x with
  |pointer p=>
   cases p with
   |none=>rfl
   |some a=>obtain⟨b,o,sp⟩:=a;cases sp<;>rfl
  |_=>rfl
 |_=>rfl
def zzp(r:aq nt pin E0 E pf fr){i j:Nat}{row:List PV}(h:Hp E fr s p i j fv)(hr:Hg pf s p i=J row):
 ∃cs,vd fr E.H fv=J cs/\∀q,j+q<row.length->∃y,cs[q]? =J y/\Wk E fr s (p++[(i,j+q)]) y:=by
 obtain⟨z,hz,d8⟩:=bR.1 hr;rcases h with⟨cells,h1,rfl,rfl,rfl⟩|⟨v0,id,o,hw,hd,rfl⟩
 ·have hlen:row.length=cells.length:=by
   have hf:=r.f s;simp only[cb,bR]at hz;obtain⟨x0,g1,g2⟩:=hz;simp only[iF,aT]at g2;subst g2;cases fy:pf s with
   |bl tQ=>
    rw[fy]at hf g1;obtain⟨dx,c1,c2,_⟩:=hf;rw[h1]at c1;cases c1;simp only[fD,aT]at g1;subst g1;simp only[lv,eP,aT]at d8;subst d8;exact c2
   |v y=>
    rw[fy]at hf g1;simp only[fD,aT]at g1;subst g1;obtain⟨w,e,_⟩:=gi hf (by rintro rfl;simp[lv]at d8);rw[h1]at e;cases e
   |_=>rw[fy]at g1;simp[fD]at g1
  refine⟨cells.drop j,by simp[vd,h1],λq hq=>?_⟩;have hlt:j+q<cells.length:=by omega
  refine⟨cells[j+q],?_,.inr ⟨cells,j+q,[],_,h1,rfl,cE hlt,rfl⟩⟩;rw[jd,cE hlt]
 ·obtain⟨v',w1,w2⟩:=r.at hz (by rintro rfl;simp[lv]at d8) (iP r hw hz);have:=w1.same hw;subst this;cases w2 with
  | @fu _ C2 off es n cc k rows how hG hb bc hn hc hm hrr hl hh=>
   cases hd with
   |sl I5 ID hi=>
   simp only[lv]at d8;have hes:=hrr row (eo d8);refine⟨k.cells.drop (off+i*es+j),by simp[vd,AH.load,hb],λq hq=>?_⟩;have h5:(i+1)*es<=cc*es:=gA _ (by omega);rw[jZ]at h5;have hlt:off+i*es+j+q<k.cells.length:=by omega
   refine⟨k.cells[off+i*es+j+q],by rw[jd,cE hlt],hw.snoc ⟨_,off+i*es,k,_,.sl (j:=j) how hG hi,?_,hb,by rw[<-iN];exact cE hlt,rfl⟩⟩;rintro bw ⟨_,_,_,e⟩;cases e;omega
  | @bx _ C2 k tQ how hG hb bc hl hh=>
   cases hd with
   |bx I5 ID=>
   simp only[lv,eP,aT]at d8;subst d8;refine⟨k.cells.drop (0+j),by simp[vd,AH.load,hb],λq hq=>?_⟩;have hlt:j+q<k.cells.length:=by omega
   refine⟨k.cells[j+q],by rw[jd,gk,cE hlt],hw.snoc ⟨_,0,k,_,.bx how hG,?_,hb,by rw[gk];exact cE hlt,rfl⟩⟩;rintro bw ⟨_,_,_,e⟩;cases e
  |sl0 ob es=>cases hd
  |_=>simp[lv]at d8
def Pg(r:aq nt pin E0 E pf fr){i q:Nat}{row:List PV}{x:PV}{y:Value}(hr:Hg pf s p i=J row)(hx:row[q]? =J x)(hw:Wk E fr s (p++[(i,q)]) y):PR E (J (s,p++[(i,q)])) x y:=by
 by_cases hj:x=.au
 ·subst hj;exact .au y
 ·obtain⟨v',w1,w2⟩:=r.at (s:=s) (p:=p++[(i,q)]) (by rw[Qf hr];exact hx) hj (.inl KR);rw[w1.same hw]at w2;exact w2
def Ia{y:PF}(hy:∀s p,y≠.rf s p)(h:Dh c K d y pf):dF c K d y pf:=by
 cases y with
 |rf s p=>exact absurd rfl (hy s p)
 |_=>exact h
def zuL(r:aq c.nt pin E0 E pf fr)(hp:ew c pin)(h:EN P c t a d K pf)
(hk:∀pf' ai E',K pf'->aq c.nt pin E0 E' pf' ai->K' ai E'.H):match mV P t (mH fr E.H a)with|some v=>bB c.nt K' d (.v v) fr E.H|none=>False:=by
 unfold EN at h;split at h
 ·rename_i y hy;simp only[bR]at hy;obtain⟨tz,BR,ad,j4,gR⟩:=hy;obtain⟨fv,j9,d6⟩:=GR r j4;rw[Vn j9];obtain⟨dE,ht⟩:=Dk BR;obtain⟨g,sz⟩:=tz;simp only at ht;cases ad with
  |pl s p i j=>
   obtain⟨hs,aE⟩:=d6;simp only[Co,bR]at gR;obtain⟨row,d8,gR⟩:=gR;obtain⟨cs,dN,zd⟩:=zzp r aE d8;rw[dN];cases g with
   |true=>
    simp only[CQ]at gR;split at gR
    ·rename_i cU;simp only[aT]at gR
     have hlen:sz<=cs.length:=by
      rcases Ug sz with h0|h0
      ·omega
      ·obtain⟨y,h1,_⟩:=zd (sz-1) (by omega);have:=(cT.1 h1).1;omega
     simp only[mV,ht,Dp hlen,l9]
     have hq:∀(q:Nat) (y:Value),(cs.take sz)[q]? =J y->q<sz/\Wk E fr s (p++[(i,j+q)]) y:=by
      intro q y hq;rw[l6]at hq;split at hq
      ·rename_i hlt;obtain⟨y',h1,h2⟩:=zd q (by omega);rw[h1]at hq;cases hq;exact⟨hlt,h2⟩
      ·cases hq
     split at gR
     ·rename_i ho;subst gR;have eB:sz≠0:=by rintro rfl;simp at ho
      exact jz r hp (y:=.ra s p i j sz) rfl hs ⟨_,rfl,⟨by simp;omega,eB⟩,λq y h1=>(hq q y (by simpa using h1)).2⟩ (Ia (by intro s p e;cases e) h) hk
     ·rename_i ho;subst gR;refine gO r hp (PR.up (.agg (by simp;omega) λq x y h1 h2=>?_)) (Ia (by intro s p e;cases e) h) hk;have h2:=hq q y (by simpa using h2);rw[l6,aB h2.1,jd]at h1;refine(Pg r d8 h1 h2.2).free ?_
      have:=Kx.1 (by simpa using ho) x (by
       rw[List.mem_iff_getElem?]
       exact⟨q,by rw[l6,aB h2.1,jd];exact h1⟩)
      simpa using this
    ·cases gR
   |false=>
    simp only[CQ]at gR;split at gR
    ·rename_i x AaS yD;simp only[aT]at gR
     have hx:row[j]? =J x:=by
      have:(row.drop j)[0]? =J x:=by rw[yD];rfl
      rw[jd]at this;exact this
     obtain⟨y',h1,h2⟩:=zd 0 (by have:=(cT.1 hx).1;omega);rw[rb]at h2;cases cs with
     |nil=>simp at h1
     |cons c0 cs=>
      simp at h1;subst h1;simp only[mV,ht];split at gR
      ·subst gR;simp only[Dh,zj]at h;split at h
       ·rename_i z hz;split at hz
        ·simp only[bR]at hz;obtain⟨x0,dy,hz⟩:=hz;split at hz
         ·cases hz
         ·rename_i hj0;simp only[bN]at hz;obtain⟨pf',Q1,rfl⟩:=hz;have sM:=oN (x:=x0) (by simpa using hj0);obtain⟨v0,E1,w1,w2,w3,w4⟩:=r.Of (fl:=[]) (λk x v h=>by simp at h) hs dy sM (.inl (by simp)) Q1;have ev:=w1.same h2;subst ev;have:=gO w3 hp (w4 0 x0 v0 rfl) h hk;rw[w2]at this;exact this
        ·cases hz;exact jz r hp (y:=.rf s (p++[(i,j)])) rfl hs ⟨_,rfl,h2⟩ h hk
       ·cases h
      ·rename_i ho;subst gR;exact gO r hp ((Pg r d8 hx h2).free (by simpa using ho)).up (Ia (by intro s p e;cases e) h) hk
    ·cases gR
  |fz row=>
   obtain⟨v,rfl,hv⟩:=d6;cases hv with
   | @fp _ id off k _ hG hb hl hh=>
   simp only[Co]at gR;have dN:vd fr E.H (.v (.pointer (J ⟨id,off,ae⟩)))=J (k.cells.drop off):=by simp[vd,AH.load,hb]
   rw[dN];cases g with
   |true=>
    simp only[Fq]at gR;split at gR
    ·rename_i cU;simp only[aT]at gR;subst gR;have hlen:sz<=(k.cells.drop off).length:=by simp;omega
     simp only[mV,ht,Dp hlen,l9];refine gO r hp (PR.up (.agg (by simp;omega) λq x y h1 h2=>?_)) (Ia (by intro s p e;cases e) h) hk;have h2:((k.cells.drop off).take sz)[q]? =J y:=by simpa using h2
     rw[l6]at h1 h2;split at h1
     ·rename_i hlt;rw[aB hlt,jd]at h2;exact hh q x y h1 h2
     ·cases h1
    ·cases gR
   |false=>
    simp only[Fq]at gR;split at gR
    ·rename_i x AaS;simp only[aT]at gR;subst gR;have hlt:off<k.cells.length:=by simp at hl;omega
     rw[Ox hlt];simp only[mV,ht];exact gO r hp (PR.up (hh 0 x _ rfl (cE hlt))) (Ia (by intro s p e;cases e) h) hk
    ·cases gR
 ·split at h
  ·rename_i y hy;unfold HQ at hy;split at hy
   ·rename_i u _;simp only[bR]at hy;obtain⟨⟨g,sz⟩,BR,hy⟩:=hy;obtain⟨dE,ht⟩:=Dk BR;split at hy
    ·rename_i hg;simp only at hg ht;subst hg;have hf:=r.f u;unfold MK at hy;split at hy
     ·rename_i s p i j n Dn;simp only[aT]at hy;subst hy;rw[Dn]at hf;obtain⟨id,off,k,v,h1,hG,hb,hc,hw⟩:=hf;have hs:=r.rt u s (by rw[Dn];rfl);rw[Vn (fv:=.v (.pointer (J ⟨id,off,ae⟩))) (by simp[bM,h1])];have dN:vd fr E.H (.v (.pointer (J ⟨id,off,ae⟩)))=J (k.cells.drop off):=by simp[vd,AH.load,hb]
      rw[dN];obtain⟨hlt,rfl⟩:=cT.1 hc;rw[Ox hlt];simp only[mV,ht];exact jz r hp (y:=.rf s (p++[(i,j)])) rfl hs ⟨_,rfl,hw⟩ h hk
     ·cases hy
    ·cases hy
   ·cases hy
  ·cases h
def SD{l:Lo}{x:PV}{v:Value}(h:PR E l x v)(hx:qs x=Z):lU v=Z:=by
 cases h<;>first|rfl|cases hx
def zsv(r:aq c.nt pin E0 E pf fr)(ho:o.op=.store t a x)(h:Ev P c t a x o.dst K pf)
(hk:∀pf' ai E',K pf'->aq c.nt pin E0 E' pf' ai->K' ai E'.H):aM P c.nt o K' fr E.H:=by
 unfold Ev at h;split at h
 ·rename_i g sz y aQ BR jl;obtain⟨dE,ht⟩:=Dk BR;simp only at ht;obtain⟨h1,h2,h3⟩:=h;simp only[EH,bI,eC]at h1;obtain⟨⟨⟨k1,k2⟩,k3⟩,k4⟩:=h1;obtain⟨v,fr1,H1,E1,m1,e1,r1,f1⟩:=uD r (fl:=[]) (λk x v h=>by simp at h) jl;have hfl:PR E1 (J (c.nt,[(0,0)])) y v:=f1 0 y v rfl;obtain⟨c1,c2,c3⟩:=Cs (E':=E1.rl (iB (c.nt,[(0,0)]) (0,[]) 0 0 y)) (b:=(0,[])) (i:=0) (j:=0) hfl k1 dO λa b h=>lG h
  have zU:v.cells.toList.all lU=Z:=by
   rw[bm]at k4⊢;intro w hw;obtain⟨q,hq⟩:=Oy hw;have hlt:q<(cO y).length:=by have:=(cT.1 hq).1;omega
   exact SD (c2 q _ w (cE hlt) hq) (k4 _ (e9 hlt))
  have hne:cO y≠[]:=λe=>k3 (by rw[<-k2,e];rfl)
  unfold FJ at h3;split at h3
  ·rename_i s p i j j4;split at h3
   ·rename_i bW dq;obtain⟨fv,j9,hs,aE⟩:=GR r1 j4;obtain⟨dH,H2,E2,dJ,e2,r2⟩:=r1.storeAt hs hfl k1 hne aE dq;have hK:=hk bW dH E2 h3 r2;unfold aM;rw[ho];simp only[m1,ht];rw[aB ⟨c3,by rw[<-c1,k2],k3,zU⟩,j9,h2];rw[e2]at hK;rcases dJ with⟨s',off,cells,cs,rfl,g1,g2,rfl,rfl⟩|⟨id,off,k,cs,rfl,g1,g2,g3,rfl,rfl⟩
    ·simp only[g1,g2,bB];rw[e1]at hK;exact hK
    ·rw[e1]at g1 hK;simp only[g1,g2,eP,g3,bB];exact hK
   ·cases h3
  ·cases h3
 ·cases h
def zuU{x:Option AD}(h:F1 c K d pf x):∃ad,x=J ad/\dF c K d (uI ad) pf:=by
 cases x with
 |none=>cases h
 |some ad=>exact⟨ad,rfl,h⟩
def zt4(r:aq c.nt pin E0 E pf fr)(hp:ew c pin){s:TypeId}{f:Nat}(ho:o.op=.fieldAddr s x f)(h:XV P c s x f o.dst K pf)
(hk:∀pf' ai E',K pf'->aq c.nt pin E0 E' pf' ai->K' ai E'.H):aM P c.nt o K' fr E.H:=by
 obtain⟨Im,j4,dq⟩:=zuU h;simp only[bR]at j4;obtain⟨⟨off,sz⟩,hfo,ad,j4,Aa4⟩:=j4;obtain⟨fv,j9,d6⟩:=GR r j4;unfold aM;rw[ho];simp only[il,hfo,j9];rcases U3 d6 Aa4 with⟨t,of,rfl,h2⟩|⟨id,of,rfl,h2⟩
 ·exact Af r hp h2 dq hk
 ·exact Af r hp h2 dq hk
def zxy{ad:AD}(h:DX nt E fr fv ad):(∃s o,fv=.lp s o)\/∃a,fv=.v (.pointer (J a)):=by
 cases ad with
 |pl s p i j=>
  rcases h.2 with⟨cells,h1,h2,h3,rfl⟩|⟨v0,id,o,h1,h2,rfl⟩
  ·exact .inl ⟨_,_,rfl⟩
  ·exact .inr ⟨_,rfl⟩
 |fz row=>
  obtain⟨v,rfl,hv⟩:=h;obtain⟨id,off,rfl⟩:=X8 hv;exact .inr ⟨_,rfl⟩
def zws(r:aq c.nt pin E0 E pf fr)(hp:ew c pin)(ho:o.op=.nilCheck x)(h:WY c x o.dst K pf)
(hk:∀pf' ai E',K pf'->aq c.nt pin E0 E' pf' ai->K' ai E'.H):aM P c.nt o K' fr E.H:=by
 obtain⟨ad,j4,dq⟩:=zuU h;obtain⟨fv,j9,d6⟩:=GR r j4;unfold aM;rw[ho];simp only[il,j9];rcases zxy d6 with⟨s,of,rfl⟩|⟨a,rfl⟩
 ·exact Af r hp d6 dq hk
 ·exact Af r hp d6 dq hk
def Pk{es:Nat}(h:kV P t=J es):∃e g r,cS P t=J e/\cA P e=J (g,es,r):=by
 unfold kV at h;cases he:cS P t with
 |none=>rw[he]at h;cases h
 |some e=>
  rw[he]at h;simp only[aR]at h;cases hz:cA P e with
  |none=>rw[hz]at h;cases h
  |some z=>
   rw[hz]at h;obtain⟨g,bw,r⟩:=z;simp only[l9,aT]at h;subst h;exact⟨e,g,r,rfl,hz⟩
def zzA{len es:Nat}(h:Kf P t=J (len,es)):∃e g r,AF P t=J (len,e)/\cA P e=J (g,es,r):=by
 unfold Kf at h;cases he:AF P t with
 |none=>rw[he]at h;cases h
 |some e=>
  obtain⟨n,e⟩:=e;rw[he]at h;simp only[aR]at h;cases hz:cA P e with
  |none=>rw[hz]at h;cases h
  |some z=>
   rw[hz]at h;obtain⟨g,bw,r⟩:=z;simp only[l9,aT,b9]at h;obtain⟨rfl,rfl⟩:=h;exact⟨e,g,r,rfl,hz⟩
def ZZ(nt:Nat)(E:Env)(fr:FR)(v:Value):SB->Prop
 | .own s p lo n es=>s<nt/\((n=0)\/∃id off m cc cw,Wk E fr s p (.slice (J ⟨id,off,J es⟩) m cc)/\E.ow id=J (s,p)/\¬E.G id/\lo+n<=m/\v=.slice (J ⟨id,off+lo*es,J es⟩) n cw)
 | .fz es rows=>PR E ae (.sl aa es rows) v
def Yf{x:PV}{v:Value}{sb:SB}(hs:s<nt)(h:tB s p x=J sb)(hw:Wk E fr s p v)(hx:PR E (J (s,p)) x v):ZZ nt E fr v sb:=by
 unfold tB at h;split at h
 ·rename_i es rows;simp only[aT]at h;subst h;refine⟨hs,?_⟩;cases hx with
  |sl0 _ _=>exact .inl rfl
  | @fu _ id off es n cc k rows how hG hb bc hn hc hm hr hl hh=>exact .inr ⟨id,off,n,cc,cc,hw,how,hG,by omega,by rw[hn];simp⟩
 ·simp only[aT]at h;subst h;exact hx.free (by simp[bK])
 ·cases h
def zxa(r:aq nt pin E0 E pf fr){sb:SB}(h:F7 pf x=J sb):∃v,bM fr x=J (.v v)/\ZZ nt E fr v sb:=by
 cases x with
 |tmp t=>
  simp only[F7]at h;have hf:=r.f t
  have ht:t<nt:=by
   rcases dK t nt with h1|h1
   ·exact h1
   ·rw[r.hi t h1]at h;simp[s8,jP,tB]at h
  cases aE:pf t with
  |v x=>
   rw[aE]at h hf;simp only[s8]at h;obtain⟨v,h1,h2⟩:=gi hf (by rintro rfl;simp[tB]at h);exact⟨v,by simp[bM,h1],Yf ht h (.inl ⟨v,h1,rfl⟩) h2⟩
  |rf s p=>
   rw[aE]at h hf;simp only[s8,bR]at h;obtain⟨x,hx,h⟩:=h;obtain⟨v,h1,h2⟩:=hf;obtain⟨v',w1,w2⟩:=r.at hx (by rintro rfl;simp[tB]at h) (iP r h2 hx);have:=w1.same h2;subst this;exact⟨v',by simp[bM,h1],Yf (r.rt t s (by rw[aE];rfl)) h h2 w2⟩
  |rv s p lo hi=>
   rw[aE]at h hf;simp only[s8,bR]at h;obtain⟨x,hx,h⟩:=h;have hs:=r.rt t s (by rw[aE];rfl);unfold Il at h;split at h
   ·rename_i es rows;split at h
    ·rename_i hb;simp only[aT]at h;subst h;rcases hf with⟨h1,h2,rfl,rfl⟩|⟨id,off,bw,n,cc,h1,h2,h3,h4⟩
     ·exact⟨.slice ae 0 0,by simp[bM,h2],hs,.inl (by omega)⟩
     ·obtain⟨v',w1,w2⟩:=r.at hx (by simp) (iP r h1 hx);have:=w1.same h1;subst this;have ee:=zO w2;subst ee;refine⟨.slice (J ⟨id,off+lo*es,J es⟩) (hi-lo) (cc-lo),by simp[bM,h4],hs,?_⟩;cases w2 with
      |fu how hG hb bc hn hc hm hr hl hh=>exact .inr ⟨_,_,_,_,_,h1,how,hG,by omega,rfl⟩
    ·cases h
   ·rename_i es rows;split at h
    ·rename_i hb;simp only[aT]at h;subst h;rcases hf with⟨h1,h2,rfl,rfl⟩|⟨id,off,bw,n,cc,h1,h2,h3,h4⟩
     ·exact⟨.slice ae 0 0,by simp[bM,h2],by show PR E ae (.sl aa es _) _;simpa using PR.sl0 (E:=E) (l:=ae) aa es⟩
     ·obtain⟨v',w1,w2⟩:=r.at hx (by simp) (iP r h1 hx);have:=w1.same h1;subst this;have ee:=zO w2;subst ee;obtain⟨_,_,_,e3⟩:=w2.cut h2 h3;exact⟨.slice (J ⟨id,off+lo*es,J es⟩) (hi-lo) (cc-lo),by simp[bM,h4],e3.free (by simp[bK])⟩
    ·cases h
   ·cases h
  |_=>rw[aE]at h;simp[s8]at h
 |_=>simp[F7]at h
def aq.AaT(r:aq nt pin E0 E pf fr){u n:Nat}{cs:List Value}(hu:u<nt)(hf:fr u=.ls n 1 cs):
 ∃E',aq nt pin E0 E' (pf.put u jP) (fr.put u (.v (.slice (J ⟨E.H.n,0,J 1⟩) n n)))/\E'.H=E.H.push ⟨Z,cs⟩/\E'.G E.H.n/\∀s,s<nt->s≠u->dt E E' (J (s,[])) (J (s,[])):=by
 have ok:=r.ok;have jN:∀v,(u,v)∉pin:=λv hv=>by have:=r.pin u v hv;rw[hf]at this;cases this
 let E1:=E.push ⟨Z,cs⟩ (u,[]) λ_=>ae
 have r1:aq nt pin E0 E1 (pf.put u jP) (fr.put u (.v (.slice (J ⟨E.H.n,0,J 1⟩) n n))):=
  r.set hu jN ok.mP (λs _ _=>ok.m9 λ_=>rfl) ok.uX ok.push.wf ok.push.fresh yg λs hs=>by simp[jP,bC]at hs
 have r2:=r1.set (fv:=.v (.slice (J ⟨E.H.n,0,J 1⟩) n n)) (y:=jP) hu jN (pU (a:=(u,[]))) (λs _ hs=>Az hs) Fi ok.push.fz.wf ok.push.fz.fresh yg λs hs=>by simp[jP,bC]at hs
 have e1:(fr.put u (.v (.slice (J ⟨E.H.n,0,J 1⟩) n n))).put u (.v (.slice (J ⟨E.H.n,0,J 1⟩) n n))=fr.put u (.v (.slice (J ⟨E.H.n,0,J 1⟩) n n)):=by
  funext t;simp only[FR.put];split<;>rfl
 have e2:(pf.put u jP).put u jP=pf.put u jP:=by
  funext t;simp only[ah.put];split
  ·rfl
  ·by_cases h2:bC (pf t)=J u
   ·rw[show fA u (pf t)=jP from aB h2];simp[fA,jP,bC]
   ·rw[show fA u (pf t)=pf t from az h2,show fA u (pf t)=pf t from az h2]
 rw[e1,e2]at r2;refine⟨_,r2,rfl,.inr ⟨[],by simpa using zhy⟩,λs hs Oo id q h1 h2=>?_⟩;obtain⟨a1,a2,a3⟩:=(ok.m9 (bl:=⟨Z,cs⟩) (n:=(u,[])) (f:=λ_=>ae) (a:=(s,[])) λ_=>rfl:dt E E1 (J (s,[])) (J (s,[]))) id q h1 h2;obtain⟨b1,b2,b3⟩:=(Az (E:=E1) (a:=(u,[])) (c:=(s,[])) Oo) id q a1 a2;exact⟨b1,b2,b3.trans a3⟩
def zwa(r:aq c.nt pin E0 E pf fr)(hp:ew c pin){i:Operand}{y:PF×ah}(ho:o.op=.indexAddr t x i)(hy:FO P t x i pf=J y)(h:dF c K o.dst y.1 y.2)
(hk:∀pf' ai E',K pf'->aq c.nt pin E0 E' pf' ai->K' ai E'.H):aM P c.nt o K' fr E.H:=by
 unfold FO at hy;split at hy
 ·rename_i u;unfold LI at hy;split at hy
  ·rename_i s p i' j n k q Dn hq;split at hy
   ·rename_i hc;obtain⟨hes,hq0,H9⟩:=hc;simp only[aT]at hy;subst hy;have hf:=r.f u;rw[Dn]at hf;obtain⟨vs,h1,h2,h3⟩:=hf
    have hu:u<c.nt:=by
     rcases dK u c.nt with h4|h4
     ·exact h4
     ·have:=r.hi u h4;rw[Dn]at this;cases this
    have hs:=r.rt u s (by rw[Dn];rfl);obtain⟨e,g,rr,he,hz⟩:=Pk hes;obtain⟨E',r',eH,hG,hm⟩:=r.AaT hu h1;have hlt:q.toNat<vs.length:=by omega
    have hw:=h3 q.toNat _ (cE hlt)
    have Oo:s≠u:=by
     rintro rfl;rcases hw with⟨w,g1,_⟩|⟨cc,_,_,_,g1,_⟩<;>rw[h1]at g1<;>cases g1
    have hw':Wk E' (fr.put u (.v (.slice (J ⟨E.H.n,0,J 1⟩) n n))) s (p++[(i',j+q.toNat)]) vs[q.toNat]:=
     hw.d5 (KL.Kn (hm s hs Oo)) (cy _) (by simp[FR.put,Oo])
    unfold aM;rw[ho];right;refine⟨u,n,1,vs,k,q,e,g,rr,rfl,h1,pX r hq,he,hz,⟨hq0,H9⟩,?_⟩;rw[<-eH];refine jz r' hp (y:=.as Z s p i' (j+q.toNat) 1) rfl hs ⟨E.H.n,q.toNat*1,⟨Z,vs⟩,vs[q.toNat],rfl,hG,by rw[eH];simp[AH.push],by simp[hlt],hw'⟩ h hk
   ·cases hy
  ·cases hy
 ·cases hy
def zsT(r:aq c.nt pin E0 E pf fr)(hp:ew c pin){i:Operand}(ho:o.op=.indexAddr t x i)(h:EY P c t x i o.dst K pf)
(hk:∀pf' ai E',K pf'->aq c.nt pin E0 E' pf' ai->K' ai E'.H):aM P c.nt o K' fr E.H:=by
 unfold EY at h;split at h
 case h_2=>
  split at h
  ·rename_i y hy;exact zwa r hp ho hy h hk
  ·cases h
 rename_i ad j4;have dq:=h;unfold yP at j4;split at j4
 ·rename_i eI hes;simp only[bR]at j4;obtain⟨sb,hsb,iV⟩:=j4;unfold NB at iV;split at iV
  ·rename_i q j hj;have wO:=pX r hj;obtain⟨v,j9,d6⟩:=zxa r hsb;obtain⟨e,g,rr,he,hz⟩:=Pk hes;unfold aM;rw[ho];left;cases sb with
   |own s p lo n es=>
    simp only[FB]at iV;split at iV
    ·rename_i hb;obtain⟨rfl,eG,fW⟩:=hb;simp only[aT]at iV;subst iV;obtain⟨hs,d6⟩:=d6;rcases d6 with d6|⟨id,off,m,cc,cw,w1,w2,w3,w4,rfl⟩
     ·omega
     ·simp only[il,j9,wO,he,hz];rw[aB ⟨trivial,eG,fW⟩];refine Af r hp (ad:=.pl s p (lo+j.toNat) 0) ⟨hs,.inr ⟨_,id,_,w1,.sl (j:=0) w2 w3 (by omega),?_⟩⟩ dq hk;rw[nS,rb,iN]
    ·cases iV
   |fz es rows=>
    simp only[FB]at iV;split at iV
    ·rename_i hb;obtain⟨rfl,eG⟩:=hb;simp only[bN]at iV;obtain⟨row,d8,rfl⟩:=iV;have hlt:j.toNat<rows.length:=(cT.1 d8).1;cases d6 with
     |sl0 _ _=>simp at hlt
     | @jM _ id off es n cc k rows hG hb hn hc hm hr hl hh=>
      simp only[il,j9,wO,he,hz];rw[aB ⟨trivial,eG,by omega⟩];refine Af r hp (ad:=.fz row) ⟨_,rfl,.fp hG hb ?_ λq x y g1 g2=>hh j.toNat row q x y d8 g1 g2⟩ dq hk;have dB:=hr row (eo d8);have h5:(j.toNat+1)*es<=n*es:=gA _ (by omega);rw[jZ]at h5;omega
    ·cases iV
  ·cases iV
 ·rename_i hes;split at j4
  ·rename_i len es ha;simp only[bR]at j4;obtain⟨ad,j4,iV⟩:=j4;unfold M2 at iV;split at iV
   ·rename_i q j hj;split at iV
    ·rename_i hb;have wO:=pX r hj;obtain⟨fv,j9,d6⟩:=GR r j4;obtain⟨e,g,rr,he,hz⟩:=zzA ha;unfold aM;rw[ho];left;rcases U3 d6 iV with⟨t',of,rfl,h2⟩|⟨id,of,rfl,h2⟩
     ·simp only[il,j9,wO,he,hz];rw[aB hb];exact Af r hp h2 dq hk
     ·simp only[il,j9,wO,he,hz];rw[aB hb];exact Af r hp h2 dq hk
    ·cases iV
   ·cases iV
  ·cases j4
end
end Go.Pm
