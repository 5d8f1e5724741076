import Derived.Test.YtnojafnlicbhpaaGreatPmH
open Bool renaming false→aa,true→Z
open Option renaming none→ae,some→J
set_option linter.defProp false
namespace Go.Pm
def aR:=@Option.bind_some
def OD:=@List.drop_eq_getElem_cons
def OE:=@List.getElem?_of_mem
set_option linter.unusedVariables false
set_option linter.unusedSimpArgs false
open Go.Am
def zc:List Nat->List Value->List PV
 |_,[]=>[]
 |[],v::vs=>nb 0 v::zc [] vs
 |e::es,v::vs=>nb e v::zc es vs
def SW(P:Program):Nat->TypeId->List Nat
 |0,_=>[]
 |n+1,t=>match P.underlying t with
  |some (.struct jX)=>jX.toList.flatMap λf=>SW P n f.type
  |some (.array k e)=>(List.replicate k (SW P n e)).flatten
  |some (.slice e)=>[match cA P e with|some z=>z.2.1|none=>0]
  |_=>[0]
def zz(P:Program)(t:TypeId)(z:List Value):List PV:=zc (SW P 8 t) z
def tk(P:Program)(t:TypeId):Option (Bool×Nat):=(cA P t).map λz=>(z.1,z.2.1)
def dz:PV->PV
 | .sl _ e []=>.sl aa e []
 |x=>x
def ud:PV->PV
 | .sl _ e []=>.sl Z e []
 |x=>x
def rQ(c:aY):Option Tmp->Bool
 |some d=>c.fz.contains (d+c.nt)
 |none=>aa
def uz(b:Bool)(z:List PV):List PV:=if b=Z then z.map ud else z
def zr(P:Program)(t:TypeId):Option (List PV):=(cA P t).bind λz=>if z.2.2.2.all ct=Z then J (zz P t z.2.2.2)else ae
def kV(P:Program)(t:TypeId):Option Nat:=(cS P t).bind λe=>(cA P e).map λz=>z.2.1
def cR(P:Program)(t:TypeId):Nat:=(kV P t).getD 0
def M5:PF->Option PF
 | .as Z s p i j _=>J (.rf s (p++[(i,j)]))
 |_=>ae
def IH(P:Program)(t:TypeId)(pf:ah):Operand->Option PF
 | .tmp u=>(tk P t).bind λtz=>if tz.1=aa then M5 (pf u)else ae
 |_=>ae
def K1(P:Program)(t:TypeId)(u:Nat)(pf:ah):PF->Option Value->Option (PF×ah)
 | .as aa s p i j n,J (.int _ q)=>if kV P t=J 1/\0<=q/\q<n then J (.as Z s p i (j+q.toNat) 1,pf.put u jP)else ae
 |_,_=>ae
def EJ(P:Program)(t:TypeId)(x i:Operand)(pf:ah):Option (PF×ah):=
 match x with
 | .tmp u=>K1 P t u pf (pf u) (cq pf i)
 |_=>ae
def yF(c:aY)(d:Nat):Bool:=c.fz.contains (d+2*c.nt)
def Ci:PF->Option (Nat×aA)
 | .rf s p=>J (s,p)
 |_=>ae
def Dl(t:Nat):PF->Option PF
 | .bl _=>J (.pt t [] 0 0)
 | .rf s p=>J (.rf s p)
 | .cl s g us=>J (.cl s g us)
 |_=>ae
def BO(c:aY)(pf:ah):Option Tmp->Operand->Option PF
 |some d,.tmp t=>if yF c d=Z then Dl t (pf t)else ae
 |_,_=>ae
def P3(c:aY):Option Tmp->Bool
 |some d=>c.fz.contains (d+6*c.nt)
 |none=>aa
def Ac(c:aY)(d:Option Tmp)(pf:ah):PF->Option (PF×ah)
 | .rf s p=>if P3 c d=Z then(cj pf s p).bind λx=>if dt x=Z then ae else(iw pf s p .au).map λpf'=>(.v x,pf')else J (.rf s p,pf)
 |y=>J (y,pf)
def EE(c:aY)(K:ah->Prop)(d:Option Tmp)(y:PF)(pf:ah):Prop:=
 match Ac c d pf y with
 |some z=>dC c K d z.1 z.2
 |none=>False
def DU(P:Program)(c:aY)(t:TypeId)(a:Operand)(d:Option Tmp)(K:ah->Prop)(pf:ah):Prop:=
 match(tk P t).bind λtz=>(mT pf a).bind (Cz tz pf)with
 |some y=>EE c K d y pf
 |none=>match IH P t pf a with
  |some y=>dC c K d y pf
  |none=>False
def ql:PV->Bool
 | .agg _| .bO _| .au=>aa
 |_=>Z
def DK(sz:Nat)(x:PV):Bool:=jS x&&decide ((cN x).length=sz)&&decide (sz≠0)&&(cN x).all ql
def El(K:ah->Prop)(y:PV)(pf:ah):Option AD->Prop
 |some (.pl s p i j)=>match mz pf s p i j (cN y)with
  |some pf'=>K pf'
  |none=>False
 |_=>False
def EK(P:Program)(c:aY)(t:TypeId)(a x:Operand)(d:Option Tmp)(K:ah->Prop)(pf:ah):Prop:=
 match tk P t,eu (cR P t) pf x with
 |some (_,sz),J (y,aQ)=>DK sz y=Z/\d=ae/\El K y aQ (mT aQ a)
 |_,_=>False
def Dm(c:aY)(K:ah->Prop)(d:Option Tmp)(pf:ah):Option AD->Prop
 |some ad=>dC c K d (uB ad) pf
 |none=>False
def Y8(P:Program)(c:aY)(s:TypeId)(x:Operand)(f:Nat)(d:Option Tmp)(K:ah->Prop)(pf:ah):Prop:=
 Dm c K d pf ((dv P s f).bind λo=>(mT pf x).bind (wM o.1))
def zCp(c:aY)(x:Operand)(d:Option Tmp)(K:ah->Prop)(pf:ah):Prop:=Dm c K d pf (mT pf x)
inductive SB where
 |own (s:Nat) (p:aA) (lo n es:Nat)
 |fz (es:Nat) (rows:List (List PV))
def tq(s:Nat)(p:aA):PV->Option SB
 | .sl Z es rows=>J (.own s p 0 rows.length es)
 | .sl aa es rows=>J (.fz es rows)
 |_=>ae
def H9(s:Nat)(p:aA)(lo hi:Nat):PV->Option SB
 | .sl Z es rows=>if lo<=hi/\hi<=rows.length then J (.own s p lo (hi-lo) es)else ae
 | .sl aa es rows=>if lo<=hi/\hi<=rows.length then J (.fz es ((rows.take hi).drop lo))else ae
 |_=>ae
def tG(pf:ah)(t:Nat):PF->Option SB
 | .v x=>tq t [] x
 | .rf s p=>(cj pf s p).bind (tq s p)
 | .rv s p lo hi=>(cj pf s p).bind (H9 s p lo hi)
 |_=>ae
def ER(pf:ah):Operand->Option SB
 | .tmp t=>tG pf t (pf t)
 |_=>ae
def Es(eL:Nat)(j:Int):SB->Option AD
 | .own s p lo n es=>if es=eL/\0<=j/\j<n then J (.pl s p (lo+j.toNat) 0)else ae
 | .fz es rows=>if es=eL/\0<=j then(rows[j.toNat]?).map .fz else ae
def LV(eL:Nat)(j:Option Value)(x:SB):Option AD:=
 match j with
 |some (.int _ j)=>Es eL j x
 |_=>ae
def JP(P:Program)(t:TypeId):Option (Nat×Nat):=(AL P t).bind λe=>(cA P e.2).map λz=>(e.1,z.2.1)
def Ly(len es:Nat)(j:Option Value)(ad:AD):Option AD:=
 match j with
 |some (.int _ j)=>if 0<=j/\j<len then wM (j.toNat*es) ad else ae
 |_=>ae
def zR(P:Program)(t:TypeId)(x i:Operand)(pf:ah):Option AD:=
 match kV P t with
 |some es=>(ER pf x).bind (LV es (cq pf i))
 |none=>match JP P t with
  |some (len,es)=>(mT pf x).bind (Ly len es (cq pf i))
  |none=>ae
def Dj(P:Program)(c:aY)(t:TypeId)(x i:Operand)(d:Option Tmp)(K:ah->Prop)(pf:ah):Prop:=
 match zR P t x i pf with
 |some ad=>dC c K d (uB ad) pf
 |none=>match EJ P t x i pf with
  |some y=>dC c K d y.1 y.2
  |none=>False
def D1(P:Program)(c:aY)(e:TypeId)(d:Option Tmp)(K:ah->Prop)(pf:ah):Prop:=
 match zr P e,d with
 |some z,J d=>gO c d .skip=Z/\if c.hp.contains d=Z then K (pf.put d (.v (.bx z)))else K (pf.put d (.bl z))
 |_,_=>False
def qh:PF->Bool
 | .ls .. =>Z
 |_=>aa
def vr(pf:ah):Operand->Bool
 | .tmp t=>qh (pf t)
 |_=>aa
def Gl(P:Program)(c:aY)(e:TypeId)(x:Operand)(d:Option Tmp)(K:ah->Prop)(pf:ah):Prop:=
 match tk P e,eu (cR P e) pf x,d with
 |some _,J (y,aQ),J d=>vr pf x=aa/\jS y=Z/\gO c d .skip=Z/\if c.hp.contains d=Z then(if c.fz.contains d=Z then K ((aQ.put d (.v (.bx (cN y)))).put d (.v (drop (.bx (cN y)))))else K (aQ.put d (.v (.bx (cN y)))))else K (aQ.put d (.bl (cN y)))
 |_,_,_=>False
def Ai(c:aY):Option Tmp->Bool
 |some d=> !c.hp.isEmpty&&c.fz.contains (d+5*c.nt)
 |none=>aa
def BF(pf:ah)(t s:Nat):aA->Nat->Nat->PF->Option (PF×ah)
 |[],0,0,.bl row=>J (.rf s [],((pf.bS s (.v (.bx row))).kill s 0).put t (.rf s []))
 |_,_,_,_=>ae
def tE(c:aY)(t:Nat)(d:Option Tmp)(K:ah->Prop)(pf:ah):PF->Prop
 | .v x=>dt x=aa/\if bK x=Z then dC c K d (.rf t []) pf else dC c K d (.v x) pf
 | .ls es rows=>t<c.nt/\dC c K d (.rf t []) ((pf.bS t (.v (.sl Z es rows))).kill t 0)
 | .bl _=>dC c K d (.pt t [] 0 0) pf
 | .skip=>False
 | .as .. =>False
 | .pt s p i j=>if Ai c d=Z then match BF pf t s p i j (pf s)with
  |some y=>dC c K d y.1 y.2
  |none=>False
  else dC c K d (.pt s p i j) pf
 |y=>dC c K d y pf
def tw(e:Nat)(c:aY)(x:Operand)(d:Option Tmp)(K:ah->Prop)(pf:ah):Prop:=
 match x with
 | .tmp t=>tE c t d K pf (pf t)
 |x=>match eu e pf x with
  |some (y,aQ)=>dC c K d (.v y) aQ
  |none=>False
def Eg(e:Nat)(c:aY)(x:Operand)(d:Option Tmp)(K:ah->Prop)(pf:ah):Prop:=
 match BO c pf d x with
 |some y=>dC c K d y pf
 |none=>match eu e pf x with
  |some (y,aQ)=>dC c K d (.v y) aQ
  |none=>False
section
variable {nt:Nat}{pin:List (Nat×Value)}{E0 E E':Env}{pf:ah}{fr ai:FR}{c:aY}{P:Program}
variable{K:ah->Prop}{K':FR->AH->Prop}{a x:Operand}{d:Option Tmp}{fv:FV}{o:Oper}{p:aA}{s:Nat}{t:TypeId}
def Gf{x:Bool×Nat}(h:tk P t=J x):∃r,cA P t=J (x.1,x.2,r):=by
 simp only[tk,bN]at h;obtain⟨⟨a,b,cc⟩,h1,rfl⟩:=h;exact⟨cc,h1⟩
def zBO{x:List PV}(h:zr P t=J x):∃g s b z,cA P t=J (g,s,b,z)/\z.all ct=Z/\x=zz P t z:=by
 simp only[zr,bR]at h;obtain⟨⟨a,b,cc,z⟩,h1,h2⟩:=h;split at h2
 ·rename_i hz;simp only[aT]at h2;exact⟨a,b,cc,z,h1,hz,h2.symm⟩
 ·cases h2
def Dw:∀{n:Nat}{cs:List Value},n<=cs.length->tC n cs=J (cs.take n):=by
 intro n;induction n with
 |zero=>intro cs _;simp[tC]
 |succ n ih=>
  intro cs h;cases cs with
  |nil=>simp at h
  |cons c cs=>simp[tC,ih (by simpa using h)]
def uQ(fr:FR)(H:AH):FV->Option (List Value)
 | .lp s o=>match fr s with
  | .loc cells=>J (cells.drop o)
  |_=>ae
 | .v (.pointer (J ⟨id,off,ae⟩))=>H.load id off
 |_=>ae
def Y1{H:AH}(h:bM fr a=J fv):ma fr H a=uQ fr H fv:=by
 unfold ma uQ;rw[h];cases fv with
 |v x=>
  cases x with
  |pointer p=>
   cases p with
   |none=>rfl
   |some a=>obtain⟨b,o,sp⟩:=a;cases sp<;>rfl
  |_=>rfl
 |_=>rfl
def zzp(r:aq nt pin E0 E pf fr){i j:Nat}{row:List PV}(h:I3 E fr s p i j fv)(hr:HD pf s p i=J row):
 ∃cs,uQ fr E.H fv=J cs/\∀q,j+q<row.length->∃y,cs[q]? =J y/\Wk E fr s (p++[(i,j+q)]) y:=by
 obtain⟨z,hz,ej⟩:=bR.1 hr;rcases h with⟨cells,h1,rfl,rfl,rfl⟩|⟨v0,id,o,hw,hd,rfl⟩
 ·have hlen:row.length=cells.length:=by
   have hf:=r.f s;simp only[cj,bR]at hz;obtain⟨x0,g1,g2⟩:=hz;simp only[iB,aT]at g2;subst g2;cases fH:pf s with
   |bl sS=>
    rw[fH]at hf g1;obtain⟨dw,c1,c2,_⟩:=hf;rw[h1]at c1;cases c1;simp only[fD,aT]at g1;subst g1;simp only[lF,eP,aT]at ej;subst ej;exact c2
   |v y=>
    rw[fH]at hf g1;simp only[fD,aT]at g1;subst g1;obtain⟨w,e,_⟩:=gi hf (by rintro rfl;simp[lF]at ej);rw[h1]at e;cases e
   |_=>rw[fH]at g1;simp[fD]at g1
  refine⟨cells.drop j,by simp[uQ,h1],λq hq=>?_⟩;have hlt:j+q<cells.length:=by omega
  refine⟨cells[j+q],?_,.inr ⟨cells,j+q,[],_,h1,rfl,cE hlt,rfl⟩⟩;rw[jd,cE hlt]
 ·obtain⟨v',w1,w2⟩:=r.at hz (by rintro rfl;simp[lF]at ej) (iQ r hw hz);have:=w1.same hw;subst this;cases w2 with
  | @fk _ Cy off es n cc k rows how hG hb bc hn hc hm hrr hl hh=>
   cases hd with
   |sl HS GN hi=>
   simp only[lF]at ej;have hes:=hrr row (eo ej);refine⟨k.cells.drop (off+i*es+j),by simp[uQ,AH.load,hb],λq hq=>?_⟩;have h5:(i+1)*es<=cc*es:=gA _ (by omega);rw[jZ]at h5;have hlt:off+i*es+j+q<k.cells.length:=by omega
   refine⟨k.cells[off+i*es+j+q],by rw[jd,cE hlt],hw.snoc ⟨_,off+i*es,k,_,.sl (j:=j) how hG hi,?_,hb,by rw[<-iN];exact cE hlt,rfl⟩⟩;rintro bw ⟨_,_,_,e⟩;cases e;omega
  | @bx _ Cy k sS how hG hb bc hl hh=>
   cases hd with
   |bx HS GN=>
   simp only[lF,eP,aT]at ej;subst ej;refine⟨k.cells.drop (0+j),by simp[uQ,AH.load,hb],λq hq=>?_⟩;have hlt:j+q<k.cells.length:=by omega
   refine⟨k.cells[j+q],by rw[jd,gk,cE hlt],hw.snoc ⟨_,0,k,_,.bx how hG,?_,hb,by rw[gk];exact cE hlt,rfl⟩⟩;rintro bw ⟨_,_,_,e⟩;cases e
  |sl0 ob es=>cases hd
  |_=>simp[lF]at ej
def T8(r:aq nt pin E0 E pf fr){i q:Nat}{row:List PV}{x:PV}{y:Value}(hr:HD pf s p i=J row)(hx:row[q]? =J x)(hw:Wk E fr s (p++[(i,q)]) y):PR E (J (s,p++[(i,q)])) x y:=by
 by_cases hj:x=.au
 ·subst hj;exact .au y
 ·obtain⟨v',w1,w2⟩:=r.at (s:=s) (p:=p++[(i,q)]) (by rw[S8 hr];exact hx) hj (.inl Lk);rw[w1.same hw]at w2;exact w2
def Ib{y:PF}(hy:∀s p,y≠.rf s p)(h:EE c K d y pf):dC c K d y pf:=by
 cases y with
 |rf s p=>exact absurd rfl (hy s p)
 |_=>exact h
def zug(r:aq c.nt pin E0 E pf fr)(hp:ep c pin)(h:DU P c t a d K pf)
(hk:∀pf' ai E',K pf'->aq c.nt pin E0 E' pf' ai->K' ai E'.H):match mX P t (ma fr E.H a)with|some v=>bB c.nt K' d (.v v) fr E.H|none=>False:=by
 unfold DU at h;split at h
 ·rename_i y hy;simp only[bR]at hy;obtain⟨tz,Cs,ad,ko,gP⟩:=hy;obtain⟨fv,j9,d6⟩:=HF r ko;rw[Y1 j9];obtain⟨dF,ht⟩:=Gf Cs;obtain⟨g,sz⟩:=tz;simp only at ht;cases ad with
  |pl s p i j=>
   obtain⟨hs,aE⟩:=d6;simp only[Cz,bR]at gP;obtain⟨row,ej,gP⟩:=gP;obtain⟨cs,dP,zX⟩:=zzp r aE ej;rw[dP];cases g with
   |true=>
    simp only[C6]at gP;split at gP
    ·rename_i cV;simp only[aT]at gP
     have hlen:sz<=cs.length:=by
      rcases Uj sz with h0|h0
      ·omega
      ·obtain⟨y,h1,_⟩:=zX (sz-1) (by omega);have:=(cT.1 h1).1;omega
     simp only[mX,ht,Dw hlen,l9]
     have hq:∀(q:Nat) (y:Value),(cs.take sz)[q]? =J y->q<sz/\Wk E fr s (p++[(i,j+q)]) y:=by
      intro q y hq;rw[l6]at hq;split at hq
      ·rename_i hlt;obtain⟨y',h1,h2⟩:=zX q (by omega);rw[h1]at hq;cases hq;exact⟨hlt,h2⟩
      ·cases hq
     split at gP
     ·rename_i ho;subst gP;have ey:sz≠0:=by rintro rfl;simp at ho
      exact jk r hp (y:=.ra s p i j sz) rfl hs ⟨_,rfl,⟨by simp;omega,ey⟩,λq y h1=>(hq q y (by simpa using h1)).2⟩ (Ib (by intro s p e;cases e) h) hk
     ·rename_i ho;subst gP;refine gC r hp (PR.up (.agg (by simp;omega) λq x y h1 h2=>?_)) (Ib (by intro s p e;cases e) h) hk;have h2:=hq q y (by simpa using h2);rw[l6,aB h2.1,jd]at h1;refine(T8 r ej h1 h2.2).free ?_
      have:=KA.1 (by simpa using ho) x (by
       rw[List.mem_iff_getElem?]
       exact⟨q,by rw[l6,aB h2.1,jd];exact h1⟩)
      simpa using this
    ·cases gP
   |false=>
    simp only[C6]at gP;split at gP
    ·rename_i x a01 zx;simp only[aT]at gP
     have hx:row[j]? =J x:=by
      have:(row.drop j)[0]? =J x:=by rw[zx];rfl
      rw[jd]at this;exact this
     obtain⟨y',h1,h2⟩:=zX 0 (by have:=(cT.1 hx).1;omega);rw[rc]at h2;cases cs with
     |nil=>simp at h1
     |cons c0 cs=>
      simp at h1;subst h1;simp only[mX,ht];split at gP
      ·subst gP;simp only[EE,Ac]at h;split at h
       ·rename_i z hz;split at hz
        ·simp only[bR]at hz;obtain⟨x0,dy,hz⟩:=hz;split at hz
         ·cases hz
         ·rename_i hj0;simp only[bN]at hz;obtain⟨pf',Tn,rfl⟩:=hz;have tL:=n5 (x:=x0) (by simpa using hj0);obtain⟨v0,E1,w1,w2,w3,w4⟩:=r.LJ (fl:=[]) (λk x v h=>by simp at h) hs dy tL (.inl (by simp)) Tn;have ev:=w1.same h2;subst ev;have:=gC w3 hp (w4 0 x0 v0 rfl) h hk;rw[w2]at this;exact this
        ·cases hz;exact jk r hp (y:=.rf s (p++[(i,j)])) rfl hs ⟨_,rfl,h2⟩ h hk
       ·cases h
      ·rename_i ho;subst gP;exact gC r hp ((T8 r ej hx h2).free (by simpa using ho)).up (Ib (by intro s p e;cases e) h) hk
    ·cases gP
  |fz row=>
   obtain⟨v,rfl,hv⟩:=d6;cases hv with
   | @fp _ id off k _ hG hb hl hh=>
   simp only[Cz]at gP;have dP:uQ fr E.H (.v (.pointer (J ⟨id,off,ae⟩)))=J (k.cells.drop off):=by simp[uQ,AH.load,hb]
   rw[dP];cases g with
   |true=>
    simp only[D0]at gP;split at gP
    ·rename_i cV;simp only[aT]at gP;subst gP;have hlen:sz<=(k.cells.drop off).length:=by simp;omega
     simp only[mX,ht,Dw hlen,l9];refine gC r hp (PR.up (.agg (by simp;omega) λq x y h1 h2=>?_)) (Ib (by intro s p e;cases e) h) hk;have h2:((k.cells.drop off).take sz)[q]? =J y:=by simpa using h2
     rw[l6]at h1 h2;split at h1
     ·rename_i hlt;rw[aB hlt,jd]at h2;exact hh q x y h1 h2
     ·cases h1
    ·cases gP
   |false=>
    simp only[D0]at gP;split at gP
    ·rename_i x a01;simp only[aT]at gP;subst gP;have hlt:off<k.cells.length:=by simp at hl;omega
     rw[OD hlt];simp only[mX,ht];exact gC r hp (PR.up (hh 0 x _ rfl (cE hlt))) (Ib (by intro s p e;cases e) h) hk
    ·cases gP
 ·split at h
  ·rename_i y hy;unfold IH at hy;split at hy
   ·rename_i u _;simp only[bR]at hy;obtain⟨⟨g,sz⟩,Cs,hy⟩:=hy;obtain⟨dF,ht⟩:=Gf Cs;split at hy
    ·rename_i hg;simp only at hg ht;subst hg;have hf:=r.f u;unfold M5 at hy;split at hy
     ·rename_i s p i j n Ej;simp only[aT]at hy;subst hy;rw[Ej]at hf;obtain⟨id,off,k,v,h1,hG,hb,hc,hw⟩:=hf;have hs:=r.rt u s (by rw[Ej];rfl);rw[Y1 (fv:=.v (.pointer (J ⟨id,off,ae⟩))) (by simp[bM,h1])];have dP:uQ fr E.H (.v (.pointer (J ⟨id,off,ae⟩)))=J (k.cells.drop off):=by simp[uQ,AH.load,hb]
      rw[dP];obtain⟨hlt,rfl⟩:=cT.1 hc;rw[OD hlt];simp only[mX,ht];exact jk r hp (y:=.rf s (p++[(i,j)])) rfl hs ⟨_,rfl,hw⟩ h hk
     ·cases hy
    ·cases hy
   ·cases hy
  ·cases h
def RW{l:Lo}{x:PV}{v:Value}(h:PR E l x v)(hx:ql x=Z):lQ v=Z:=by
 cases h<;>first|rfl|cases hx
def zsA(r:aq c.nt pin E0 E pf fr)(ho:o.op=.store t a x)(h:EK P c t a x o.dst K pf)
(hk:∀pf' ai E',K pf'->aq c.nt pin E0 E' pf' ai->K' ai E'.H):aM P c.nt o K' fr E.H:=by
 unfold EK at h;split at h
 ·rename_i g sz y aQ Cs jq;obtain⟨dF,ht⟩:=Gf Cs;simp only at ht;obtain⟨h1,h2,h3⟩:=h;simp only[DK,bI,eC]at h1;obtain⟨⟨⟨k1,k2⟩,k3⟩,k4⟩:=h1;obtain⟨v,fr1,H1,E1,m1,e1,r1,f1⟩:=ug r (fl:=[]) (λk x v h=>by simp at h) jq;have hfl:PR E1 (J (c.nt,[(0,0)])) y v:=f1 0 y v rfl;obtain⟨c1,c2,c3⟩:=Bq (E':=E1.rl (iJ (c.nt,[(0,0)]) (0,[]) 0 0 y)) (b:=(0,[])) (i:=0) (j:=0) hfl k1 dO λa b h=>k8 h
  have zY:v.cells.toList.all lQ=Z:=by
   rw[bm]at k4⊢;intro w hw;obtain⟨q,hq⟩:=OE hw;have hlt:q<(cN y).length:=by have:=(cT.1 hq).1;omega
   exact RW (c2 q _ w (cE hlt) hq) (k4 _ (e9 hlt))
  have hne:cN y≠[]:=λe=>k3 (by rw[<-k2,e];rfl)
  unfold El at h3;split at h3
  ·rename_i s p i j ko;split at h3
   ·rename_i bV dn;obtain⟨fv,j9,hs,aE⟩:=HF r1 ko;obtain⟨dI,H2,E2,dH,e2,r2⟩:=r1.storeAt hs hfl k1 hne aE dn;have hK:=hk bV dI E2 h3 r2;unfold aM;rw[ho];simp only[m1,ht];rw[aB ⟨c3,by rw[<-c1,k2],k3,zY⟩,j9,h2];rw[e2]at hK;rcases dH with⟨s',off,cells,cs,rfl,g1,g2,rfl,rfl⟩|⟨id,off,k,cs,rfl,g1,g2,g3,rfl,rfl⟩
    ·simp only[g1,g2,bB];rw[e1]at hK;exact hK
    ·rw[e1]at g1 hK;simp only[g1,g2,eP,g3,bB];exact hK
   ·cases h3
  ·cases h3
 ·cases h
def WS{x:Option AD}(h:Dm c K d pf x):∃ad,x=J ad/\dC c K d (uB ad) pf:=by
 cases x with
 |none=>cases h
 |some ad=>exact⟨ad,rfl,h⟩
def zt1(r:aq c.nt pin E0 E pf fr)(hp:ep c pin){s:TypeId}{f:Nat}(ho:o.op=.fieldAddr s x f)(h:Y8 P c s x f o.dst K pf)
(hk:∀pf' ai E',K pf'->aq c.nt pin E0 E' pf' ai->K' ai E'.H):aM P c.nt o K' fr E.H:=by
 obtain⟨Kj,ko,dn⟩:=WS h;simp only[bR]at ko;obtain⟨⟨off,sz⟩,hfo,ad,ko,a1T⟩:=ko;obtain⟨fv,j9,d6⟩:=HF r ko;unfold aM;rw[ho];simp only[ib,hfo,j9];rcases Xd d6 a1T with⟨t,of,rfl,h2⟩|⟨id,of,rfl,h2⟩
 ·exact zE r hp h2 dn hk
 ·exact zE r hp h2 dn hk
def zyr{ad:AD}(h:F2 nt E fr fv ad):(∃s o,fv=.lp s o)\/∃a,fv=.v (.pointer (J a)):=by
 cases ad with
 |pl s p i j=>
  rcases h.2 with⟨cells,h1,h2,h3,rfl⟩|⟨v0,id,o,h1,h2,rfl⟩
  ·exact .inl ⟨_,_,rfl⟩
  ·exact .inr ⟨_,rfl⟩
 |fz row=>
  obtain⟨v,rfl,hv⟩:=h;obtain⟨id,off,rfl⟩:=VE hv;exact .inr ⟨_,rfl⟩
def zwY(r:aq c.nt pin E0 E pf fr)(hp:ep c pin)(ho:o.op=.nilCheck x)(h:zCp c x o.dst K pf)
(hk:∀pf' ai E',K pf'->aq c.nt pin E0 E' pf' ai->K' ai E'.H):aM P c.nt o K' fr E.H:=by
 obtain⟨ad,ko,dn⟩:=WS h;obtain⟨fv,j9,d6⟩:=HF r ko;unfold aM;rw[ho];simp only[ib,j9];rcases zyr d6 with⟨s,of,rfl⟩|⟨a,rfl⟩
 ·exact zE r hp d6 dn hk
 ·exact zE r hp d6 dn hk
def P5{es:Nat}(h:kV P t=J es):∃e g r,cS P t=J e/\cA P e=J (g,es,r):=by
 unfold kV at h;cases he:cS P t with
 |none=>rw[he]at h;cases h
 |some e=>
  rw[he]at h;simp only[aR]at h;cases hz:cA P e with
  |none=>rw[hz]at h;cases h
  |some z=>
   rw[hz]at h;obtain⟨g,bw,r⟩:=z;simp only[l9,aT]at h;subst h;exact⟨e,g,r,rfl,hz⟩
def zy8{len es:Nat}(h:JP P t=J (len,es)):∃e g r,AL P t=J (len,e)/\cA P e=J (g,es,r):=by
 unfold JP at h;cases he:AL P t with
 |none=>rw[he]at h;cases h
 |some e=>
  obtain⟨n,e⟩:=e;rw[he]at h;simp only[aR]at h;cases hz:cA P e with
  |none=>rw[hz]at h;cases h
  |some z=>
   rw[hz]at h;obtain⟨g,bw,r⟩:=z;simp only[l9,aT,b9]at h;obtain⟨rfl,rfl⟩:=h;exact⟨e,g,r,rfl,hz⟩
def UL(nt:Nat)(E:Env)(fr:FR)(v:Value):SB->Prop
 | .own s p lo n es=>s<nt/\((n=0)\/∃id off m cc cw,Wk E fr s p (.slice (J ⟨id,off,J es⟩) m cc)/\E.ow id=J (s,p)/\¬E.G id/\lo+n<=m/\v=.slice (J ⟨id,off+lo*es,J es⟩) n cw)
 | .fz es rows=>PR E ae (.sl aa es rows) v
def V9{x:PV}{v:Value}{sb:SB}(hs:s<nt)(h:tq s p x=J sb)(hw:Wk E fr s p v)(hx:PR E (J (s,p)) x v):UL nt E fr v sb:=by
 unfold tq at h;split at h
 ·rename_i es rows;simp only[aT]at h;subst h;refine⟨hs,?_⟩;cases hx with
  |sl0 _ _=>exact .inl rfl
  | @fk _ id off es n cc k rows how hG hb bc hn hc hm hr hl hh=>exact .inr ⟨id,off,n,cc,cc,hw,how,hG,by omega,by rw[hn];simp⟩
 ·simp only[aT]at h;subst h;exact hx.free (by simp[bK])
 ·cases h
def zxD(r:aq nt pin E0 E pf fr){sb:SB}(h:ER pf x=J sb):∃v,bM fr x=J (.v v)/\UL nt E fr v sb:=by
 cases x with
 |tmp t=>
  simp only[ER]at h;have hf:=r.f t
  have ht:t<nt:=by
   rcases dK t nt with h1|h1
   ·exact h1
   ·rw[r.hi t h1]at h;simp[tG,jP,tq]at h
  cases aE:pf t with
  |v x=>
   rw[aE]at h hf;simp only[tG]at h;obtain⟨v,h1,h2⟩:=gi hf (by rintro rfl;simp[tq]at h);exact⟨v,by simp[bM,h1],V9 ht h (.inl ⟨v,h1,rfl⟩) h2⟩
  |rf s p=>
   rw[aE]at h hf;simp only[tG,bR]at h;obtain⟨x,hx,h⟩:=h;obtain⟨v,h1,h2⟩:=hf;obtain⟨v',w1,w2⟩:=r.at hx (by rintro rfl;simp[tq]at h) (iQ r h2 hx);have:=w1.same h2;subst this;exact⟨v',by simp[bM,h1],V9 (r.rt t s (by rw[aE];rfl)) h h2 w2⟩
  |rv s p lo hi=>
   rw[aE]at h hf;simp only[tG,bR]at h;obtain⟨x,hx,h⟩:=h;have hs:=r.rt t s (by rw[aE];rfl);unfold H9 at h;split at h
   ·rename_i es rows;split at h
    ·rename_i hb;simp only[aT]at h;subst h;rcases hf with⟨h1,h2,rfl,rfl⟩|⟨id,off,bw,n,cc,h1,h2,h3,h4⟩
     ·exact⟨.slice ae 0 0,by simp[bM,h2],hs,.inl (by omega)⟩
     ·obtain⟨v',w1,w2⟩:=r.at hx (by simp) (iQ r h1 hx);have:=w1.same h1;subst this;have ee:=zO w2;subst ee;refine⟨.slice (J ⟨id,off+lo*es,J es⟩) (hi-lo) (cc-lo),by simp[bM,h4],hs,?_⟩;cases w2 with
      |fk how hG hb bc hn hc hm hr hl hh=>exact .inr ⟨_,_,_,_,_,h1,how,hG,by omega,rfl⟩
    ·cases h
   ·rename_i es rows;split at h
    ·rename_i hb;simp only[aT]at h;subst h;rcases hf with⟨h1,h2,rfl,rfl⟩|⟨id,off,bw,n,cc,h1,h2,h3,h4⟩
     ·exact⟨.slice ae 0 0,by simp[bM,h2],by show PR E ae (.sl aa es _) _;simpa using PR.sl0 (E:=E) (l:=ae) aa es⟩
     ·obtain⟨v',w1,w2⟩:=r.at hx (by simp) (iQ r h1 hx);have:=w1.same h1;subst this;have ee:=zO w2;subst ee;obtain⟨_,_,_,e3⟩:=w2.cut h2 h3;exact⟨.slice (J ⟨id,off+lo*es,J es⟩) (hi-lo) (cc-lo),by simp[bM,h4],e3.free (by simp[bK])⟩
    ·cases h
   ·cases h
  |_=>rw[aE]at h;simp[tG]at h
 |_=>simp[ER]at h
def aq.a1f(r:aq nt pin E0 E pf fr){u n:Nat}{cs:List Value}(hu:u<nt)(hf:fr u=.ls n 1 cs):
 ∃E',aq nt pin E0 E' (pf.put u jP) (fr.put u (.v (.slice (J ⟨E.H.n,0,J 1⟩) n n)))/\E'.H=E.H.push ⟨Z,cs⟩/\E'.G E.H.n/\∀s,s<nt->s≠u->du E E' (J (s,[])) (J (s,[])):=by
 have ok:=r.ok;have jU:∀v,(u,v)∉pin:=λv hv=>by have:=r.pin u v hv;rw[hf]at this;cases this
 let E1:=E.push ⟨Z,cs⟩ (u,[]) λ_=>ae
 have r1:aq nt pin E0 E1 (pf.put u jP) (fr.put u (.v (.slice (J ⟨E.H.n,0,J 1⟩) n n))):=
  r.set hu jU ok.nr (λs _ _=>ok.mW λ_=>rfl) ok.uZ ok.push.wf ok.push.fresh wA λs hs=>by simp[jP,bC]at hs
 have r2:=r1.set (fv:=.v (.slice (J ⟨E.H.n,0,J 1⟩) n n)) (y:=jP) hu jU (pV (a:=(u,[]))) (λs _ hs=>yX hs) EZ ok.push.fz.wf ok.push.fz.fresh wA λs hs=>by simp[jP,bC]at hs
 have e1:(fr.put u (.v (.slice (J ⟨E.H.n,0,J 1⟩) n n))).put u (.v (.slice (J ⟨E.H.n,0,J 1⟩) n n))=fr.put u (.v (.slice (J ⟨E.H.n,0,J 1⟩) n n)):=by
  funext t;simp only[FR.put];split<;>rfl
 have e2:(pf.put u jP).put u jP=pf.put u jP:=by
  funext t;simp only[ah.put];split
  ·rfl
  ·by_cases h2:bC (pf t)=J u
   ·rw[show fy u (pf t)=jP from aB h2];simp[fy,jP,bC]
   ·rw[show fy u (pf t)=pf t from az h2,show fy u (pf t)=pf t from az h2]
 rw[e1,e2]at r2;refine⟨_,r2,rfl,.inr ⟨[],by simpa using zhw⟩,λs hs L6 id q h1 h2=>?_⟩;obtain⟨a1,a2,a3⟩:=(ok.mW (bl:=⟨Z,cs⟩) (n:=(u,[])) (f:=λ_=>ae) (a:=(s,[])) λ_=>rfl:du E E1 (J (s,[])) (J (s,[]))) id q h1 h2;obtain⟨b1,b2,b3⟩:=(yX (E:=E1) (a:=(u,[])) (c:=(s,[])) L6) id q a1 a2;exact⟨b1,b2,b3.trans a3⟩
def zv8(r:aq c.nt pin E0 E pf fr)(hp:ep c pin){i:Operand}{y:PF×ah}(ho:o.op=.indexAddr t x i)(hy:EJ P t x i pf=J y)(h:dC c K o.dst y.1 y.2)
(hk:∀pf' ai E',K pf'->aq c.nt pin E0 E' pf' ai->K' ai E'.H):aM P c.nt o K' fr E.H:=by
 unfold EJ at hy;split at hy
 ·rename_i u;unfold K1 at hy;split at hy
  ·rename_i s p i' j n k q Ej hq;split at hy
   ·rename_i hc;obtain⟨hes,hq0,GH⟩:=hc;simp only[aT]at hy;subst hy;have hf:=r.f u;rw[Ej]at hf;obtain⟨vs,h1,h2,h3⟩:=hf
    have hu:u<c.nt:=by
     rcases dK u c.nt with h4|h4
     ·exact h4
     ·have:=r.hi u h4;rw[Ej]at this;cases this
    have hs:=r.rt u s (by rw[Ej];rfl);obtain⟨e,g,rr,he,hz⟩:=P5 hes;obtain⟨E',r',eH,hG,hm⟩:=r.a1f hu h1;have hlt:q.toNat<vs.length:=by omega
    have hw:=h3 q.toNat _ (cE hlt)
    have L6:s≠u:=by
     rintro rfl;rcases hw with⟨w,g1,_⟩|⟨cc,_,_,_,g1,_⟩<;>rw[h1]at g1<;>cases g1
    have hw':Wk E' (fr.put u (.v (.slice (J ⟨E.H.n,0,J 1⟩) n n))) s (p++[(i',j+q.toNat)]) vs[q.toNat]:=
     hw.dZ (KL.Ir (hm s hs L6)) (cy _) (by simp[FR.put,L6])
    unfold aM;rw[ho];right;refine⟨u,n,1,vs,k,q,e,g,rr,rfl,h1,pA r hq,he,hz,⟨hq0,GH⟩,?_⟩;rw[<-eH];refine jk r' hp (y:=.as Z s p i' (j+q.toNat) 1) rfl hs ⟨E.H.n,q.toNat*1,⟨Z,vs⟩,vs[q.toNat],rfl,hG,by rw[eH];simp[AH.push],by simp[hlt],hw'⟩ h hk
   ·cases hy
  ·cases hy
 ·cases hy
def zsU(r:aq c.nt pin E0 E pf fr)(hp:ep c pin){i:Operand}(ho:o.op=.indexAddr t x i)(h:Dj P c t x i o.dst K pf)
(hk:∀pf' ai E',K pf'->aq c.nt pin E0 E' pf' ai->K' ai E'.H):aM P c.nt o K' fr E.H:=by
 unfold Dj at h;split at h
 case h_2=>
  split at h
  ·rename_i y hy;exact zv8 r hp ho hy h hk
  ·cases h
 rename_i ad ko;have dn:=h;unfold zR at ko;split at ko
 ·rename_i eL hes;simp only[bR]at ko;obtain⟨sb,hsb,jb⟩:=ko;unfold LV at jb;split at jb
  ·rename_i q j hj;have ym:=pA r hj;obtain⟨v,j9,d6⟩:=zxD r hsb;obtain⟨e,g,rr,he,hz⟩:=P5 hes;unfold aM;rw[ho];left;cases sb with
   |own s p lo n es=>
    simp only[Es]at jb;split at jb
    ·rename_i hb;obtain⟨rfl,eJ,fX⟩:=hb;simp only[aT]at jb;subst jb;obtain⟨hs,d6⟩:=d6;rcases d6 with d6|⟨id,off,m,cc,cw,w1,w2,w3,w4,rfl⟩
     ·omega
     ·simp only[ib,j9,ym,he,hz];rw[aB ⟨trivial,eJ,fX⟩];refine zE r hp (ad:=.pl s p (lo+j.toNat) 0) ⟨hs,.inr ⟨_,id,_,w1,.sl (j:=0) w2 w3 (by omega),?_⟩⟩ dn hk;rw[nT,rc,iN]
    ·cases jb
   |fz es rows=>
    simp only[Es]at jb;split at jb
    ·rename_i hb;obtain⟨rfl,eJ⟩:=hb;simp only[bN]at jb;obtain⟨row,ej,rfl⟩:=jb;have hlt:j.toNat<rows.length:=(cT.1 ej).1;cases d6 with
     |sl0 _ _=>simp at hlt
     | @jF _ id off es n cc k rows hG hb hn hc hm hr hl hh=>
      simp only[ib,j9,ym,he,hz];rw[aB ⟨trivial,eJ,by omega⟩];refine zE r hp (ad:=.fz row) ⟨_,rfl,.fp hG hb ?_ λq x y g1 g2=>hh j.toNat row q x y ej g1 g2⟩ dn hk;have dD:=hr row (eo ej);have h5:(j.toNat+1)*es<=n*es:=gA _ (by omega);rw[jZ]at h5;omega
    ·cases jb
  ·cases jb
 ·rename_i hes;split at ko
  ·rename_i len es ha;simp only[bR]at ko;obtain⟨ad,ko,jb⟩:=ko;unfold Ly at jb;split at jb
   ·rename_i q j hj;split at jb
    ·rename_i hb;have ym:=pA r hj;obtain⟨fv,j9,d6⟩:=HF r ko;obtain⟨e,g,rr,he,hz⟩:=zy8 ha;unfold aM;rw[ho];left;rcases Xd d6 jb with⟨t',of,rfl,h2⟩|⟨id,of,rfl,h2⟩
     ·simp only[ib,j9,ym,he,hz];rw[aB hb];exact zE r hp h2 dn hk
     ·simp only[ib,j9,ym,he,hz];rw[aB hb];exact zE r hp h2 dn hk
    ·cases jb
   ·cases jb
  ·cases ko
end
end Go.Pm
