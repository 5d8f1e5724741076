import Derived.Test.YtnojafnlicbhpaaGreatPmH
open Bool renaming false→aa,true→Z
open Option renaming none→ae,some→J
set_option linter.defProp false
namespace Go.Pm
def aR:=@Option.bind_some
def Ox:=@List.drop_eq_getElem_cons
def Oy:=@List.getElem?_of_mem
set_option linter.unusedVariables false
set_option linter.unusedSimpArgs false
open Go.Am
def zc:List Nat->List Value->List PV
 |_,[]=>[]
 |[],v::vs=>ng 0 v::zc [] vs
 |e::es,v::vs=>ng e v::zc es vs
def QU(P:Program):Nat->TypeId->List Nat
 |0,_=>[]
 |n+1,t=>match P.underlying t with
  |some (.struct jX)=>jX.toList.flatMap λf=>QU P n f.type
  |some (.array k e)=>(List.replicate k (QU P n e)).flatten
  |some (.slice e)=>[match cA P e with|some z=>z.2.1|none=>0]
  |_=>[0]
def zz(P:Program)(t:TypeId)(z:List Value):List PV:=zc (QU P 8 t) z
def tk(P:Program)(t:TypeId):Option (Bool×Nat):=(cA P t).map λz=>(z.1,z.2.1)
def dz:PV->PV
 | .sl _ e []=>.sl aa e []
 |x=>x
def ud:PV->PV
 | .sl _ e []=>.sl Z e []
 |x=>x
def rL(c:aY):Option Tmp->Bool
 |some d=>c.fz.contains (d+c.nt)
 |none=>aa
def uz(b:Bool)(z:List PV):List PV:=if b=Z then z.map ud else z
def zr(P:Program)(t:TypeId):Option (List PV):=(cA P t).bind λz=>if z.2.2.2.all cr=Z then J (zz P t z.2.2.2)else ae
def lX(P:Program)(t:TypeId):Option Nat:=(cR P t).bind λe=>(cA P e).map λz=>z.2.1
def cS(P:Program)(t:TypeId):Nat:=(lX P t).getD 0
def MG:PF->Option PF
 | .as Z s p i j _=>J (.rf s (p++[(i,j)]))
 |_=>ae
def II(P:Program)(t:TypeId)(pf:ah):Operand->Option PF
 | .tmp u=>(tk P t).bind λtz=>if tz.1=aa then MG (pf u)else ae
 |_=>ae
def LN(P:Program)(t:TypeId)(u:Nat)(pf:ah):PF->Option Value->Option (PF×ah)
 | .as aa s p i j n,J (.int _ q)=>if lX P t=J 1/\0<=q/\q<n then J (.as Z s p i (j+q.toNat) 1,pf.put u jP)else ae
 |_,_=>ae
def Fb(P:Program)(t:TypeId)(x i:Operand)(pf:ah):Option (PF×ah):=
 match x with
 | .tmp u=>LN P t u pf (pf u) (cu pf i)
 |_=>ae
def zK(c:aY)(d:Nat):Bool:=c.fz.contains (d+2*c.nt)
def Bi:PF->Option (Nat×aA)
 | .rf s p=>J (s,p)
 |_=>ae
def FN(t:Nat):PF->Option PF
 | .bl _=>J (.pt t [] 0 0)
 | .rf s p=>J (.rf s p)
 | .cl s g us=>J (.cl s g us)
 |_=>ae
def CD(c:aY)(pf:ah):Option Tmp->Operand->Option PF
 |some d,.tmp t=>if zK c d=Z then FN t (pf t)else ae
 |_,_=>ae
def TM(c:aY):Option Tmp->Bool
 |some d=>c.fz.contains (d+6*c.nt)
 |none=>aa
def zm(c:aY)(d:Option Tmp)(pf:ah):PF->Option (PF×ah)
 | .rf s p=>if TM c d=Z then(ce pf s p).bind λx=>if dv x=Z then ae else(iz pf s p .au).map λpf'=>(.v x,pf')else J (.rf s p,pf)
 |y=>J (y,pf)
def DC(c:aY)(K:ah->Prop)(d:Option Tmp)(y:PF)(pf:ah):Prop:=
 match zm c d pf y with
 |some z=>dB c K d z.1 z.2
 |none=>False
def Dy(P:Program)(c:aY)(t:TypeId)(a:Operand)(d:Option Tmp)(K:ah->Prop)(pf:ah):Prop:=
 match(tk P t).bind λtz=>(m7 pf a).bind (Cm tz pf)with
 |some y=>DC c K d y pf
 |none=>match II P t pf a with
  |some y=>dB c K d y pf
  |none=>False
def qR:PV->Bool
 | .agg _| .bO _| .au=>aa
 |_=>Z
def Fh(sz:Nat)(x:PV):Bool:=jR x&&decide ((cN x).length=sz)&&decide (sz≠0)&&(cN x).all qR
def Dk(K:ah->Prop)(y:PV)(pf:ah):Option AD->Prop
 |some (.pl s p i j)=>match mz pf s p i j (cN y)with
  |some pf'=>K pf'
  |none=>False
 |_=>False
def E5(P:Program)(c:aY)(t:TypeId)(a x:Operand)(d:Option Tmp)(K:ah->Prop)(pf:ah):Prop:=
 match tk P t,ew (cS P t) pf x with
 |some (_,sz),J (y,aQ)=>Fh sz y=Z/\d=ae/\Dk K y aQ (m7 aQ a)
 |_,_=>False
def E7(c:aY)(K:ah->Prop)(d:Option Tmp)(pf:ah):Option AD->Prop
 |some ad=>dB c K d (ua ad) pf
 |none=>False
def zyo(P:Program)(c:aY)(s:TypeId)(x:Operand)(f:Nat)(d:Option Tmp)(K:ah->Prop)(pf:ah):Prop:=
 E7 c K d pf ((du P s f).bind λo=>(m7 pf x).bind (wN o.1))
def zCk(c:aY)(x:Operand)(d:Option Tmp)(K:ah->Prop)(pf:ah):Prop:=E7 c K d pf (m7 pf x)
inductive SB where
 |own (s:Nat) (p:aA) (lo n es:Nat)
 |fz (es:Nat) (rows:List (List PV))
def sK(s:Nat)(p:aA):PV->Option SB
 | .sl Z es rows=>J (.own s p 0 rows.length es)
 | .sl aa es rows=>J (.fz es rows)
 |_=>ae
def HI(s:Nat)(p:aA)(lo hi:Nat):PV->Option SB
 | .sl Z es rows=>if lo<=hi/\hi<=rows.length then J (.own s p lo (hi-lo) es)else ae
 | .sl aa es rows=>if lo<=hi/\hi<=rows.length then J (.fz es ((rows.take hi).drop lo))else ae
 |_=>ae
def s9(pf:ah)(t:Nat):PF->Option SB
 | .v x=>sK t [] x
 | .rf s p=>(ce pf s p).bind (sK s p)
 | .rv s p lo hi=>(ce pf s p).bind (HI s p lo hi)
 |_=>ae
def FE(pf:ah):Operand->Option SB
 | .tmp t=>s9 pf t (pf t)
 |_=>ae
def FJ(eE:Nat)(j:Int):SB->Option AD
 | .own s p lo n es=>if es=eE/\0<=j/\j<n then J (.pl s p (lo+j.toNat) 0)else ae
 | .fz es rows=>if es=eE/\0<=j then(rows[j.toNat]?).map .fz else ae
def Lm(eE:Nat)(j:Option Value)(x:SB):Option AD:=
 match j with
 |some (.int _ j)=>FJ eE j x
 |_=>ae
def IP(P:Program)(t:TypeId):Option (Nat×Nat):=(ze P t).bind λe=>(cA P e.2).map λz=>(e.1,z.2.1)
def Li(len es:Nat)(j:Option Value)(ad:AD):Option AD:=
 match j with
 |some (.int _ j)=>if 0<=j/\j<len then wN (j.toNat*es) ad else ae
 |_=>ae
def zN(P:Program)(t:TypeId)(x i:Operand)(pf:ah):Option AD:=
 match lX P t with
 |some es=>(FE pf x).bind (Lm es (cu pf i))
 |none=>match IP P t with
  |some (len,es)=>(m7 pf x).bind (Li len es (cu pf i))
  |none=>ae
def EF(P:Program)(c:aY)(t:TypeId)(x i:Operand)(d:Option Tmp)(K:ah->Prop)(pf:ah):Prop:=
 match zN P t x i pf with
 |some ad=>dB c K d (ua ad) pf
 |none=>match Fb P t x i pf with
  |some y=>dB c K d y.1 y.2
  |none=>False
def Gd(P:Program)(c:aY)(e:TypeId)(d:Option Tmp)(K:ah->Prop)(pf:ah):Prop:=
 match zr P e,d with
 |some z,J d=>gJ c d .skip=Z/\if c.hp.contains d=Z then K (pf.put d (.v (.bx z)))else K (pf.put d (.bl z))
 |_,_=>False
def qK:PF->Bool
 | .ls .. =>Z
 |_=>aa
def uE(pf:ah):Operand->Bool
 | .tmp t=>qK (pf t)
 |_=>aa
def DG(P:Program)(c:aY)(e:TypeId)(x:Operand)(d:Option Tmp)(K:ah->Prop)(pf:ah):Prop:=
 match tk P e,ew (cS P e) pf x,d with
 |some _,J (y,aQ),J d=>uE pf x=aa/\jR y=Z/\gJ c d .skip=Z/\if c.hp.contains d=Z then(if c.fz.contains d=Z then K ((aQ.put d (.v (.bx (cN y)))).put d (.v (drop (.bx (cN y)))))else K (aQ.put d (.v (.bx (cN y)))))else K (aQ.put d (.bl (cN y)))
 |_,_,_=>False
def AN(c:aY):Option Tmp->Bool
 |some d=> !c.hp.isEmpty&&c.fz.contains (d+5*c.nt)
 |none=>aa
def CY(pf:ah)(t s:Nat):aA->Nat->Nat->PF->Option (PF×ah)
 |[],0,0,.bl row=>J (.rf s [],((pf.bU s (.v (.bx row))).kill s 0).put t (.rf s []))
 |_,_,_,_=>ae
def tv(c:aY)(t:Nat)(d:Option Tmp)(K:ah->Prop)(pf:ah):PF->Prop
 | .v x=>dv x=aa/\if bL x=Z then dB c K d (.rf t []) pf else dB c K d (.v x) pf
 | .ls es rows=>t<c.nt/\dB c K d (.rf t []) ((pf.bU t (.v (.sl Z es rows))).kill t 0)
 | .bl _=>dB c K d (.pt t [] 0 0) pf
 | .skip=>False
 | .as .. =>False
 | .pt s p i j=>if AN c d=Z then match CY pf t s p i j (pf s)with
  |some y=>dB c K d y.1 y.2
  |none=>False
  else dB c K d (.pt s p i j) pf
 |y=>dB c K d y pf
def sU(e:Nat)(c:aY)(x:Operand)(d:Option Tmp)(K:ah->Prop)(pf:ah):Prop:=
 match x with
 | .tmp t=>tv c t d K pf (pf t)
 |x=>match ew e pf x with
  |some (y,aQ)=>dB c K d (.v y) aQ
  |none=>False
def Ga(e:Nat)(c:aY)(x:Operand)(d:Option Tmp)(K:ah->Prop)(pf:ah):Prop:=
 match CD c pf d x with
 |some y=>dB c K d y pf
 |none=>match ew e pf x with
  |some (y,aQ)=>dB c K d (.v y) aQ
  |none=>False
section
variable {nt:Nat}{pin:List (Nat×Value)}{E0 E E':Env}{pf:ah}{fr ai:FR}{c:aY}{P:Program}
variable{K:ah->Prop}{K':FR->AH->Prop}{a x:Operand}{d:Option Tmp}{fv:FV}{o:Oper}{p:aA}{s:Nat}{t:TypeId}
def Ge{x:Bool×Nat}(h:tk P t=J x):∃r,cA P t=J (x.1,x.2,r):=by
 simp only[tk,bN]at h;obtain⟨⟨a,b,cc⟩,h1,rfl⟩:=h;exact⟨cc,h1⟩
def zBX{x:List PV}(h:zr P t=J x):∃g s b z,cA P t=J (g,s,b,z)/\z.all cr=Z/\x=zz P t z:=by
 simp only[zr,bR]at h;obtain⟨⟨a,b,cc,z⟩,h1,h2⟩:=h;split at h2
 ·rename_i hz;simp only[aT]at h2;exact⟨a,b,cc,z,h1,hz,h2.symm⟩
 ·cases h2
def Fp:∀{n:Nat}{cs:List Value},n<=cs.length->tN n cs=J (cs.take n):=by
 intro n;induction n with
 |zero=>intro cs _;simp[tN]
 |succ n ih=>
  intro cs h;cases cs with
  |nil=>simp at h
  |cons c cs=>simp[tN,ih (by simpa using h)]
def vr(fr:FR)(H:AH):FV->Option (List Value)
 | .lp s o=>match fr s with
  | .loc cells=>J (cells.drop o)
  |_=>ae
 | .v (.pointer (J ⟨id,off,ae⟩))=>H.load id off
 |_=>ae
def Wn{H:AH}(h:bM fr a=J fv):mE fr H a=vr fr H fv:=by
 unfold mE vr;rw[h];cases fv with
 |v x=>
  cases x with
  |pointer p=>
   cases p with
   |none=>rfl
   |some a=>obtain⟨b,o,sp⟩:=a;cases sp<;>rfl
  |_=>rfl
 |_=>rfl
def zzC(r:aq nt pin E0 E pf fr){i j:Nat}{row:List PV}(h:Iq E fr s p i j fv)(hr:HK pf s p i=J row):
 ∃cs,vr fr E.H fv=J cs/\∀q,j+q<row.length->∃y,cs[q]? =J y/\Wk E fr s (p++[(i,j+q)]) y:=by
 obtain⟨z,hz,d7⟩:=bR.1 hr;rcases h with⟨cells,h1,rfl,rfl,rfl⟩|⟨v0,id,o,hw,hd,rfl⟩
 ·have hlen:row.length=cells.length:=by
   have hf:=r.f s;simp only[ce,bR]at hz;obtain⟨x0,g1,g2⟩:=hz;simp only[iM,aT]at g2;subst g2;cases fI:pf s with
   |bl tr=>
    rw[fI]at hf g1;obtain⟨dx,c1,c2,_⟩:=hf;rw[h1]at c1;cases c1;simp only[fB,aT]at g1;subst g1;simp only[lJ,eP,aT]at d7;subst d7;exact c2
   |v y=>
    rw[fI]at hf g1;simp only[fB,aT]at g1;subst g1;obtain⟨w,e,_⟩:=ga hf (by rintro rfl;simp[lJ]at d7);rw[h1]at e;cases e
   |_=>rw[fI]at g1;simp[fB]at g1
  refine⟨cells.drop j,by simp[vr,h1],λq hq=>?_⟩;have hlt:j+q<cells.length:=by omega
  refine⟨cells[j+q],?_,.inr ⟨cells,j+q,[],_,h1,rfl,cE hlt,rfl⟩⟩;rw[jd,cE hlt]
 ·obtain⟨v',w1,w2⟩:=r.at hz (by rintro rfl;simp[lJ]at d7) (jc r hw hz);have:=w1.same hw;subst this;cases w2 with
  | @fk _ Ba off es n cc k rows how hG hb bc hn hc hm hrr hl hh=>
   cases hd with
   |sl HN Hu hi=>
   simp only[lJ]at d7;have hes:=hrr row (eo d7);refine⟨k.cells.drop (off+i*es+j),by simp[vr,AH.load,hb],λq hq=>?_⟩;have h5:(i+1)*es<=cc*es:=gA _ (by omega);rw[jZ]at h5;have hlt:off+i*es+j+q<k.cells.length:=by omega
   refine⟨k.cells[off+i*es+j+q],by rw[jd,cE hlt],hw.snoc ⟨_,off+i*es,k,_,.sl (j:=j) how hG hi,?_,hb,by rw[<-iN];exact cE hlt,rfl⟩⟩;rintro bw ⟨_,_,_,e⟩;cases e;omega
  | @bx _ Ba k tr how hG hb bc hl hh=>
   cases hd with
   |bx HN Hu=>
   simp only[lJ,eP,aT]at d7;subst d7;refine⟨k.cells.drop (0+j),by simp[vr,AH.load,hb],λq hq=>?_⟩;have hlt:j+q<k.cells.length:=by omega
   refine⟨k.cells[j+q],by rw[jd,gk,cE hlt],hw.snoc ⟨_,0,k,_,.bx how hG,?_,hb,by rw[gk];exact cE hlt,rfl⟩⟩;rintro bw ⟨_,_,_,e⟩;cases e
  |sl0 ob es=>cases hd
  |_=>simp[lJ]at d7
def Rv(r:aq nt pin E0 E pf fr){i q:Nat}{row:List PV}{x:PV}{y:Value}(hr:HK pf s p i=J row)(hx:row[q]? =J x)(hw:Wk E fr s (p++[(i,q)]) y):PR E (J (s,p++[(i,q)])) x y:=by
 by_cases hj:x=.au
 ·subst hj;exact .au y
 ·obtain⟨v',w1,w2⟩:=r.at (s:=s) (p:=p++[(i,q)]) (by rw[OR hr];exact hx) hj (.inl K5);rw[w1.same hw]at w2;exact w2
def Jp{y:PF}(hy:∀s p,y≠.rf s p)(h:DC c K d y pf):dB c K d y pf:=by
 cases y with
 |rf s p=>exact absurd rfl (hy s p)
 |_=>exact h
def zuz(r:aq c.nt pin E0 E pf fr)(hp:er c pin)(h:Dy P c t a d K pf)
(hk:∀pf' ai E',K pf'->aq c.nt pin E0 E' pf' ai->K' ai E'.H):match mU P t (mE fr E.H a)with|some v=>bB c.nt K' d (.v v) fr E.H|none=>False:=by
 unfold Dy at h;split at h
 ·rename_i y hy;simp only[bR]at hy;obtain⟨tz,CF,ad,ki,gF⟩:=hy;obtain⟨fv,j9,dZ⟩:=Ip r ki;rw[Wn j9];obtain⟨dD,ht⟩:=Ge CF;obtain⟨g,sz⟩:=tz;simp only at ht;cases ad with
  |pl s p i j=>
   obtain⟨hs,aD⟩:=dZ;simp only[Cm,bR]at gF;obtain⟨row,d7,gF⟩:=gF;obtain⟨cs,dQ,Ae⟩:=zzC r aD d7;rw[dQ];cases g with
   |true=>
    simp only[Bc]at gF;split at gF
    ·rename_i cV;simp only[aT]at gF
     have hlen:sz<=cs.length:=by
      rcases Uc sz with h0|h0
      ·omega
      ·obtain⟨y,h1,_⟩:=Ae (sz-1) (by omega);have:=(cT.1 h1).1;omega
     simp only[mU,ht,Fp hlen,l9]
     have hq:∀(q:Nat) (y:Value),(cs.take sz)[q]? =J y->q<sz/\Wk E fr s (p++[(i,j+q)]) y:=by
      intro q y hq;rw[l6]at hq;split at hq
      ·rename_i hlt;obtain⟨y',h1,h2⟩:=Ae q (by omega);rw[h1]at hq;cases hq;exact⟨hlt,h2⟩
      ·cases hq
     split at gF
     ·rename_i ho;subst gF;have eA:sz≠0:=by rintro rfl;simp at ho
      exact jm r hp (y:=.ra s p i j sz) rfl hs ⟨_,rfl,⟨by simp;omega,eA⟩,λq y h1=>(hq q y (by simpa using h1)).2⟩ (Jp (by intro s p e;cases e) h) hk
     ·rename_i ho;subst gF;refine gP r hp (PR.up (.agg (by simp;omega) λq x y h1 h2=>?_)) (Jp (by intro s p e;cases e) h) hk;have h2:=hq q y (by simpa using h2);rw[l6,aB h2.1,jd]at h1;refine(Rv r d7 h1 h2.2).free ?_
      have:=Kx.1 (by simpa using ho) x (by
       rw[List.mem_iff_getElem?]
       exact⟨q,by rw[l6,aB h2.1,jd];exact h1⟩)
      simpa using this
    ·cases gF
   |false=>
    simp only[Bc]at gF;split at gF
    ·rename_i x AaO zo;simp only[aT]at gF
     have hx:row[j]? =J x:=by
      have:(row.drop j)[0]? =J x:=by rw[zo];rfl
      rw[jd]at this;exact this
     obtain⟨y',h1,h2⟩:=Ae 0 (by have:=(cT.1 hx).1;omega);rw[rb]at h2;cases cs with
     |nil=>simp at h1
     |cons c0 cs=>
      simp at h1;subst h1;simp only[mU,ht];split at gF
      ·subst gF;simp only[DC,zm]at h;split at h
       ·rename_i z hz;split at hz
        ·simp only[bR]at hz;obtain⟨x0,dA,hz⟩:=hz;split at hz
         ·cases hz
         ·rename_i hj0;simp only[bN]at hz;obtain⟨pf',To,rfl⟩:=hz;have sW:=nX (x:=x0) (by simpa using hj0);obtain⟨v0,E1,w1,w2,w3,w4⟩:=r.M8 (fl:=[]) (λk x v h=>by simp at h) hs dA sW (.inl (by simp)) To;have ev:=w1.same h2;subst ev;have:=gP w3 hp (w4 0 x0 v0 rfl) h hk;rw[w2]at this;exact this
        ·cases hz;exact jm r hp (y:=.rf s (p++[(i,j)])) rfl hs ⟨_,rfl,h2⟩ h hk
       ·cases h
      ·rename_i ho;subst gF;exact gP r hp ((Rv r d7 hx h2).free (by simpa using ho)).up (Jp (by intro s p e;cases e) h) hk
    ·cases gF
  |fz row=>
   obtain⟨v,rfl,hv⟩:=dZ;cases hv with
   | @fp _ id off k _ hG hb hl hh=>
   simp only[Cm]at gF;have dQ:vr fr E.H (.v (.pointer (J ⟨id,off,ae⟩)))=J (k.cells.drop off):=by simp[vr,AH.load,hb]
   rw[dQ];cases g with
   |true=>
    simp only[FD]at gF;split at gF
    ·rename_i cV;simp only[aT]at gF;subst gF;have hlen:sz<=(k.cells.drop off).length:=by simp;omega
     simp only[mU,ht,Fp hlen,l9];refine gP r hp (PR.up (.agg (by simp;omega) λq x y h1 h2=>?_)) (Jp (by intro s p e;cases e) h) hk;have h2:((k.cells.drop off).take sz)[q]? =J y:=by simpa using h2
     rw[l6]at h1 h2;split at h1
     ·rename_i hlt;rw[aB hlt,jd]at h2;exact hh q x y h1 h2
     ·cases h1
    ·cases gF
   |false=>
    simp only[FD]at gF;split at gF
    ·rename_i x AaO;simp only[aT]at gF;subst gF;have hlt:off<k.cells.length:=by simp at hl;omega
     rw[Ox hlt];simp only[mU,ht];exact gP r hp (PR.up (hh 0 x _ rfl (cE hlt))) (Jp (by intro s p e;cases e) h) hk
    ·cases gF
 ·split at h
  ·rename_i y hy;unfold II at hy;split at hy
   ·rename_i u _;simp only[bR]at hy;obtain⟨⟨g,sz⟩,CF,hy⟩:=hy;obtain⟨dD,ht⟩:=Ge CF;split at hy
    ·rename_i hg;simp only at hg ht;subst hg;have hf:=r.f u;unfold MG at hy;split at hy
     ·rename_i s p i j n D4;simp only[aT]at hy;subst hy;rw[D4]at hf;obtain⟨id,off,k,v,h1,hG,hb,hc,hw⟩:=hf;have hs:=r.rt u s (by rw[D4];rfl);rw[Wn (fv:=.v (.pointer (J ⟨id,off,ae⟩))) (by simp[bM,h1])];have dQ:vr fr E.H (.v (.pointer (J ⟨id,off,ae⟩)))=J (k.cells.drop off):=by simp[vr,AH.load,hb]
      rw[dQ];obtain⟨hlt,rfl⟩:=cT.1 hc;rw[Ox hlt];simp only[mU,ht];exact jm r hp (y:=.rf s (p++[(i,j)])) rfl hs ⟨_,rfl,hw⟩ h hk
     ·cases hy
    ·cases hy
   ·cases hy
  ·cases h
def PS{l:Lo}{x:PV}{v:Value}(h:PR E l x v)(hx:qR x=Z):lN v=Z:=by
 cases h<;>first|rfl|cases hx
def ztu(r:aq c.nt pin E0 E pf fr)(ho:o.op=.store t a x)(h:E5 P c t a x o.dst K pf)
(hk:∀pf' ai E',K pf'->aq c.nt pin E0 E' pf' ai->K' ai E'.H):aM P c.nt o K' fr E.H:=by
 unfold E5 at h;split at h
 ·rename_i g sz y aQ CF jp;obtain⟨dD,ht⟩:=Ge CF;simp only at ht;obtain⟨h1,h2,h3⟩:=h;simp only[Fh,bI,eC]at h1;obtain⟨⟨⟨k1,k2⟩,k3⟩,k4⟩:=h1;obtain⟨v,fr1,H1,E1,m1,e1,r1,f1⟩:=um r (fl:=[]) (λk x v h=>by simp at h) jp;have hfl:PR E1 (J (c.nt,[(0,0)])) y v:=f1 0 y v rfl;obtain⟨c1,c2,c3⟩:=Cw (E':=E1.rl (iL (c.nt,[(0,0)]) (0,[]) 0 0 y)) (b:=(0,[])) (i:=0) (j:=0) hfl k1 dO λa b h=>lq h
  have zj:v.cells.toList.all lN=Z:=by
   rw[bm]at k4⊢;intro w hw;obtain⟨q,hq⟩:=Oy hw;have hlt:q<(cN y).length:=by have:=(cT.1 hq).1;omega
   exact PS (c2 q _ w (cE hlt) hq) (k4 _ (e9 hlt))
  have hne:cN y≠[]:=λe=>k3 (by rw[<-k2,e];rfl)
  unfold Dk at h3;split at h3
  ·rename_i s p i j ki;split at h3
   ·rename_i bW dj;obtain⟨fv,j9,hs,aD⟩:=Ip r1 ki;obtain⟨dJ,H2,E2,dH,e2,r2⟩:=r1.storeAt hs hfl k1 hne aD dj;have hK:=hk bW dJ E2 h3 r2;unfold aM;rw[ho];simp only[m1,ht];rw[aB ⟨c3,by rw[<-c1,k2],k3,zj⟩,j9,h2];rw[e2]at hK;rcases dH with⟨s',off,cells,cs,rfl,g1,g2,rfl,rfl⟩|⟨id,off,k,cs,rfl,g1,g2,g3,rfl,rfl⟩
    ·simp only[g1,g2,bB];rw[e1]at hK;exact hK
    ·rw[e1]at g1 hK;simp only[g1,g2,eP,g3,bB];exact hK
   ·cases h3
  ·cases h3
 ·cases h
def VZ{x:Option AD}(h:E7 c K d pf x):∃ad,x=J ad/\dB c K d (ua ad) pf:=by
 cases x with
 |none=>cases h
 |some ad=>exact⟨ad,rfl,h⟩
def ztb(r:aq c.nt pin E0 E pf fr)(hp:er c pin){s:TypeId}{f:Nat}(ho:o.op=.fieldAddr s x f)(h:zyo P c s x f o.dst K pf)
(hk:∀pf' ai E',K pf'->aq c.nt pin E0 E' pf' ai->K' ai E'.H):aM P c.nt o K' fr E.H:=by
 obtain⟨I1,ki,dj⟩:=VZ h;simp only[bR]at ki;obtain⟨⟨off,sz⟩,hfo,ad,ki,Abk⟩:=ki;obtain⟨fv,j9,dZ⟩:=Ip r ki;unfold aM;rw[ho];simp only[iu,hfo,j9];rcases zoS dZ Abk with⟨t,of,rfl,h2⟩|⟨id,of,rfl,h2⟩
 ·exact zu r hp h2 dj hk
 ·exact zu r hp h2 dj hk
def zxU{ad:AD}(h:FX nt E fr fv ad):(∃s o,fv=.lp s o)\/∃a,fv=.v (.pointer (J a)):=by
 cases ad with
 |pl s p i j=>
  rcases h.2 with⟨cells,h1,h2,h3,rfl⟩|⟨v0,id,o,h1,h2,rfl⟩
  ·exact .inl ⟨_,_,rfl⟩
  ·exact .inr ⟨_,rfl⟩
 |fz row=>
  obtain⟨v,rfl,hv⟩:=h;obtain⟨id,off,rfl⟩:=VT hv;exact .inr ⟨_,rfl⟩
def zvX(r:aq c.nt pin E0 E pf fr)(hp:er c pin)(ho:o.op=.nilCheck x)(h:zCk c x o.dst K pf)
(hk:∀pf' ai E',K pf'->aq c.nt pin E0 E' pf' ai->K' ai E'.H):aM P c.nt o K' fr E.H:=by
 obtain⟨ad,ki,dj⟩:=VZ h;obtain⟨fv,j9,dZ⟩:=Ip r ki;unfold aM;rw[ho];simp only[iu,j9];rcases zxU dZ with⟨s,of,rfl⟩|⟨a,rfl⟩
 ·exact zu r hp dZ dj hk
 ·exact zu r hp dZ dj hk
def OP{es:Nat}(h:lX P t=J es):∃e g r,cR P t=J e/\cA P e=J (g,es,r):=by
 unfold lX at h;cases he:cR P t with
 |none=>rw[he]at h;cases h
 |some e=>
  rw[he]at h;simp only[aR]at h;cases hz:cA P e with
  |none=>rw[hz]at h;cases h
  |some z=>
   rw[hz]at h;obtain⟨g,bw,r⟩:=z;simp only[l9,aT]at h;subst h;exact⟨e,g,r,rfl,hz⟩
def zzI{len es:Nat}(h:IP P t=J (len,es)):∃e g r,ze P t=J (len,e)/\cA P e=J (g,es,r):=by
 unfold IP at h;cases he:ze P t with
 |none=>rw[he]at h;cases h
 |some e=>
  obtain⟨n,e⟩:=e;rw[he]at h;simp only[aR]at h;cases hz:cA P e with
  |none=>rw[hz]at h;cases h
  |some z=>
   rw[hz]at h;obtain⟨g,bw,r⟩:=z;simp only[l9,aT,b9]at h;obtain⟨rfl,rfl⟩:=h;exact⟨e,g,r,rfl,hz⟩
def X9(nt:Nat)(E:Env)(fr:FR)(v:Value):SB->Prop
 | .own s p lo n es=>s<nt/\((n=0)\/∃id off m cc cw,Wk E fr s p (.slice (J ⟨id,off,J es⟩) m cc)/\E.ow id=J (s,p)/\¬E.G id/\lo+n<=m/\v=.slice (J ⟨id,off+lo*es,J es⟩) n cw)
 | .fz es rows=>PR E ae (.sl aa es rows) v
def US{x:PV}{v:Value}{sb:SB}(hs:s<nt)(h:sK s p x=J sb)(hw:Wk E fr s p v)(hx:PR E (J (s,p)) x v):X9 nt E fr v sb:=by
 unfold sK at h;split at h
 ·rename_i es rows;simp only[aT]at h;subst h;refine⟨hs,?_⟩;cases hx with
  |sl0 _ _=>exact .inl rfl
  | @fk _ id off es n cc k rows how hG hb bc hn hc hm hr hl hh=>exact .inr ⟨id,off,n,cc,cc,hw,how,hG,by omega,by rw[hn];simp⟩
 ·simp only[aT]at h;subst h;exact hx.free (by simp[bL])
 ·cases h
def zyc(r:aq nt pin E0 E pf fr){sb:SB}(h:FE pf x=J sb):∃v,bM fr x=J (.v v)/\X9 nt E fr v sb:=by
 cases x with
 |tmp t=>
  simp only[FE]at h;have hf:=r.f t
  have ht:t<nt:=by
   rcases dK t nt with h1|h1
   ·exact h1
   ·rw[r.hi t h1]at h;simp[s9,jP,sK]at h
  cases aD:pf t with
  |v x=>
   rw[aD]at h hf;simp only[s9]at h;obtain⟨v,h1,h2⟩:=ga hf (by rintro rfl;simp[sK]at h);exact⟨v,by simp[bM,h1],US ht h (.inl ⟨v,h1,rfl⟩) h2⟩
  |rf s p=>
   rw[aD]at h hf;simp only[s9,bR]at h;obtain⟨x,hx,h⟩:=h;obtain⟨v,h1,h2⟩:=hf;obtain⟨v',w1,w2⟩:=r.at hx (by rintro rfl;simp[sK]at h) (jc r h2 hx);have:=w1.same h2;subst this;exact⟨v',by simp[bM,h1],US (r.rt t s (by rw[aD];rfl)) h h2 w2⟩
  |rv s p lo hi=>
   rw[aD]at h hf;simp only[s9,bR]at h;obtain⟨x,hx,h⟩:=h;have hs:=r.rt t s (by rw[aD];rfl);unfold HI at h;split at h
   ·rename_i es rows;split at h
    ·rename_i hb;simp only[aT]at h;subst h;rcases hf with⟨h1,h2,rfl,rfl⟩|⟨id,off,bw,n,cc,h1,h2,h3,h4⟩
     ·exact⟨.slice ae 0 0,by simp[bM,h2],hs,.inl (by omega)⟩
     ·obtain⟨v',w1,w2⟩:=r.at hx (by simp) (jc r h1 hx);have:=w1.same h1;subst this;have ee:=zR w2;subst ee;refine⟨.slice (J ⟨id,off+lo*es,J es⟩) (hi-lo) (cc-lo),by simp[bM,h4],hs,?_⟩;cases w2 with
      |fk how hG hb bc hn hc hm hr hl hh=>exact .inr ⟨_,_,_,_,_,h1,how,hG,by omega,rfl⟩
    ·cases h
   ·rename_i es rows;split at h
    ·rename_i hb;simp only[aT]at h;subst h;rcases hf with⟨h1,h2,rfl,rfl⟩|⟨id,off,bw,n,cc,h1,h2,h3,h4⟩
     ·exact⟨.slice ae 0 0,by simp[bM,h2],by show PR E ae (.sl aa es _) _;simpa using PR.sl0 (E:=E) (l:=ae) aa es⟩
     ·obtain⟨v',w1,w2⟩:=r.at hx (by simp) (jc r h1 hx);have:=w1.same h1;subst this;have ee:=zR w2;subst ee;obtain⟨_,_,_,e3⟩:=w2.cut h2 h3;exact⟨.slice (J ⟨id,off+lo*es,J es⟩) (hi-lo) (cc-lo),by simp[bM,h4],e3.free (by simp[bL])⟩
    ·cases h
   ·cases h
  |_=>rw[aD]at h;simp[s9]at h
 |_=>simp[FE]at h
def aq.Abw(r:aq nt pin E0 E pf fr){u n:Nat}{cs:List Value}(hu:u<nt)(hf:fr u=.ls n 1 cs):
 ∃E',aq nt pin E0 E' (pf.put u jP) (fr.put u (.v (.slice (J ⟨E.H.n,0,J 1⟩) n n)))/\E'.H=E.H.push ⟨Z,cs⟩/\E'.G E.H.n/\∀s,s<nt->s≠u->dr E E' (J (s,[])) (J (s,[])):=by
 have ok:=r.ok;have jH:∀v,(u,v)∉pin:=λv hv=>by have:=r.pin u v hv;rw[hf]at this;cases this
 let E1:=E.push ⟨Z,cs⟩ (u,[]) λ_=>ae
 have r1:aq nt pin E0 E1 (pf.put u jP) (fr.put u (.v (.slice (J ⟨E.H.n,0,J 1⟩) n n))):=
  r.set hu jH ok.nl (λs _ _=>ok.m8 λ_=>rfl) ok.uL ok.push.wf ok.push.fresh yn λs hs=>by simp[jP,bC]at hs
 have r2:=r1.set (fv:=.v (.slice (J ⟨E.H.n,0,J 1⟩) n n)) (y:=jP) hu jH (pP (a:=(u,[]))) (λs _ hs=>yW hs) FA ok.push.fz.wf ok.push.fz.fresh yn λs hs=>by simp[jP,bC]at hs
 have e1:(fr.put u (.v (.slice (J ⟨E.H.n,0,J 1⟩) n n))).put u (.v (.slice (J ⟨E.H.n,0,J 1⟩) n n))=fr.put u (.v (.slice (J ⟨E.H.n,0,J 1⟩) n n)):=by
  funext t;simp only[FR.put];split<;>rfl
 have e2:(pf.put u jP).put u jP=pf.put u jP:=by
  funext t;simp only[ah.put];split
  ·rfl
  ·by_cases h2:bC (pf t)=J u
   ·rw[show fA u (pf t)=jP from aB h2];simp[fA,jP,bC]
   ·rw[show fA u (pf t)=pf t from az h2,show fA u (pf t)=pf t from az h2]
 rw[e1,e2]at r2;refine⟨_,r2,rfl,.inr ⟨[],by simpa using zhw⟩,λs hs Nz id q h1 h2=>?_⟩;obtain⟨a1,a2,a3⟩:=(ok.m8 (bl:=⟨Z,cs⟩) (n:=(u,[])) (f:=λ_=>ae) (a:=(s,[])) λ_=>rfl:dr E E1 (J (s,[])) (J (s,[]))) id q h1 h2;obtain⟨b1,b2,b3⟩:=(yW (E:=E1) (a:=(u,[])) (c:=(s,[])) Nz) id q a1 a2;exact⟨b1,b2,b3.trans a3⟩
def zwq(r:aq c.nt pin E0 E pf fr)(hp:er c pin){i:Operand}{y:PF×ah}(ho:o.op=.indexAddr t x i)(hy:Fb P t x i pf=J y)(h:dB c K o.dst y.1 y.2)
(hk:∀pf' ai E',K pf'->aq c.nt pin E0 E' pf' ai->K' ai E'.H):aM P c.nt o K' fr E.H:=by
 unfold Fb at hy;split at hy
 ·rename_i u;unfold LN at hy;split at hy
  ·rename_i s p i' j n k q D4 hq;split at hy
   ·rename_i hc;obtain⟨hes,hq0,Kd⟩:=hc;simp only[aT]at hy;subst hy;have hf:=r.f u;rw[D4]at hf;obtain⟨vs,h1,h2,h3⟩:=hf
    have hu:u<c.nt:=by
     rcases dK u c.nt with h4|h4
     ·exact h4
     ·have:=r.hi u h4;rw[D4]at this;cases this
    have hs:=r.rt u s (by rw[D4];rfl);obtain⟨e,g,rr,he,hz⟩:=OP hes;obtain⟨E',r',eH,hG,hm⟩:=r.Abw hu h1;have hlt:q.toNat<vs.length:=by omega
    have hw:=h3 q.toNat _ (cE hlt)
    have Nz:s≠u:=by
     rintro rfl;rcases hw with⟨w,g1,_⟩|⟨cc,_,_,_,g1,_⟩<;>rw[h1]at g1<;>cases g1
    have hw':Wk E' (fr.put u (.v (.slice (J ⟨E.H.n,0,J 1⟩) n n))) s (p++[(i',j+q.toNat)]) vs[q.toNat]:=
     hw.d4 (KL.Ix (hm s hs Nz)) (cy _) (by simp[FR.put,Nz])
    unfold aM;rw[ho];right;refine⟨u,n,1,vs,k,q,e,g,rr,rfl,h1,pV r hq,he,hz,⟨hq0,Kd⟩,?_⟩;rw[<-eH];refine jm r' hp (y:=.as Z s p i' (j+q.toNat) 1) rfl hs ⟨E.H.n,q.toNat*1,⟨Z,vs⟩,vs[q.toNat],rfl,hG,by rw[eH];simp[AH.push],by simp[hlt],hw'⟩ h hk
   ·cases hy
  ·cases hy
 ·cases hy
def zsz(r:aq c.nt pin E0 E pf fr)(hp:er c pin){i:Operand}(ho:o.op=.indexAddr t x i)(h:EF P c t x i o.dst K pf)
(hk:∀pf' ai E',K pf'->aq c.nt pin E0 E' pf' ai->K' ai E'.H):aM P c.nt o K' fr E.H:=by
 unfold EF at h;split at h
 case h_2=>
  split at h
  ·rename_i y hy;exact zwq r hp ho hy h hk
  ·cases h
 rename_i ad ki;have dj:=h;unfold zN at ki;split at ki
 ·rename_i eE hes;simp only[bR]at ki;obtain⟨sb,hsb,iS⟩:=ki;unfold Lm at iS;split at iS
  ·rename_i q j hj;have yh:=pV r hj;obtain⟨v,j9,dZ⟩:=zyc r hsb;obtain⟨e,g,rr,he,hz⟩:=OP hes;unfold aM;rw[ho];left;cases sb with
   |own s p lo n es=>
    simp only[FJ]at iS;split at iS
    ·rename_i hb;obtain⟨rfl,eI,fV⟩:=hb;simp only[aT]at iS;subst iS;obtain⟨hs,dZ⟩:=dZ;rcases dZ with dZ|⟨id,off,m,cc,cw,w1,w2,w3,w4,rfl⟩
     ·omega
     ·simp only[iu,j9,yh,he,hz];rw[aB ⟨trivial,eI,fV⟩];refine zu r hp (ad:=.pl s p (lo+j.toNat) 0) ⟨hs,.inr ⟨_,id,_,w1,.sl (j:=0) w2 w3 (by omega),?_⟩⟩ dj hk;rw[nS,rb,iN]
    ·cases iS
   |fz es rows=>
    simp only[FJ]at iS;split at iS
    ·rename_i hb;obtain⟨rfl,eI⟩:=hb;simp only[bN]at iS;obtain⟨row,d7,rfl⟩:=iS;have hlt:j.toNat<rows.length:=(cT.1 d7).1;cases dZ with
     |sl0 _ _=>simp at hlt
     | @jI _ id off es n cc k rows hG hb hn hc hm hr hl hh=>
      simp only[iu,j9,yh,he,hz];rw[aB ⟨trivial,eI,by omega⟩];refine zu r hp (ad:=.fz row) ⟨_,rfl,.fp hG hb ?_ λq x y g1 g2=>hh j.toNat row q x y d7 g1 g2⟩ dj hk;have dE:=hr row (eo d7);have h5:(j.toNat+1)*es<=n*es:=gA _ (by omega);rw[jZ]at h5;omega
    ·cases iS
  ·cases iS
 ·rename_i hes;split at ki
  ·rename_i len es ha;simp only[bR]at ki;obtain⟨ad,ki,iS⟩:=ki;unfold Li at iS;split at iS
   ·rename_i q j hj;split at iS
    ·rename_i hb;have yh:=pV r hj;obtain⟨fv,j9,dZ⟩:=Ip r ki;obtain⟨e,g,rr,he,hz⟩:=zzI ha;unfold aM;rw[ho];left;rcases zoS dZ iS with⟨t',of,rfl,h2⟩|⟨id,of,rfl,h2⟩
     ·simp only[iu,j9,yh,he,hz];rw[aB hb];exact zu r hp h2 dj hk
     ·simp only[iu,j9,yh,he,hz];rw[aB hb];exact zu r hp h2 dj hk
    ·cases iS
   ·cases iS
  ·cases ki
end
end Go.Pm
