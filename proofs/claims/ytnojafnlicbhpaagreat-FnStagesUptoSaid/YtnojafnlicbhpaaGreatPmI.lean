import Derived.Test.YtnojafnlicbhpaaGreatPmH
open Bool renaming false→aa,true→Z
open Option renaming none→ae,some→J
set_option linter.defProp false
namespace Go.Pm
def aS:=@Option.bind_some
def Qh:=@List.drop_eq_getElem_cons
def Qi:=@List.getElem?_of_mem
set_option linter.unusedVariables false
set_option linter.unusedSimpArgs false
open Go.Am
def zc:List Nat->List Value->List PV
 |_,[]=>[]
 |[],v::vs=>nF 0 v::zc [] vs
 |e::es,v::vs=>nF e v::zc es vs
def S8(P:Program):Nat->TypeId->List Nat
 |0,_=>[]
 |n+1,t=>match P.underlying t with
  |some (.struct jX)=>jX.toList.flatMap λf=>S8 P n f.type
  |some (.array k e)=>(List.replicate k (S8 P n e)).flatten
  |some (.slice e)=>[match cF P e with|some z=>z.2.1|none=>0]
  |_=>[0]
def zz(P:Program)(t:TypeId)(z:List Value):List PV:=zc (S8 P 8 t) z
def tk(P:Program)(t:TypeId):Option (Bool×Nat):=(cF P t).map λz=>(z.1,z.2.1)
def dz:PV->PV
 | .sl _ e []=>.sl aa e []
 |x=>x
def ud:PV->PV
 | .sl _ e []=>.sl Z e []
 |x=>x
def r9(c:aY):Option Tmp->Bool
 |some d=>c.fz.contains (d+c.nt)
 |none=>aa
def uz(b:Bool)(z:List PV):List PV:=if b=Z then z.map ud else z
def zr(P:Program)(t:TypeId):Option (List PV):=(cF P t).bind λz=>if z.2.2.2.all cz=Z then J (zz P t z.2.2.2)else ae
def ma(P:Program)(t:TypeId):Option Nat:=(cW P t).bind λe=>(cF P e).map λz=>z.2.1
def cX(P:Program)(t:TypeId):Nat:=(ma P t).getD 0
def Mh:PF->Option PF
 | .as Z s p i j _=>J (.rf s (p++[(i,j)]))
 |_=>ae
def KC(P:Program)(t:TypeId)(pf:ah):Operand->Option PF
 | .tmp u=>(tk P t).bind λtz=>if tz.1=aa then Mh (pf u)else ae
 |_=>ae
def NT(P:Program)(t:TypeId)(u:Nat)(pf:ah):PF->Option Value->Option (PF×ah)
 | .as aa s p i j n,J (.int _ q)=>if ma P t=J 1/\0<=q/\q<n then J (.as Z s p i (j+q.toNat) 1,pf.put u jP)else ae
 |_,_=>ae
def Hw(P:Program)(t:TypeId)(x i:Operand)(pf:ah):Option (PF×ah):=
 match x with
 | .tmp u=>NT P t u pf (pf u) (cu pf i)
 |_=>ae
def AR(c:aY)(d:Nat):Bool:=c.fz.contains (d+2*c.nt)
def Cf:PF->Option (Nat×aC)
 | .rf s p=>J (s,p)
 |_=>ae
def EM(t:Nat):PF->Option PF
 | .bl _=>J (.pt t [] 0 0)
 | .rf s p=>J (.rf s p)
 | .cl s g us=>J (.cl s g us)
 |_=>ae
def CJ(c:aY)(pf:ah):Option Tmp->Operand->Option PF
 |some d,.tmp t=>if AR c d=Z then EM t (pf t)else ae
 |_,_=>ae
def Sw(c:aY):Option Tmp->Bool
 |some d=>c.fz.contains (d+6*c.nt)
 |none=>aa
def BV(c:aY)(d:Option Tmp)(pf:ah):PF->Option (PF×ah)
 | .rf s p=>if Sw c d=Z then(cn pf s p).bind λx=>if dB x=Z then ae else(iC pf s p .ax).map λpf'=>(.v x,pf')else J (.rf s p,pf)
 |y=>J (y,pf)
def Fp(c:aY)(K:ah->Prop)(d:Option Tmp)(y:PF)(pf:ah):Prop:=
 match BV c d pf y with
 |some z=>dI c K d z.1 z.2
 |none=>False
def Fy(P:Program)(c:aY)(t:TypeId)(a:Operand)(d:Option Tmp)(K:ah->Prop)(pf:ah):Prop:=
 match(tk P t).bind λtz=>(nh pf a).bind (Dn tz pf)with
 |some y=>Fp c K d y pf
 |none=>match KC P t pf a with
  |some y=>dI c K d y pf
  |none=>False
def qT:PV->Bool
 | .agg _| .bS _| .ax=>aa
 |_=>Z
def F8(sz:Nat)(x:PV):Bool:=kg x&&decide ((cR x).length=sz)&&decide (sz≠0)&&(cR x).all qT
def Hc(K:ah->Prop)(y:PV)(pf:ah):Option AD->Prop
 |some (.pl s p i j)=>match mT pf s p i j (cR y)with
  |some pf'=>K pf'
  |none=>False
 |_=>False
def FU(P:Program)(c:aY)(t:TypeId)(a x:Operand)(d:Option Tmp)(K:ah->Prop)(pf:ah):Prop:=
 match tk P t,eB (cX P t) pf x with
 |some (_,sz),J (y,aR)=>F8 sz y=Z/\d=ae/\Hc K y aR (nh aR a)
 |_,_=>False
def Gn(c:aY)(K:ah->Prop)(d:Option Tmp)(pf:ah):Option AD->Prop
 |some ad=>dI c K d (uM ad) pf
 |none=>False
def Zo(P:Program)(c:aY)(s:TypeId)(x:Operand)(f:Nat)(d:Option Tmp)(K:ah->Prop)(pf:ah):Prop:=
 Gn c K d pf ((dA P s f).bind λo=>(nh pf x).bind (yy o.1))
def YB(c:aY)(x:Operand)(d:Option Tmp)(K:ah->Prop)(pf:ah):Prop:=Gn c K d pf (nh pf x)
inductive SB where
 |own (s:Nat) (p:aC) (lo n es:Nat)
 |fz (es:Nat) (rows:List (List PV))
def tO(s:Nat)(p:aC):PV->Option SB
 | .sl Z es rows=>J (.own s p 0 rows.length es)
 | .sl aa es rows=>J (.fz es rows)
 |_=>ae
def Kt(s:Nat)(p:aC)(lo hi:Nat):PV->Option SB
 | .sl Z es rows=>if lo<=hi/\hi<=rows.length then J (.own s p lo (hi-lo) es)else ae
 | .sl aa es rows=>if lo<=hi/\hi<=rows.length then J (.fz es ((rows.take hi).drop lo))else ae
 |_=>ae
def uE(pf:ah)(t:Nat):PF->Option SB
 | .v x=>tO t [] x
 | .rf s p=>(cn pf s p).bind (tO s p)
 | .rv s p lo hi=>(cn pf s p).bind (Kt s p lo hi)
 |_=>ae
def EF(pf:ah):Operand->Option SB
 | .tmp t=>uE pf t (pf t)
 |_=>ae
def Fo(eW:Nat)(j:Int):SB->Option AD
 | .own s p lo n es=>if es=eW/\0<=j/\j<n then J (.pl s p (lo+j.toNat) 0)else ae
 | .fz es rows=>if es=eW/\0<=j then(rows[j.toNat]?).map .fz else ae
def Me(eW:Nat)(j:Option Value)(x:SB):Option AD:=
 match j with
 |some (.int _ j)=>Fo eW j x
 |_=>ae
def JA(P:Program)(t:TypeId):Option (Nat×Nat):=(Bo P t).bind λe=>(cF P e.2).map λz=>(e.1,z.2.1)
def Ok(len es:Nat)(j:Option Value)(ad:AD):Option AD:=
 match j with
 |some (.int _ j)=>if 0<=j/\j<len then yy (j.toNat*es) ad else ae
 |_=>ae
def AZ(P:Program)(t:TypeId)(x i:Operand)(pf:ah):Option AD:=
 match ma P t with
 |some es=>(EF pf x).bind (Me es (cu pf i))
 |none=>match JA P t with
  |some (len,es)=>(nh pf x).bind (Ok len es (cu pf i))
  |none=>ae
def Hg(P:Program)(c:aY)(t:TypeId)(x i:Operand)(d:Option Tmp)(K:ah->Prop)(pf:ah):Prop:=
 match AZ P t x i pf with
 |some ad=>dI c K d (uM ad) pf
 |none=>match Hw P t x i pf with
  |some y=>dI c K d y.1 y.2
  |none=>False
def Fr(P:Program)(c:aY)(e:TypeId)(d:Option Tmp)(K:ah->Prop)(pf:ah):Prop:=
 match zr P e,d with
 |some z,J d=>ic c d .skip=Z/\if c.hp.contains d=Z then K (pf.put d (.v (.bx z)))else K (pf.put d (.bl z))
 |_,_=>False
def rG:PF->Bool
 | .ls .. =>Z
 |_=>aa
def wA(pf:ah):Operand->Bool
 | .tmp t=>rG (pf t)
 |_=>aa
def F3(P:Program)(c:aY)(e:TypeId)(x:Operand)(d:Option Tmp)(K:ah->Prop)(pf:ah):Prop:=
 match tk P e,eB (cX P e) pf x,d with
 |some _,J (y,aR),J d=>wA pf x=aa/\kg y=Z/\ic c d .skip=Z/\if c.hp.contains d=Z then(if c.fz.contains d=Z then K ((aR.put d (.v (.bx (cR y)))).put d (.v (drop (.bx (cR y)))))else K (aR.put d (.v (.bx (cR y)))))else K (aR.put d (.bl (cR y)))
 |_,_,_=>False
def Bz(c:aY):Option Tmp->Bool
 |some d=> !c.hp.isEmpty&&c.fz.contains (d+5*c.nt)
 |none=>aa
def Ea(pf:ah)(t s:Nat):aC->Nat->Nat->PF->Option (PF×ah)
 |[],0,0,.bl row=>J (.rf s [],((pf.bY s (.v (.bx row))).kill s 0).put t (.rf s []))
 |_,_,_,_=>ae
def tS(c:aY)(t:Nat)(d:Option Tmp)(K:ah->Prop)(pf:ah):PF->Prop
 | .v x=>dB x=aa/\if bN x=Z then dI c K d (.rf t []) pf else dI c K d (.v x) pf
 | .ls es rows=>t<c.nt/\dI c K d (.rf t []) ((pf.bY t (.v (.sl Z es rows))).kill t 0)
 | .bl _=>dI c K d (.pt t [] 0 0) pf
 | .skip=>False
 | .as .. =>False
 | .pt s p i j=>if Bz c d=Z then match Ea pf t s p i j (pf s)with
  |some y=>dI c K d y.1 y.2
  |none=>False
  else dI c K d (.pt s p i j) pf
 |y=>dI c K d y pf
def tu(e:Nat)(c:aY)(x:Operand)(d:Option Tmp)(K:ah->Prop)(pf:ah):Prop:=
 match x with
 | .tmp t=>tS c t d K pf (pf t)
 |x=>match eB e pf x with
  |some (y,aR)=>dI c K d (.v y) aR
  |none=>False
def Gj(e:Nat)(c:aY)(x:Operand)(d:Option Tmp)(K:ah->Prop)(pf:ah):Prop:=
 match CJ c pf d x with
 |some y=>dI c K d y pf
 |none=>match eB e pf x with
  |some (y,aR)=>dI c K d (.v y) aR
  |none=>False
section
variable {nt:Nat}{pin:List (Nat×Value)}{E0 E E':Env}{pf:ah}{fr ak:FR}{c:aY}{P:Program}
variable{K:ah->Prop}{K':FR->AH->Prop}{a x:Operand}{d:Option Tmp}{fv:FV}{o:Oper}{p:aC}{s:Nat}{t:TypeId}
def Gi{x:Bool×Nat}(h:tk P t=J x):∃r,cF P t=J (x.1,x.2,r):=by
 simp only[tk,bP]at h;obtain⟨⟨a,b,cc⟩,h1,rfl⟩:=h;exact⟨cc,h1⟩
def zBi{x:List PV}(h:zr P t=J x):∃g s b z,cF P t=J (g,s,b,z)/\z.all cz=Z/\x=zz P t z:=by
 simp only[zr,bW]at h;obtain⟨⟨a,b,cc,z⟩,h1,h2⟩:=h;split at h2
 ·rename_i hz;simp only[aT]at h2;exact⟨a,b,cc,z,h1,hz,h2.symm⟩
 ·cases h2
def G2:∀{n:Nat}{cs:List Value},n<=cs.length->uy n cs=J (cs.take n):=by
 intro n;induction n with
 |zero=>intro cs _;simp[uy]
 |succ n ih=>
  intro cs h;cases cs with
  |nil=>simp at h
  |cons c cs=>simp[uy,ih (by simpa using h)]
def wg(fr:FR)(H:AH):FV->Option (List Value)
 | .lp s o=>match fr s with
  | .loc cells=>J (cells.drop o)
  |_=>ae
 | .v (.pointer (J ⟨id,off,ae⟩))=>H.load id off
 |_=>ae
def Xw{H:AH}(h:bO fr a=J fv):mN fr H a=wg fr H fv:=by
 unfold mN wg;rw[h];cases fv with
 |v x=>
  cases x with
  |pointer p=>
   cases p with
   |none=>rfl
   |some a=>obtain⟨b,o,sp⟩:=a;cases sp<;>rfl
  |_=>rfl
 |_=>rfl
def zy6(r:av nt pin E0 E pf fr){i j:Nat}{row:List PV}(h:Ie E fr s p i j fv)(hr:J4 pf s p i=J row):
 ∃cs,wg fr E.H fv=J cs/\∀q,j+q<row.length->∃y,cs[q]? =J y/\Wk E fr s (p++[(i,j+q)]) y:=by
 obtain⟨z,hz,en⟩:=bW.1 hr;rcases h with⟨cells,h1,rfl,rfl,rfl⟩|⟨v0,id,o,hw,hd,rfl⟩
 ·have hlen:row.length=cells.length:=by
   have hf:=r.f s;simp only[cn,bW]at hz;obtain⟨x0,g1,g2⟩:=hz;simp only[jb,aT]at g2;subst g2;cases fW:pf s with
   |bl tE=>
    rw[fW]at hf g1;obtain⟨dF,c1,c2,_⟩:=hf;rw[h1]at c1;cases c1;simp only[fV,aT]at g1;subst g1;simp only[lL,e9,aT]at en;subst en;exact c2
   |v y=>
    rw[fW]at hf g1;simp only[fV,aT]at g1;subst g1;obtain⟨w,e,_⟩:=gA hf (by rintro rfl;simp[lL]at en);rw[h1]at e;cases e
   |_=>rw[fW]at g1;simp[fV]at g1
  refine⟨cells.drop j,by simp[wg,h1],λq hq=>?_⟩;have hlt:j+q<cells.length:=by omega
  refine⟨cells[j+q],?_,.inr ⟨cells,j+q,[],_,h1,rfl,cJ hlt,rfl⟩⟩;rw[jw,cJ hlt]
 ·obtain⟨v',w1,w2⟩:=r.at hz (by rintro rfl;simp[lL]at en) (jn r hw hz);have:=w1.same hw;subst this;cases w2 with
  | @fK _ Eh off es n cc k rows how hG hb bc hn hc hm hrr hl hh=>
   cases hd with
   |sl Ka Kp hi=>
   simp only[lL]at en;have hes:=hrr row (eA en);refine⟨k.cells.drop (off+i*es+j),by simp[wg,AH.load,hb],λq hq=>?_⟩;have h5:(i+1)*es<=cc*es:=gO _ (by omega);rw[km]at h5;have hlt:off+i*es+j+q<k.cells.length:=by omega
   refine⟨k.cells[off+i*es+j+q],by rw[jw,cJ hlt],hw.snoc ⟨_,off+i*es,k,_,.sl (j:=j) how hG hi,?_,hb,by rw[<-jc];exact cJ hlt,rfl⟩⟩;rintro bA ⟨_,_,_,e⟩;cases e;omega
  | @bx _ Eh k tE how hG hb bc hl hh=>
   cases hd with
   |bx Ka Kp=>
   simp only[lL,e9,aT]at en;subst en;refine⟨k.cells.drop (0+j),by simp[wg,AH.load,hb],λq hq=>?_⟩;have hlt:j+q<k.cells.length:=by omega
   refine⟨k.cells[j+q],by rw[jw,gE,cJ hlt],hw.snoc ⟨_,0,k,_,.bx how hG,?_,hb,by rw[gE];exact cJ hlt,rfl⟩⟩;rintro bA ⟨_,_,_,e⟩;cases e
  |sl0 ob es=>cases hd
  |_=>simp[lL]at en
def Tt(r:av nt pin E0 E pf fr){i q:Nat}{row:List PV}{x:PV}{y:Value}(hr:J4 pf s p i=J row)(hx:row[q]? =J x)(hw:Wk E fr s (p++[(i,q)]) y):PR E (J (s,p++[(i,q)])) x y:=by
 by_cases hj:x=.ax
 ·subst hj;exact .ax y
 ·obtain⟨v',w1,w2⟩:=r.at (s:=s) (p:=p++[(i,q)]) (by rw[Vu hr];exact hx) hj (.inl P2);rw[w1.same hw]at w2;exact w2
def KD{y:PF}(hy:∀s p,y≠.rf s p)(h:Fp c K d y pf):dI c K d y pf:=by
 cases y with
 |rf s p=>exact absurd rfl (hy s p)
 |_=>exact h
def zua(r:av c.nt pin E0 E pf fr)(hp:eG c pin)(h:Fy P c t a d K pf)
(hk:∀pf' ak E',K pf'->av c.nt pin E0 E' pf' ak->K' ak E'.H):match nx P t (mN fr E.H a)with|some v=>bC c.nt K' d (.v v) fr E.H|none=>False:=by
 unfold Fy at h;split at h
 ·rename_i y hy;simp only[bW]at hy;obtain⟨tz,DM,ad,kF,g9⟩:=hy;obtain⟨fv,kL,d7⟩:=LU r kF;rw[Xw kL];obtain⟨dH,ht⟩:=Gi DM;obtain⟨g,sz⟩:=tz;simp only at ht;cases ad with
  |pl s p i j=>
   obtain⟨hs,aF⟩:=d7;simp only[Dn,bW]at g9;obtain⟨row,en,g9⟩:=g9;obtain⟨cs,dX,BN⟩:=zy6 r aF en;rw[dX];cases g with
   |true=>
    simp only[DY]at g9;split at g9
    ·rename_i da;simp only[aT]at g9
     have hlen:sz<=cs.length:=by
      rcases V0 sz with h0|h0
      ·omega
      ·obtain⟨y,h1,_⟩:=BN (sz-1) (by omega);have:=(cY.1 h1).1;omega
     simp only[nx,ht,G2 hlen,mA]
     have hq:∀(q:Nat) (y:Value),(cs.take sz)[q]? =J y->q<sz/\Wk E fr s (p++[(i,j+q)]) y:=by
      intro q y hq;rw[mu]at hq;split at hq
      ·rename_i hlt;obtain⟨y',h1,h2⟩:=BN q (by omega);rw[h1]at hq;cases hq;exact⟨hlt,h2⟩
      ·cases hq
     split at g9
     ·rename_i ho;subst g9;have eI:sz≠0:=by rintro rfl;simp at ho
      exact jQ r hp (y:=.ra s p i j sz) rfl hs ⟨_,rfl,⟨by simp;omega,eI⟩,λq y h1=>(hq q y (by simpa using h1)).2⟩ (KD (by intro s p e;cases e) h) hk
     ·rename_i ho;subst g9;refine g8 r hp (PR.up (.agg (by simp;omega) λq x y h1 h2=>?_)) (KD (by intro s p e;cases e) h) hk;have h2:=hq q y (by simpa using h2);rw[mu,aD h2.1,jw]at h1;refine(Tt r en h1 h2.2).free ?_
      have:=L2.1 (by simpa using ho) x (by
       rw[List.mem_iff_getElem?]
       exact⟨q,by rw[mu,aD h2.1,jw];exact h1⟩)
      simpa using this
    ·cases g9
   |false=>
    simp only[DY]at g9;split at g9
    ·rename_i x a2V A9;simp only[aT]at g9
     have hx:row[j]? =J x:=by
      have:(row.drop j)[0]? =J x:=by rw[A9];rfl
      rw[jw]at this;exact this
     obtain⟨y',h1,h2⟩:=BN 0 (by have:=(cY.1 hx).1;omega);rw[rQ]at h2;cases cs with
     |nil=>simp at h1
     |cons c0 cs=>
      simp at h1;subst h1;simp only[nx,ht];split at g9
      ·subst g9;simp only[Fp,BV]at h;split at h
       ·rename_i z hz;split at hz
        ·simp only[bW]at hz;obtain⟨x0,dD,hz⟩:=hz;split at hz
         ·cases hz
         ·rename_i hj0;simp only[bP]at hz;obtain⟨pf',Rq,rfl⟩:=hz;have uf:=oT (x:=x0) (by simpa using hj0);obtain⟨v0,E1,w1,w2,w3,w4⟩:=r.P5 (fl:=[]) (λk x v h=>by simp at h) hs dD uf (.inl (by simp)) Rq;have ev:=w1.same h2;subst ev;have:=g8 w3 hp (w4 0 x0 v0 rfl) h hk;rw[w2]at this;exact this
        ·cases hz;exact jQ r hp (y:=.rf s (p++[(i,j)])) rfl hs ⟨_,rfl,h2⟩ h hk
       ·cases h
      ·rename_i ho;subst g9;exact g8 r hp ((Tt r en hx h2).free (by simpa using ho)).up (KD (by intro s p e;cases e) h) hk
    ·cases g9
  |fz row=>
   obtain⟨v,rfl,hv⟩:=d7;cases hv with
   | @fp _ id off k _ hG hb hl hh=>
   simp only[Dn]at g9;have dX:wg fr E.H (.v (.pointer (J ⟨id,off,ae⟩)))=J (k.cells.drop off):=by simp[wg,AH.load,hb]
   rw[dX];cases g with
   |true=>
    simp only[Fb]at g9;split at g9
    ·rename_i da;simp only[aT]at g9;subst g9;have hlen:sz<=(k.cells.drop off).length:=by simp;omega
     simp only[nx,ht,G2 hlen,mA];refine g8 r hp (PR.up (.agg (by simp;omega) λq x y h1 h2=>?_)) (KD (by intro s p e;cases e) h) hk;have h2:((k.cells.drop off).take sz)[q]? =J y:=by simpa using h2
     rw[mu]at h1 h2;split at h1
     ·rename_i hlt;rw[aD hlt,jw]at h2;exact hh q x y h1 h2
     ·cases h1
    ·cases g9
   |false=>
    simp only[Fb]at g9;split at g9
    ·rename_i x a2V;simp only[aT]at g9;subst g9;have hlt:off<k.cells.length:=by simp at hl;omega
     rw[Qh hlt];simp only[nx,ht];exact g8 r hp (PR.up (hh 0 x _ rfl (cJ hlt))) (KD (by intro s p e;cases e) h) hk
    ·cases g9
 ·split at h
  ·rename_i y hy;unfold KC at hy;split at hy
   ·rename_i u _;simp only[bW]at hy;obtain⟨⟨g,sz⟩,DM,hy⟩:=hy;obtain⟨dH,ht⟩:=Gi DM;split at hy
    ·rename_i hg;simp only at hg ht;subst hg;have hf:=r.f u;unfold Mh at hy;split at hy
     ·rename_i s p i j n EE;simp only[aT]at hy;subst hy;rw[EE]at hf;obtain⟨id,off,k,v,h1,hG,hb,hc,hw⟩:=hf;have hs:=r.rt u s (by rw[EE];rfl);rw[Xw (fv:=.v (.pointer (J ⟨id,off,ae⟩))) (by simp[bO,h1])];have dX:wg fr E.H (.v (.pointer (J ⟨id,off,ae⟩)))=J (k.cells.drop off):=by simp[wg,AH.load,hb]
      rw[dX];obtain⟨hlt,rfl⟩:=cY.1 hc;rw[Qh hlt];simp only[nx,ht];exact jQ r hp (y:=.rf s (p++[(i,j)])) rfl hs ⟨_,rfl,hw⟩ h hk
     ·cases hy
    ·cases hy
   ·cases hy
  ·cases h
def Ug{l:Lo}{x:PV}{v:Value}(h:PR E l x v)(hx:qT x=Z):l8 v=Z:=by
 cases h<;>first|rfl|cases hx
def ztw(r:av c.nt pin E0 E pf fr)(ho:o.op=.store t a x)(h:FU P c t a x o.dst K pf)
(hk:∀pf' ak E',K pf'->av c.nt pin E0 E' pf' ak->K' ak E'.H):aP P c.nt o K' fr E.H:=by
 unfold FU at h;split at h
 ·rename_i g sz y aR DM jD;obtain⟨dH,ht⟩:=Gi DM;simp only at ht;obtain⟨h1,h2,h3⟩:=h;simp only[F8,bK,eO]at h1;obtain⟨⟨⟨k1,k2⟩,k3⟩,k4⟩:=h1;obtain⟨v,fr1,H1,E1,m1,e1,r1,f1⟩:=wb r (fl:=[]) (λk x v h=>by simp at h) jD;have hfl:PR E1 (J (c.nt,[(0,0)])) y v:=f1 0 y v rfl;obtain⟨c1,c2,c3⟩:=C3 (E':=E1.rl (iU (c.nt,[(0,0)]) (0,[]) 0 0 y)) (b:=(0,[])) (i:=0) (j:=0) hfl k1 dU λa b h=>lF h
  have AB:v.cells.toList.all l8=Z:=by
   rw[bm]at k4⊢;intro w hw;obtain⟨q,hq⟩:=Qi hw;have hlt:q<(cR y).length:=by have:=(cY.1 hq).1;omega
   exact Ug (c2 q _ w (cJ hlt) hq) (k4 _ (fm hlt))
  have hne:cR y≠[]:=λe=>k3 (by rw[<-k2,e];rfl)
  unfold Hc at h3;split at h3
  ·rename_i s p i j kF;split at h3
   ·rename_i b7 dv;obtain⟨fv,kL,hs,aF⟩:=LU r1 kF;obtain⟨dN,H2,E2,dO,e2,r2⟩:=r1.storeAt hs hfl k1 hne aF dv;have hK:=hk b7 dN E2 h3 r2;unfold aP;rw[ho];simp only[m1,ht];rw[aD ⟨c3,by rw[<-c1,k2],k3,AB⟩,kL,h2];rw[e2]at hK;rcases dO with⟨s',off,cells,cs,rfl,g1,g2,rfl,rfl⟩|⟨id,off,k,cs,rfl,g1,g2,g3,rfl,rfl⟩
    ·simp only[g1,g2,bC];rw[e1]at hK;exact hK
    ·rw[e1]at g1 hK;simp only[g1,g2,e9,g3,bC];exact hK
   ·cases h3
  ·cases h3
 ·cases h
def zve{x:Option AD}(h:Gn c K d pf x):∃ad,x=J ad/\dI c K d (uM ad) pf:=by
 cases x with
 |none=>cases h
 |some ad=>exact⟨ad,rfl,h⟩
def ztn(r:av c.nt pin E0 E pf fr)(hp:eG c pin){s:TypeId}{f:Nat}(ho:o.op=.fieldAddr s x f)(h:Zo P c s x f o.dst K pf)
(hk:∀pf' ak E',K pf'->av c.nt pin E0 E' pf' ak->K' ak E'.H):aP P c.nt o K' fr E.H:=by
 obtain⟨JU,kF,dv⟩:=zve h;simp only[bW]at kF;obtain⟨⟨off,sz⟩,hfo,ad,kF,a3A⟩:=kF;obtain⟨fv,kL,d7⟩:=LU r kF;unfold aP;rw[ho];simp only[iN,hfo,kL];rcases zoV d7 a3A with⟨t,of,rfl,h2⟩|⟨id,of,rfl,h2⟩
 ·exact Ad r hp h2 dv hk
 ·exact Ad r hp h2 dv hk
def zyi{ad:AD}(h:GH nt E fr fv ad):(∃s o,fv=.lp s o)\/∃a,fv=.v (.pointer (J a)):=by
 cases ad with
 |pl s p i j=>
  rcases h.2 with⟨cells,h1,h2,h3,rfl⟩|⟨v0,id,o,h1,h2,rfl⟩
  ·exact .inl ⟨_,_,rfl⟩
  ·exact .inr ⟨_,rfl⟩
 |fz row=>
  obtain⟨v,rfl,hv⟩:=h;obtain⟨id,off,rfl⟩:=zyu hv;exact .inr ⟨_,rfl⟩
def zwF(r:av c.nt pin E0 E pf fr)(hp:eG c pin)(ho:o.op=.nilCheck x)(h:YB c x o.dst K pf)
(hk:∀pf' ak E',K pf'->av c.nt pin E0 E' pf' ak->K' ak E'.H):aP P c.nt o K' fr E.H:=by
 obtain⟨ad,kF,dv⟩:=zve h;obtain⟨fv,kL,d7⟩:=LU r kF;unfold aP;rw[ho];simp only[iN,kL];rcases zyi d7 with⟨s,of,rfl⟩|⟨a,rfl⟩
 ·exact Ad r hp d7 dv hk
 ·exact Ad r hp d7 dv hk
def T2{es:Nat}(h:ma P t=J es):∃e g r,cW P t=J e/\cF P e=J (g,es,r):=by
 unfold ma at h;cases he:cW P t with
 |none=>rw[he]at h;cases h
 |some e=>
  rw[he]at h;simp only[aS]at h;cases hz:cF P e with
  |none=>rw[hz]at h;cases h
  |some z=>
   rw[hz]at h;obtain⟨g,bA,r⟩:=z;simp only[mA,aT]at h;subst h;exact⟨e,g,r,rfl,hz⟩
def zzo{len es:Nat}(h:JA P t=J (len,es)):∃e g r,Bo P t=J (len,e)/\cF P e=J (g,es,r):=by
 unfold JA at h;cases he:Bo P t with
 |none=>rw[he]at h;cases h
 |some e=>
  obtain⟨n,e⟩:=e;rw[he]at h;simp only[aS]at h;cases hz:cF P e with
  |none=>rw[hz]at h;cases h
  |some z=>
   rw[hz]at h;obtain⟨g,bA,r⟩:=z;simp only[mA,aT,cg]at h;obtain⟨rfl,rfl⟩:=h;exact⟨e,g,r,rfl,hz⟩
def zCS(nt:Nat)(E:Env)(fr:FR)(v:Value):SB->Prop
 | .own s p lo n es=>s<nt/\((n=0)\/∃id off m cc cw,Wk E fr s p (.slice (J ⟨id,off,J es⟩) m cc)/\E.ow id=J (s,p)/\¬E.G id/\lo+n<=m/\v=.slice (J ⟨id,off+lo*es,J es⟩) n cw)
 | .fz es rows=>PR E ae (.sl aa es rows) v
def zro{x:PV}{v:Value}{sb:SB}(hs:s<nt)(h:tO s p x=J sb)(hw:Wk E fr s p v)(hx:PR E (J (s,p)) x v):zCS nt E fr v sb:=by
 unfold tO at h;split at h
 ·rename_i es rows;simp only[aT]at h;subst h;refine⟨hs,?_⟩;cases hx with
  |sl0 _ _=>exact .inl rfl
  | @fK _ id off es n cc k rows how hG hb bc hn hc hm hr hl hh=>exact .inr ⟨id,off,n,cc,cc,hw,how,hG,by omega,by rw[hn];simp⟩
 ·simp only[aT]at h;subst h;exact hx.free (by simp[bN])
 ·cases h
def zxF(r:av nt pin E0 E pf fr){sb:SB}(h:EF pf x=J sb):∃v,bO fr x=J (.v v)/\zCS nt E fr v sb:=by
 cases x with
 |tmp t=>
  simp only[EF]at h;have hf:=r.f t
  have ht:t<nt:=by
   rcases dQ t nt with h1|h1
   ·exact h1
   ·rw[r.hi t h1]at h;simp[uE,jP,tO]at h
  cases aF:pf t with
  |v x=>
   rw[aF]at h hf;simp only[uE]at h;obtain⟨v,h1,h2⟩:=gA hf (by rintro rfl;simp[tO]at h);exact⟨v,by simp[bO,h1],zro ht h (.inl ⟨v,h1,rfl⟩) h2⟩
  |rf s p=>
   rw[aF]at h hf;simp only[uE,bW]at h;obtain⟨x,hx,h⟩:=h;obtain⟨v,h1,h2⟩:=hf;obtain⟨v',w1,w2⟩:=r.at hx (by rintro rfl;simp[tO]at h) (jn r h2 hx);have:=w1.same h2;subst this;exact⟨v',by simp[bO,h1],zro (r.rt t s (by rw[aF];rfl)) h h2 w2⟩
  |rv s p lo hi=>
   rw[aF]at h hf;simp only[uE,bW]at h;obtain⟨x,hx,h⟩:=h;have hs:=r.rt t s (by rw[aF];rfl);unfold Kt at h;split at h
   ·rename_i es rows;split at h
    ·rename_i hb;simp only[aT]at h;subst h;rcases hf with⟨h1,h2,rfl,rfl⟩|⟨id,off,bA,n,cc,h1,h2,h3,h4⟩
     ·exact⟨.slice ae 0 0,by simp[bO,h2],hs,.inl (by omega)⟩
     ·obtain⟨v',w1,w2⟩:=r.at hx (by simp) (jn r h1 hx);have:=w1.same h1;subst this;have ee:=AW w2;subst ee;refine⟨.slice (J ⟨id,off+lo*es,J es⟩) (hi-lo) (cc-lo),by simp[bO,h4],hs,?_⟩;cases w2 with
      |fK how hG hb bc hn hc hm hr hl hh=>exact .inr ⟨_,_,_,_,_,h1,how,hG,by omega,rfl⟩
    ·cases h
   ·rename_i es rows;split at h
    ·rename_i hb;simp only[aT]at h;subst h;rcases hf with⟨h1,h2,rfl,rfl⟩|⟨id,off,bA,n,cc,h1,h2,h3,h4⟩
     ·exact⟨.slice ae 0 0,by simp[bO,h2],by show PR E ae (.sl aa es _) _;simpa using PR.sl0 (E:=E) (l:=ae) aa es⟩
     ·obtain⟨v',w1,w2⟩:=r.at hx (by simp) (jn r h1 hx);have:=w1.same h1;subst this;have ee:=AW w2;subst ee;obtain⟨_,_,_,e3⟩:=w2.cut h2 h3;exact⟨.slice (J ⟨id,off+lo*es,J es⟩) (hi-lo) (cc-lo),by simp[bO,h4],e3.free (by simp[bN])⟩
    ·cases h
   ·cases h
  |_=>rw[aF]at h;simp[uE]at h
 |_=>simp[EF]at h
def av.a33(r:av nt pin E0 E pf fr){u n:Nat}{cs:List Value}(hu:u<nt)(hf:fr u=.ls n 1 cs):
 ∃E',av nt pin E0 E' (pf.put u jP) (fr.put u (.v (.slice (J ⟨E.H.n,0,J 1⟩) n n)))/\E'.H=E.H.push ⟨Z,cs⟩/\E'.G E.H.n/\∀s,s<nt->s≠u->dC E E' (J (s,[])) (J (s,[])):=by
 have ok:=r.ok;have jY:∀v,(u,v)∉pin:=λv hv=>by have:=r.pin u v hv;rw[hf]at this;cases this
 let E1:=E.push ⟨Z,cs⟩ (u,[]) λ_=>ae
 have r1:av nt pin E0 E1 (pf.put u jP) (fr.put u (.v (.slice (J ⟨E.H.n,0,J 1⟩) n n))):=
  r.set hu jY ok.nw (λs _ _=>ok.nL λ_=>rfl) ok.wM ok.push.wf ok.push.fresh yt λs hs=>by simp[jP,bE]at hs
 have r2:=r1.set (fv:=.v (.slice (J ⟨E.H.n,0,J 1⟩) n n)) (y:=jP) hu jY (p9 (a:=(u,[]))) (λs _ hs=>Bb hs) Gv ok.push.fz.wf ok.push.fz.fresh yt λs hs=>by simp[jP,bE]at hs
 have e1:(fr.put u (.v (.slice (J ⟨E.H.n,0,J 1⟩) n n))).put u (.v (.slice (J ⟨E.H.n,0,J 1⟩) n n))=fr.put u (.v (.slice (J ⟨E.H.n,0,J 1⟩) n n)):=by
  funext t;simp only[FR.put];split<;>rfl
 have e2:(pf.put u jP).put u jP=pf.put u jP:=by
  funext t;simp only[ah.put];split
  ·rfl
  ·by_cases h2:bE (pf t)=J u
   ·rw[show fS u (pf t)=jP from aD h2];simp[fS,jP,bE]
   ·rw[show fS u (pf t)=pf t from aB h2,show fS u (pf t)=pf t from aB h2]
 rw[e1,e2]at r2;refine⟨_,r2,rfl,.inr ⟨[],by simpa using zhD⟩,λs hs NQ id q h1 h2=>?_⟩;obtain⟨a1,a2,a3⟩:=(ok.nL (bl:=⟨Z,cs⟩) (n:=(u,[])) (f:=λ_=>ae) (a:=(s,[])) λ_=>rfl:dC E E1 (J (s,[])) (J (s,[]))) id q h1 h2;obtain⟨b1,b2,b3⟩:=(Bb (E:=E1) (a:=(u,[])) (c:=(s,[])) NQ) id q a1 a2;exact⟨b1,b2,b3.trans a3⟩
def zwk(r:av c.nt pin E0 E pf fr)(hp:eG c pin){i:Operand}{y:PF×ah}(ho:o.op=.indexAddr t x i)(hy:Hw P t x i pf=J y)(h:dI c K o.dst y.1 y.2)
(hk:∀pf' ak E',K pf'->av c.nt pin E0 E' pf' ak->K' ak E'.H):aP P c.nt o K' fr E.H:=by
 unfold Hw at hy;split at hy
 ·rename_i u;unfold NT at hy;split at hy
  ·rename_i s p i' j n k q EE hq;split at hy
   ·rename_i hc;obtain⟨hes,hq0,Lt⟩:=hc;simp only[aT]at hy;subst hy;have hf:=r.f u;rw[EE]at hf;obtain⟨vs,h1,h2,h3⟩:=hf
    have hu:u<c.nt:=by
     rcases dQ u c.nt with h4|h4
     ·exact h4
     ·have:=r.hi u h4;rw[EE]at this;cases this
    have hs:=r.rt u s (by rw[EE];rfl);obtain⟨e,g,rr,he,hz⟩:=T2 hes;obtain⟨E',r',eH,hG,hm⟩:=r.a33 hu h1;have hlt:q.toNat<vs.length:=by omega
    have hw:=h3 q.toNat _ (cJ hlt)
    have NQ:s≠u:=by
     rintro rfl;rcases hw with⟨w,g1,_⟩|⟨cc,_,_,_,g1,_⟩<;>rw[h1]at g1<;>cases g1
    have hw':Wk E' (fr.put u (.v (.slice (J ⟨E.H.n,0,J 1⟩) n n))) s (p++[(i',j+q.toNat)]) vs[q.toNat]:=
     hw.eb (KL.J8 (hm s hs NQ)) (cB _) (by simp[FR.put,NQ])
    unfold aP;rw[ho];right;refine⟨u,n,1,vs,k,q,e,g,rr,rfl,h1,qk r hq,he,hz,⟨hq0,Lt⟩,?_⟩;rw[<-eH];refine jQ r' hp (y:=.as Z s p i' (j+q.toNat) 1) rfl hs ⟨E.H.n,q.toNat*1,⟨Z,vs⟩,vs[q.toNat],rfl,hG,by rw[eH];simp[AH.push],by simp[hlt],hw'⟩ h hk
   ·cases hy
  ·cases hy
 ·cases hy
def zt4(r:av c.nt pin E0 E pf fr)(hp:eG c pin){i:Operand}(ho:o.op=.indexAddr t x i)(h:Hg P c t x i o.dst K pf)
(hk:∀pf' ak E',K pf'->av c.nt pin E0 E' pf' ak->K' ak E'.H):aP P c.nt o K' fr E.H:=by
 unfold Hg at h;split at h
 case h_2=>
  split at h
  ·rename_i y hy;exact zwk r hp ho hy h hk
  ·cases h
 rename_i ad kF;have dv:=h;unfold AZ at kF;split at kF
 ·rename_i eW hes;simp only[bW]at kF;obtain⟨sb,hsb,jm⟩:=kF;unfold Me at jm;split at jm
  ·rename_i q j hj;have yE:=qk r hj;obtain⟨v,kL,d7⟩:=zxF r hsb;obtain⟨e,g,rr,he,hz⟩:=T2 hes;unfold aP;rw[ho];left;cases sb with
   |own s p lo n es=>
    simp only[Fo]at jm;split at jm
    ·rename_i hb;obtain⟨rfl,eS,gv⟩:=hb;simp only[aT]at jm;subst jm;obtain⟨hs,d7⟩:=d7;rcases d7 with d7|⟨id,off,m,cc,cw,w1,w2,w3,w4,rfl⟩
     ·omega
     ·simp only[iN,kL,yE,he,hz];rw[aD ⟨trivial,eS,gv⟩];refine Ad r hp (ad:=.pl s p (lo+j.toNat) 0) ⟨hs,.inr ⟨_,id,_,w1,.sl (j:=0) w2 w3 (by omega),?_⟩⟩ dv hk;rw[oz,rQ,jc]
    ·cases jm
   |fz es rows=>
    simp only[Fo]at jm;split at jm
    ·rename_i hb;obtain⟨rfl,eS⟩:=hb;simp only[bP]at jm;obtain⟨row,en,rfl⟩:=jm;have hlt:j.toNat<rows.length:=(cY.1 en).1;cases d7 with
     |sl0 _ _=>simp at hlt
     | @jZ _ id off es n cc k rows hG hb hn hc hm hr hl hh=>
      simp only[iN,kL,yE,he,hz];rw[aD ⟨trivial,eS,by omega⟩];refine Ad r hp (ad:=.fz row) ⟨_,rfl,.fp hG hb ?_ λq x y g1 g2=>hh j.toNat row q x y en g1 g2⟩ dv hk;have si:=hr row (eA en);have h5:(j.toNat+1)*es<=n*es:=gO _ (by omega);rw[km]at h5;omega
    ·cases jm
  ·cases jm
 ·rename_i hes;split at kF
  ·rename_i len es ha;simp only[bW]at kF;obtain⟨ad,kF,jm⟩:=kF;unfold Ok at jm;split at jm
   ·rename_i q j hj;split at jm
    ·rename_i hb;have yE:=qk r hj;obtain⟨fv,kL,d7⟩:=LU r kF;obtain⟨e,g,rr,he,hz⟩:=zzo ha;unfold aP;rw[ho];left;rcases zoV d7 jm with⟨t',of,rfl,h2⟩|⟨id,of,rfl,h2⟩
     ·simp only[iN,kL,yE,he,hz];rw[aD hb];exact Ad r hp h2 dv hk
     ·simp only[iN,kL,yE,he,hz];rw[aD hb];exact Ad r hp h2 dv hk
    ·cases jm
   ·cases jm
  ·cases kF
end
end Go.Pm
