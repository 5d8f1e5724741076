/-
  FnStages: plain laws.
  No condition.
-/
import Derived.Test.YtnojafnlicbhpaaGreatY41b
open Bool renaming false→aa,true→Z
open Option renaming some→J
set_option linter.defProp false
namespace Go.Pm
open Go.Am IntKind
set_option linter.unusedVariables false
set_option linter.unusedSimpArgs false
variable{code:List Int}{gr:am}{key:Int}{l:List an}{s:en}
def W9(gr:am)(hg:Dg gr)(key:Int)(hl:l.length<=13)(arg:Int)(perm aH:List Int):
 ∃s t,tV gr key l arg perm aH=J (s,t)/\sV gr key l arg perm aH=J (s,t)/\(t=aa->s=mQ)/\(t=Z->T4 gr key l arg s):=by
 have gI:tt gr key l=J (⟨0,[]⟩,aa)->tV gr key l arg perm aH=J (mQ,aa):=λh=>by
  unfold tV;rw[h];rfl
 have gS:p7 gr key l=J aa->sV gr key l arg perm aH=J (mQ,aa):=λh=>by
  unfold sV tc;rw[Ra arg (by omega),h];cases (cX 1 12 l.length&&kQ arg)<;>rfl
 by_cases hk:ao gr
 ·have hq:=hk.q;have hp:=hk.p;obtain⟨B,b1,b2,b3⟩:=NZ hk (hg hk) (n:=l.length) hl;have B2:=vf hk key l b2;have uH:=vj hk key l;cases hm:fG gr key l with
  |false=>
   rw[hm]at B2;rw[show(aK gr key&&(cX 1 12 l.length&&l.all (b8 gr)))=fG gr key l from rfl,hm]at uH;exact⟨mQ,aa,gI B2,gS uH,λ_=>rfl,by simp⟩
  |true=>
   rw[hm,aB rfl]at B2;rw[show(aK gr key&&(cX 1 12 l.length&&l.all (b8 gr)))=fG gr key l from rfl,hm]at uH
   have hn:cX 1 12 (l.length:Int)=Z:=by
    unfold fG at hm;simp only[bI]at hm;exact hm.2.1
   have PE:=Vi.1 hn
   have T1:tc gr key l=J Z:=by
    unfold tc;rw[uH,aR,az (by simp),b1];rfl
   have V4:=Ra arg (n:=l.length) (by omega);rw[hn,gV]at V4;have Pe:=zEV arg (n:=l.length) (by omega);have a1W:=zq (gr:=gr) (by omega) (by omega) aH
   have hS:sV gr key l arg perm aH=if(kQ arg&&(decide (perm.length=l.length)&&((decide (perm.length<=24)&&d5 perm)&&(decide (aH.length=my arg l.length)&&aH.all (di gr)))))=Z then(zi gr key l arg perm aH).bind λz=>J (z,Z)else J (mQ,aa):=by
    have e1:((perm.length:Int) !=(l.length:Int))= !decide (perm.length=l.length):=by
     by_cases h:perm.length=l.length
     ·rw[t6 h,h];simp
     ·rw[De h];simp;omega
    have e2:((aH.length:Int) !=((my arg l.length:Nat):Int))= !decide (aH.length=my arg l.length):=by
     by_cases h:aH.length=my arg l.length
     ·rw[t6 h,h];simp
     ·rw[De h];simp;omega
    unfold sV;rw[V4,T1,zBx,a1W];generalize zi gr key l arg perm aH=X;cases ha:kQ arg with
    |false=>rfl
    |true=>
     simp only[eP,aR,wd,p8,l7,e1,e2,gV];cases decide (perm.length=l.length)<;>cases (decide (perm.length<=24)&&d5 perm)<;>cases decide (aH.length=my arg l.length)<;>cases aH.all (di gr)<;>rfl
   cases ha:kQ arg with
   |false=>
    rw[ha,a0t,az (by simp)]at hS;refine⟨mQ,aa,?_,hS,λ_=>rfl,by simp⟩;unfold tV;rw[B2,Kr,ha];rfl
   |true=>
    rw[ha,gV]at hS;by_cases hc:aH.length=my arg l.length
    ·have Y7:l.length<=aH.length:=by rw[hc];unfold my;split<;>omega
     have CA:=yP hk (n:=l.length) (by omega) perm (aH.take l.length);rw[show(decide (perm.length=l.length)&&d5 perm&&(decide ((aH.take l.length).length=l.length)&&(aH.take l.length).all (di gr)))=kd gr l.length perm (aH.take l.length)from rfl]at CA;have MO:((aH.length:Int) !=((my arg l.length:Nat):Int))=aa:=by rw[hc];simp
     have Qa:aH.all (di gr)=((aH.take l.length).all (di gr)&&(aH.drop l.length).all (di gr)):=by
      rw[<-kq,Df]
     have zx:(aH.take aH.length).drop l.length=aH.drop l.length:=by rw[f6]
     have hdl:(aH.drop l.length).length=my arg l.length-l.length:=by rw[OJ,hc]
     have h9:decide ((aH.take l.length).length=l.length)=Z:=t6 (by rw[nv];omega);cases zP:kd gr l.length perm (aH.take l.length)with
     |false=>
      rw[zP]at CA;refine⟨mQ,aa,?_,?_,λ_=>rfl,by simp⟩
      ·unfold tV;rw[B2,Kr,ha,Pe];simp only[aR,wd,p8,l7,MO,QD,CA,eE (show(0:Int)<=(l.length:Int)by omega),eE (show 0<=l.length/\l.length<=aH.length by omega),Bool.not_false,eP]
      ·rw[hS,az];rw[Qa];unfold kd at zP;rw[h9]at zP;revert zP;cases decide (perm.length=l.length)<;>cases d5 perm<;>cases (aH.take l.length).all (di gr)<;>simp
     |true=>
      rw[zP]at CA;have m:ni gr key l perm (aH.take l.length):=N3.1 (by rw[hm,zP];rfl);have dN:=m.pl
      have iI:tV gr key l arg perm aH=((if(arg==1)=Z then(pP gr key l perm (aH.take l.length) (aH.drop l.length)).bind λhO=>J (arg,zaR gr key l perm (aH.take l.length),hO.1.cu,hO.1.aF,hO.1.Pi.aC,hO.1.Pi.aW,hO.1.Pi.aD,[],[],[],[],[],[],hO.2)else(rR gr key l perm (aH.take l.length) (aH.drop l.length)).bind λfN=>J (arg,zaR gr key l perm (aH.take l.length),[],[],[],[],[],fN.1.bQ,fN.1.bL,fN.1.aF,fN.1.Pi.aC,fN.1.Pi.aW,fN.1.Pi.aD,fN.2):Option (Int×List an×List Int×List Int×List Int×List Int×List Int×List Int×List Int×List Int×List Int×List Int×List Int×Bool))).bind λdq=>
       if(!dq.2.2.2.2.2.2.2.2.2.2.2.2.2)=Z then J (mQ,aa)else J (en.mk dq.1 dq.2.1 (cH.mk dq.2.2.1 dq.2.2.2.1 (bZ.mk dq.2.2.2.2.1 dq.2.2.2.2.2.1 dq.2.2.2.2.2.2.1)) (ck.mk dq.2.2.2.2.2.2.2.1 dq.2.2.2.2.2.2.2.2.1 dq.2.2.2.2.2.2.2.2.2.1 (bZ.mk dq.2.2.2.2.2.2.2.2.2.2.1 dq.2.2.2.2.2.2.2.2.2.2.2.1 dq.2.2.2.2.2.2.2.2.2.2.2.2.1)),Z):=by
       unfold tV;rw[B2,Kr,ha,Pe];simp only[aR,wd,p8,l7,MO,QD,CA,eE (show(0:Int)<=(l.length:Int)by omega),eE (show 0<=l.length/\l.length<=aH.length by omega),eE (show l.length<=aH.length/\aH.length<=aH.length by omega),RZ hk m,zx]
      have hT:(aH.drop l.length).all (di gr)=Z->sV gr key l arg perm aH=(zi gr key l arg perm aH).bind λz=>J (z,Z):=λhe=>by
       rw[hS,aB];rw[Qa,he,m.re,t6 dN,m.pb,t6 hc,t6 (show perm.length<=24 by omega)];rfl
      have hF:(aH.drop l.length).all (di gr)=aa->sV gr key l arg perm aH=J (mQ,aa):=λhe=>by
       rw[hS,az];rw[Qa,he];simp
      have xS:zi gr key l arg perm aH=((if(arg==1)=Z then(uO gr key l perm (aH.take l.length) (aH.drop l.length)).bind λz6=>J (arg,zaR gr key l perm (aH.take l.length),z6.1.cu,z6.1.aF,z6.1.Pi.aC,z6.1.Pi.aW,z6.1.Pi.aD,[],[],[],[],[],[])else(zl gr key l perm (aH.take l.length) (aH.drop l.length)).bind λz7=>J (arg,zaR gr key l perm (aH.take l.length),[],[],[],[],[],z7.1.bQ,z7.1.bL,z7.1.aF,z7.1.Pi.aC,z7.1.Pi.aW,z7.1.Pi.aD):Option (Int×List an×List Int×List Int×List Int×List Int×List Int×List Int×List Int×List Int×List Int×List Int×List Int))).bind λx4=>
       J (en.mk x4.1 x4.2.1 (cH.mk x4.2.2.1 x4.2.2.2.1 (bZ.mk x4.2.2.2.2.1 x4.2.2.2.2.2.1 x4.2.2.2.2.2.2.1)) (ck.mk x4.2.2.2.2.2.2.2.1 x4.2.2.2.2.2.2.2.2.1 x4.2.2.2.2.2.2.2.2.2.1 (bZ.mk x4.2.2.2.2.2.2.2.2.2.2.1 x4.2.2.2.2.2.2.2.2.2.2.2.1 x4.2.2.2.2.2.2.2.2.2.2.2.2))):=by
       unfold zi;simp only[aR,QD,eE (show(0:Int)<=(l.length:Int)by omega),eE (show 0<=l.length/\l.length<=aH.length by omega),eE (show l.length<=aH.length/\aH.length<=aH.length by omega),Sd hk m,zx]
      have ry:l.length<=20:=by omega
      by_cases h1:arg=1
      ·subst h1;have WZ:(aH.drop l.length).length=4*l.length+4:=by rw[hdl];unfold my;rw[aB rfl];omega
       obtain⟨p,t,p1,p2,p3,p4⟩:=zLy gr key ry perm (aH.take l.length) (aH.drop l.length);rw[aB ND,p1]at iI;cases he:(aH.drop l.length).all (di gr)with
       |false=>
        have ht:t=aa:=by
         cases t with
         |false=>rfl
         |true=>
          have h:=zEr hk b2 m WZ he;rw[p1]at h;cases h
        subst ht;exact⟨mQ,aa,iI,hF he,λ_=>rfl,by simp⟩
       |true=>
        obtain⟨p',q1,q2⟩:=zFf hk b2 b3 m WZ he;rw[p1]at q1;cases q1;have lL:=zC3 ry (p4 rfl);refine⟨⟨1,zaR gr key l perm (aH.take l.length),p,uL⟩,Z,iI,?_,by simp,λ_=>⟨hk,by omega,hm,⟨perm,_,m,rfl⟩,rfl,λ_=>⟨rfl,q2⟩,by simp,ha,?_⟩⟩
        ·rw[hT he,xS,aB ND,p2];rfl
        ·exact⟨lL.1,lL.2.1,⟨lL.2.2.1,lL.2.2.2.1,lL.2.2.2.2⟩,by simp,by simp,by simp,⟨by simp,by simp,by simp⟩⟩
      ·have h2:arg=2:=by
        unfold kQ at ha;simp only[tZ,wa]at ha;exact ha.resolve_left h1
       subst h2;have hl8:(aH.drop l.length).length=8*l.length+2:=by rw[hdl];unfold my;rw[az h1];omega
       obtain⟨p,t,p1,p2,p3,p4⟩:=zK7 gr hg key hl perm (aH.take l.length) (aH.drop l.length);rw[az mB,p1]at iI;cases he:(aH.drop l.length).all (di gr)with
       |false=>
        have ht:t=aa:=by
         cases t with
         |false=>rfl
         |true=>
          have h:=zEY hk (hg hk) m hl8 he;rw[p1]at h;cases h
        subst ht;exact⟨mQ,aa,iI,hF he,λ_=>rfl,by simp⟩
       |true=>
        obtain⟨p',q1,q2⟩:=zFW hk (hg hk) m hl8 he;rw[p1]at q1;cases q1;have lL:=zDE hl (p4 rfl);refine⟨⟨2,zaR gr key l perm (aH.take l.length),sC,p⟩,Z,iI,?_,by simp,λ_=>⟨hk,by omega,hm,⟨perm,_,m,rfl⟩,rfl,by simp,λ_=>⟨rfl,q2⟩,ha,?_⟩⟩
        ·rw[hT he,xS,az mB,p2];rfl
        ·exact⟨by simp,by simp,⟨by simp,by simp,by simp⟩,lL.1,lL.2.1,lL.2.2.1,⟨lL.2.2.2.1,lL.2.2.2.2.1,lL.2.2.2.2.2⟩⟩
    ·rw[De hc]at hS;refine⟨mQ,aa,?_,by rw[hS,az (by simp)],λ_=>rfl,by simp⟩;have MO:((aH.length:Int) !=((my arg l.length:Nat):Int))=Z:=by simp;omega
     unfold tV;rw[B2,Kr,ha,Pe];simp only[aR,wd,p8,l7,MO,eP]
 exact⟨mQ,aa,gI (Nz hk key l),gS (EL hk key l),λ_=>rfl,by simp⟩
def CE(p:ck):Bool:=(p.bQ.length:Int)==0&&((p.bL.length:Int)==0&&((p.aF.length:Int)==0&&Kh p.Pi))
def BV(p:cH):Bool:=(p.cu.length:Int)==0&&((p.aF.length:Int)==0&&Kh p.Pi)
def XK(p:ck):DP p=J (CE p):=by
 unfold DP CE;rw[Zq];cases (p.bQ.length:Int)==0<;>cases (p.bL.length:Int)==0<;>cases (p.aF.length:Int)==0<;>rfl
def UK(p:cH):EX p=J (BV p):=by
 unfold EX BV;rw[Zq];cases (p.cu.length:Int)==0<;>cases (p.aF.length:Int)==0<;>rfl
structure nc (n:Nat) (s:en):Prop where
 la:s.br.cu.length<=n
 lb:s.br.aF.length<=n
 lc:s.br.Pi.aC.length<=n/\s.br.Pi.aW.length<=n/\s.br.Pi.aD.length<=n
 ld:s.Poly.bQ.length<=n
 le:s.Poly.bL.length<=n
 lf:s.Poly.aF.length<=n
 lg:s.Poly.Pi.aC.length<=n/\s.Poly.Pi.aW.length<=n/\s.Poly.Pi.aD.length<=n
def z2{a b:Nat}:(((a:Int)+(b:Int))==0)=((a:Int)==0&&((b:Int)==0)):=by
 rw[UJ];simp;omega
def zCQ(h:nc 1048576 s):J3 s.Poly=J (CE s.Poly):=by
 have hd:=h.ld;have he:=h.le;have hf:=h.lf;unfold J3 CE;rw[Y9 h.lg.1 h.lg.2.1 h.lg.2.2,aI (n:=(s.Poly.bQ.length:Int)+(s.Poly.bL.length:Int)) (by omega) (by omega),aI (by omega) (by omega)]
 have:(((s.Poly.bQ.length:Int)+(s.Poly.bL.length:Int)+(s.Poly.aF.length:Int))==0)=((s.Poly.bQ.length:Int)==0&&((s.Poly.bL.length:Int)==0&&((s.Poly.aF.length:Int)==0))):=by
  rw[UJ];simp only[bI,wa];omega
 rw[this];cases (s.Poly.bQ.length:Int)==0<;>cases (s.Poly.bL.length:Int)==0<;>cases (s.Poly.aF.length:Int)==0<;>rfl
def zDz(h:nc 1048576 s):IC s.br=J (BV s.br):=by
 have ha:=h.la;have hb:=h.lb;unfold IC BV;rw[Y9 h.lc.1 h.lc.2.1 h.lc.2.2,aI (by omega) (by omega),z2];cases (s.br.cu.length:Int)==0<;>cases (s.br.aF.length:Int)==0<;>rfl
def xM(gr:am)(l:List an):Bool:=cX 1 12 l.length&&l.all (b8 gr)
def zHv(k:ao gr){out:List an}{B:cr}{tb:Bool}(hB:lw gr (l.length:Int)=J (B,tb))(p:cH)(h:xM gr out=aa):tn gr key l out p=J (aa,aa):=by
 unfold tn;rw[vf k key l hB,xt k,show(cX 1 12 out.length&&out.all (b8 gr))=xM gr out from rfl,h];cases fG gr key l<;>cases tb<;>rfl
def zFL(k:ao gr)(hd:okD gr=Z){out:List an}(hl:l.length<=13)(p:ck)(h:xM gr out=aa):tP gr key l out p=J (aa,aa):=by
 obtain⟨B,b1,b2,b3,b4⟩:=Bl k hd key hl;unfold tP;rw[b4,xt k,show(cX 1 12 out.length&&out.all (b8 gr))=xM gr out from rfl,h];cases fG gr key l<;>rfl
def zM0(gr:am)(hg:Dg gr)(key:Int)(hl:l.length<=13){x:en}(hx:nc 1048576 x):∃v t,sQ gr key l x=J (v,t)/\AU gr key l x=J (v,t):=by
 by_cases k:ao gr
 ·obtain⟨C,_,_,_,b4⟩:=Bl k (hg k) key hl;obtain⟨B,c1,c2,c3⟩:=NZ k (hg k) (n:=l.length) hl;have uH:=vj k key l;rw[show(aK gr key&&(cX 1 12 l.length&&l.all (b8 gr)))=fG gr key l from rfl]at uH;cases hm:fG gr key l with
  |false=>
   rw[hm]at b4 uH;refine⟨aa,aa,?_,?_⟩
   ·unfold sQ;rw[b4];rfl
   ·unfold AU tc;rw[uH];rfl
  |true=>
   rw[hm,aB rfl]at b4;rw[hm]at uH
   have T1:tc gr key l=J Z:=by
    unfold tc;rw[uH,aR,az (by simp),c1];rfl
   have e1:=xt k x.Out;have e2:=W5 k x.Out;obtain⟨vm,tm,v1,v2⟩:=zND gr key (l:=l) (by omega) x.Out x.br;obtain⟨vp,tp,w1,w2⟩:=zN1 gr hg key hl x.Out x.Poly
   have Mx:sQ gr key l x=if(!xM gr x.Out)=Z then J (aa,Z)else if(x.dB==1)=Z then J (tm&&(vm&&CE x.Poly),Z)else if(x.dB==2)=Z then J (tp&&(vp&&BV x.br),Z)else J (aa,Z):=by
    unfold sQ;rw[b4,e1,v1,w1,XK,UK,show(cX 1 12 x.Out.length&&x.Out.all (b8 gr))=xM gr x.Out from rfl];cases xM gr x.Out<;>cases (x.dB==1)<;>cases (x.dB==2)<;>cases tm<;>cases vm<;>cases tp<;>cases vp<;>rfl
   have Rv:AU gr key l x=if(!(decide (x.Out.length<=24)&&x.Out.all (b8 gr)))=Z then J (aa,Z)else if(x.dB==1)=Z then J (tm&&(vm&&CE x.Poly),Z)else if(x.dB==2)=Z then J (tp&&(vp&&BV x.br),Z)else J (aa,Z):=by
    unfold AU Lx;rw[T1,e2,v2,w2,zCQ hx,zDz hx];cases (decide (x.Out.length<=24)&&x.Out.all (b8 gr))<;>cases (x.dB==1)<;>cases (x.dB==2)<;>cases tm<;>cases vm<;>cases tp<;>cases vp<;>rfl
   cases gE:xM gr x.Out with
   |true=>
    have S7:(decide (x.Out.length<=24)&&x.Out.all (b8 gr))=Z:=by
     unfold xM at gE;rw[bI]at gE;have:=Vi.1 gE.1;rw[gE.2,t6 (by omega)];rfl
    rw[gE]at Mx;rw[S7]at Rv;rw[Mx,Rv];cases (x.dB==1)<;>cases (x.dB==2)<;>exact⟨_,_,rfl,rfl⟩
   |false=>
    have a1:=zHv k c2 x.br (key:=key) gE;have a2:=zFL k (hg k) (key:=key) hl x.Poly gE;rw[v1]at a1;rw[w1]at a2;cases a1;cases a2;rw[gE]at Mx;refine⟨aa,Z,Mx,?_⟩;rw[Rv];cases (decide (x.Out.length<=24)&&x.Out.all (b8 gr))<;>cases (x.dB==1)<;>cases (x.dB==2)<;>rfl
 refine⟨aa,aa,?_,?_⟩
 ·unfold sQ;rw[Td k];rfl
 unfold AU tc;rw[EL k];rfl
def zF8(hg:Dg gr){arg:Int}(x:T4 gr key l arg s):sQ gr key l s=J (Z,Z):=by
 have k:=x.xk;have hn:=x.xn;obtain⟨C,_,_,_,b4⟩:=Bl k (hg k) key (l:=l) (by omega);rw[x.mb,aB rfl]at b4;obtain⟨perm,rs,m,ho⟩:=x.xo;have e1:=xt k s.Out;rw[ho,Uc k m,<-ho]at e1;have ha:=x.ar;unfold kQ at ha;unfold sQ;rw[b4,e1,x.xa];by_cases h1:arg=1
 ·obtain⟨c1,c2⟩:=x.xm h1;subst h1;rw[c2,c1];rfl
 have h2:arg=2:=by
  simp only[tZ,wa]at ha;exact ha.resolve_left h1
 obtain⟨c1,c2⟩:=x.xp h2;subst h2;rw[c2,c1];rfl
def zFv{a b c:List (List Int)}(ha:a.length<=1000000)(hb:b.length<=1000000)(hc:c.length<=1000000):Gn [a,b,c]=J (a++(b++c)):=by
 unfold Gn
 have hlt:∀i,i<[a,b,c].length->([a,b,c].take (i+1)).flatten.length<=3000000/\([a,b,c].take i).flatten.length<=3000000:=λi hi=>by
  match i,hi with
  |0,_=>simp;omega
  |1,_=>simp;omega
  |2,_=>simp;omega
 have dH:∀i (hi:i<[a,b,c].length),([a,b,c].take (i+1)).flatten=([a,b,c].take i).flatten++[a,b,c][i]:=λi hi=>by
  rw[iO hi,Uf];simp
 have hfl:([a,b,c].take [a,b,c].length).flatten=a++(b++c):=by simp
 have lL:(a++(b++c)).length<=3000000:=by simp;omega
 refine bE (ay (ψ:=(· =((a++(b++c)).length:Int))) (ec (λi s=>s=((([a,b,c].take i).flatten.length:Nat):Int)) rfl ?_ λs h=>by rw[h,hfl]) ?_)
 ·rintro i s hi rfl;have h1:=hlt i hi;have h2:=gn List.length (dH i hi);rw[bP]at h2
  have w:i64.wrap (((([a,b,c].take i).flatten.length:Nat):Int)+([a,b,c][i].length:Int))=((([a,b,c].take (i+1)).flatten.length:Nat):Int):=by
   rw[aI (by omega) (by omega),h2];rfl
  refine bD hi ?_;rw[w];exact bt (De (by omega)) (aj rfl)
 rintro _ rfl;refine aG (by omega) (ay (ψ:=(· =a++(b++c))) (ec (λi s=>s=([a,b,c].take i).flatten) rfl ?_ λs h=>by rw[h,hfl]) λ_ e=>aj e);rintro i s hi rfl;have h1:=hlt i hi;have h2:=gn List.length (dH i hi);rw[bP]at h2;exact bD hi (aG (by omega) (aj (dH i hi).symm))
def AE(s:en):List (List Int):=if(s.dB==2)=Z then[s.Poly.bQ,s.Poly.bL,s.Poly.aF]else[s.br.cu,s.br.aF]
def lT(s:en):bZ:=if(s.dB==2)=Z then s.Poly.Pi else s.br.Pi
def zC(s:en):Bool:=if(s.dB==2)=Z then BV s.br else CE s.Poly
def yg(s:en):List (List Int):=[[s.dB],ja s.Out]++(AE s++[iH (lT s)])
def B9(s:en):Bool:=kQ s.dB&&(eN (ja s.Out)&&(eN (iH (lT s))&&(zC s&&eN (fR (yg s)))))
def QR(h:nc 1000000 s)(ho:s.Out.length<=400000):BU s=J (if B9 s=Z then(fR (yg s),Z)else([],aa)):=by
 have ha:=h.la;have hb:=h.lb;have hc:=h.lc;have hd:=h.ld;have he:=h.le;have hf:=h.lf;have hg:=h.lg
 have Tl:(lT s).aC.length<=1048576/\(lT s).aW.length<=1048576/\(lT s).aD.length<=1048576:=by
  unfold lT;split<;>exact⟨by omega,by omega,by omega⟩
 have hep:=zrG (p:=lT s) Tl.1 Tl.2.1 Tl.2.2
 have hol:(AE s).length<=3/\∀p∈AE s,p.length<=1000000:=by
  unfold AE;split
  ·refine⟨by simp,λp hp=>?_⟩;simp only[fK,jf,jg]at hp;rcases hp with rfl|rfl|rfl<;>omega
  ·refine⟨by simp,λp hp=>?_⟩;simp only[fK,jf,jg]at hp;rcases hp with rfl|rfl<;>omega
 have eF:(!kQ s.dB)=Z->Z= !(kQ s.dB&&(eN (ja s.Out)&&(eN (iH (lT s))&&zC s))):=λe=>by
  rw[qd]at e;rw[e];rfl
 unfold BU;refine bE (ag (zxk (by omega)) (ag (XK _) (ay (ψ:=(· =(AE s,(lT s).aC,(lT s).aW,(lT s).aD,zC s))) (aZ (λe=>ag (UK _) (aj (by unfold AE lT zC;simp only[e,eP]))) λe=>aj (by unfold AE lT zC;simp only[e,p8,l7])) ?_)));rintro _ rfl;refine ag hep (ay (ψ:=(· = !(kQ s.dB&&(eN (ja s.Out)&&(eN (iH (lT s))&&zC s))))) (ag (Kr _) (aZ (λe=>aj (eF e)) λe=>?_)) ?_)
 ·have e:kQ s.dB=Z:=by simpa using e
  rw[e];cases eN (ja s.Out)<;>cases eN (iH (lT s))<;>exact⟨_,rfl,by simp⟩
 rintro _ rfl;refine aZ (λe=>aj ?_) λe=>?_
 ·rw[az];unfold B9;revert e;cases kQ s.dB<;>cases eN (ja s.Out)<;>cases eN (iH (lT s))<;>cases zC s<;>simp
 have e:(kQ s.dB&&(eN (ja s.Out)&&(eN (iH (lT s))&&zC s)))=Z:=by simpa using e
 simp only[bI]at e;obtain⟨e1,e2,e3,e4⟩:=e;have l1:=(CX.1 e2).1;have l2:=(CX.1 e3).1
 have a0X:Gn [[[s.dB],(if eN (ja s.Out)=Z then(ja s.Out,Z)else([],aa)).1],AE s,[(if eN (iH (lT s))=Z then(iH (lT s),Z)else([],aa)).1]]=J (yg s):=by
  rw[aB e2,aB e3];exact zFv (by simp) (by omega) (by simp)
 refine ag a0X (ag (zAG ?_ λp hp=>?_) (aj ?_))
 ·unfold yg;simp;omega
 ·unfold yg at hp;rcases jY.1 hp with hp|hp
  ·simp only[fK,jf,jg]at hp;rcases hp with rfl|rfl
   ·simp
   omega
  rcases jY.1 hp with hp|hp
  ·have:=hol.2 p hp;omega
  rw[gB.1 hp];omega
 have:B9 s=eN (fR (yg s)):=by
  unfold B9;rw[e1,e2,e3,e4,gV,gV,gV,gV]
 rw[this]
def zFi(h:nc 1000000 s)(ho:s.Out.length<=400000)(hs:B9 s=Z)(h1:s.dB=1->s.Poly=uL)(h2:s.dB=2->s.br=sC):ze (fR (yg s))=J (s,Z):=by
 have AA:=QR h ho;rw[aB hs]at AA;unfold B9 at hs;simp only[bI]at hs;obtain⟨e1,e2,e3,e4,e5⟩:=hs;have dc:=zCY e2;have dp:=zDY e3;have sp:=zDg e5;obtain⟨a,O,M,P⟩:=s;unfold kQ at e1;simp only[tZ,wa]at e1;rcases e1 with rfl|rfl
 ·cases h1 rfl;have hp:yg ⟨1,O,M,uL⟩=[[1],ja O,M.cu,M.aF,iH M.Pi]:=rfl;rw[hp]at sp AA⊢;unfold ze;refine bE (ag sp (ay (ψ:=(· =aa)) (bt rfl (bt rfl (ag (a:=[1]) rfl (aj rfl)))) ?_));rintro _ rfl;refine bt rfl (ag (a:=ja O) rfl (ag dc (ag (a:=iH M.Pi) rfl (ag dp (ag (a:=[1]) rfl (ag (a:=1) rfl ?_))))));refine ay (ψ:=(· =.inl (1,O,M.cu,M.aF,M.Pi.aC,M.Pi.aW,M.Pi.aD,[],[],[],[],[],[]))) (ay (ψ:=(· =Z)) (fV rfl (aj rfl)) ?_) ?_
  ·rintro _ rfl;exact fV rfl (ag (a:=M.cu) rfl (ag (a:=M.aF) rfl (aj rfl)))
  rintro _ rfl;refine ag AA (ay (ψ:=(· =aa)) (bt rfl (bt rfl (bt rfl (ag (Hv _ _) (aj (by simp)))))) ?_);rintro _ rfl;exact bt rfl (aj rfl)
 cases h2 rfl;have hp:yg ⟨2,O,sC,P⟩=[[2],ja O,P.bQ,P.bL,P.aF,iH P.Pi]:=rfl;rw[hp]at sp AA⊢;unfold ze;refine bE (ag sp (ay (ψ:=(· =aa)) (bt rfl (bt rfl (ag (a:=[2]) rfl (aj rfl)))) ?_));rintro _ rfl;refine bt rfl (ag (a:=ja O) rfl (ag dc (ag (a:=iH P.Pi) rfl (ag dp (ag (a:=[2]) rfl (ag (a:=2) rfl ?_))))));refine ay (ψ:=(· =.inl (2,O,[],[],[],[],[],P.bQ,P.bL,P.aF,P.Pi.aC,P.Pi.aW,P.Pi.aD))) (ay (ψ:=(· =aa)) (bt rfl (aj rfl)) ?_) ?_
 ·rintro _ rfl;refine bt rfl (ay (ψ:=(· =Z)) (fV rfl (aj rfl)) ?_);rintro _ rfl;exact fV rfl (ag (a:=P.bQ) rfl (ag (a:=P.bL) rfl (ag (a:=P.aF) rfl (aj rfl))))
 rintro _ rfl;refine ag AA (ay (ψ:=(· =aa)) (bt rfl (bt rfl (bt rfl (ag (Hv _ _) (aj (by simp)))))) ?_);rintro _ rfl;exact bt rfl (aj rfl)
def zAX:ze []=J (mQ,aa):=by
 obtain⟨z,z1,z2⟩:=zHo (l:=[]) (by simp)
 have hz:z.2=aa:=by
  cases h:z.2 with
  |false=>rfl
  |true=>
   have:=(z2 h).2;unfold fR at this;cases this
 unfold ze;rw[z1];refine bE (ay (ψ:=(· =Z)) (fV (by rw[hz];rfl) (aj rfl)) ?_);rintro _ rfl;exact fV rfl (aj rfl)
def Xn(hb:Bt code):Rn (Fr code) (λz=>(Gw z.1/\Dg z.1)/\z.2.2.1.length<=13):=by
 unfold Fr Ml;refine ay (ψ:=λz=>(Gw z.1/\Dg z.1)/\z.2.2.1.length<=13) (ay (zze hb (Yi code) (by omega)) λz1 ⟨a1,a2,a3⟩=>ay (jI (m:=2) hb a3 (by omega)) λz2 ⟨_,_,_,_,b3⟩=>ay (LC hb b3 (by omega)) λz3 c3=>?_) λz h=>aj h
 refine ay (ψ:=λx=>Cu code 1000 x.1) (aZ (λ_=>ay (oh hb c3 (by omega) (by simp)) λz8 ⟨_,d3⟩=>aj (d3.mono (by omega))) λ_=>aj (c3.mono (by omega))) λx hx=>?_
 refine ag (Ra x.2 (by omega)) ?_
 obtain⟨q,hq,cM⟩:∃q:Nat,(if(cX 1 12 (z1.2.2.1.length:Int)&&kQ x.2)=Z then(((my x.2 z1.2.2.1.length:Nat):Int),Z)else((0:Int),aa)).1=(q:Int)/\q<=1000:=by
  split
  ·exact⟨_,rfl,by unfold my;split<;>omega⟩
  ·exact⟨0,rfl,by omega⟩
 rw[hq];exact ay (U0 hb hx (by omega) a1.1 cM) λy _=>aj ⟨a1,a2⟩
def Y2{arg:Int}(x:T4 gr key l arg s):nc 1000 s/\s.Out.length<=13:=by
 obtain⟨a,b,c,d,e,f,g⟩:=x.ln;refine⟨⟨a,b,c,d,e,f,g⟩,?_⟩;obtain⟨perm,rs,m,ho⟩:=x.xo;have:=m.n;rw[ho,kO,m.pl];omega
def nc.up{n m:Nat}(h:n<=m)(x:nc n s):nc m s:=
 ⟨gj x.la h,gj x.lb h,⟨gj x.lc.1 h,gj x.lc.2.1 h,gj x.lc.2.2 h⟩,gj x.ld h,gj x.le h,gj x.lf h,⟨gj x.lg.1 h,gj x.lg.2.1 h,gj x.lg.2.2 h⟩⟩
def W4:nc 1000 mQ/\mQ.Out.length<=13:=⟨⟨by simp,by simp,⟨by simp,by simp,by simp⟩,by simp,by simp,by simp,⟨by simp,by simp,by simp⟩⟩,by simp⟩
def zxV{c0:List Int}{at_ dE n:Int}(hb:Bt code)(h:Cu code n (c0,at_,dE))(hn:n<=2000000000000000)(hg:Gw gr)(hs:nc 1000 s)(ho:s.Out.length<=13):Rn (JJ c0 at_ dE gr s) (λz=>nc 1001 z.1/\Cu code (n+60) z.2):=by
 have fQ:nc 1001 s:=hs.up (by omega);unfold JJ;refine aG (by omega) (ay (jI (m:=9) hb h (by omega)) λz1 ⟨_,_,_,_,b3⟩=>?_);refine ay (ψ:=λx=>nc 1001 (en.mk x.2.1 x.2.2.1 (cH.mk x.2.2.2.1 x.2.2.2.2.1 (bZ.mk x.2.2.2.2.2.1 x.2.2.2.2.2.2.1 x.2.2.2.2.2.2.2.1)) (ck.mk x.2.2.2.2.2.2.2.2.1 x.2.2.2.2.2.2.2.2.2.1 x.2.2.2.2.2.2.2.2.2.2.1 (bZ.mk x.2.2.2.2.2.2.2.2.2.2.2.1 x.2.2.2.2.2.2.2.2.2.2.2.2.1 x.2.2.2.2.2.2.2.2.2.2.2.2.2)))/\Cu code (n+60) x.1) ?_ λx hx=>aj hx
 have b4:Cu code (n+60) z1.2:=b3.mono (by omega);have own:∀(o:List an) (a:Int),nc 1001 ⟨a,o,⟨s.br.cu,s.br.aF,⟨s.br.Pi.aC,s.br.Pi.aW,s.br.Pi.aD⟩⟩,⟨s.Poly.bQ,s.Poly.bL,s.Poly.aF,⟨s.Poly.Pi.aC,s.Poly.Pi.aW,s.Poly.Pi.aD⟩⟩⟩:=λo a=>⟨fQ.la,fQ.lb,fQ.lc,fQ.ld,fQ.le,fQ.lf,fQ.lg⟩
 refine aZ (λ_=>aZ (λg=>?_) λ_=>aj ⟨own _ _,b4⟩) λ_=>aZ (λ_=>?_) λ_=>aZ (λ_=>?_) λ_=>aZ (λ_=>?_) λ_=>aZ (λ_=>aZ (λg=>?_) λ_=>aj ⟨own _ _,b4⟩) λ_=>aj ⟨own _ _,b4⟩
 ·have g:0<(s.Out.length:Int):=by simpa using g
  refine ay (zzw hb b3 (by omega) (by omega)) λw ⟨⟨i,hi,cF⟩,w2⟩=>ay (Kb hb w2 (by omega) hg) λ_ ⟨_,_,w3⟩=>?_
  rw[hi];exact bD cF (aj ⟨own _ _,w3.mono (by omega)⟩)
 ·exact ay (X5 hb b3 (by omega) hg hs.lc) λw ⟨w1,w2⟩=>aj ⟨⟨fQ.la,fQ.lb,w1,fQ.ld,fQ.le,fQ.lf,fQ.lg⟩,w2.mono (by omega)⟩
 ·exact ay (X5 hb b3 (by omega) hg hs.lg) λw ⟨w1,w2⟩=>aj ⟨⟨fQ.la,fQ.lb,fQ.lc,fQ.ld,fQ.le,fQ.lf,w1⟩,w2.mono (by omega)⟩
 ·exact ay (jI (m:=4) hb b3 (by omega)) λw ⟨_,_,_,_,w5⟩=>aj ⟨own _ _,w5.mono (by omega)⟩
 have g:1<(s.Out.length:Int):=by simpa using g
 exact bD (k:=0) (by omega) (bD (k:=1) (by omega) (bD (k:=1) (by rw[KF];omega) (aj ⟨own _ _,b4⟩)))
def zCU(hb:Bt code):Rn (HP code) (λz=>Dg z.1/\z.2.2.1.length<=13/\nc 1001 z.2.2.2):=by
 unfold HP;refine ay (Xn hb) λz ⟨⟨z1,z2⟩,z3⟩=>?_
 obtain⟨s,t,_,e2,e3,e4⟩:=W9 z.1 z2 z.2.1 z3 z.2.2.2.1 z.2.2.2.2.1 z.2.2.2.2.2
 have hl:nc 1000 s/\s.Out.length<=13:=by
  cases t
  ·rw[e3 rfl];exact W4
  ·exact Y2 (e4 rfl)
 exact ag e2 (ay (zxV hb (Yi code) (by omega) z1 hl.1 hl.2) λw hw=>aj ⟨z2,z3,hw.1⟩)
def zFg(a b:List Int)(h0:∀x∈a,0<=x/\x<=255)(h1:∀x∈b,0<=x/\x<=255)(za:a.length<=1048576)(AW:b.length<=1048576):J8 a b=J Z:=by
 have hba:Bt a:=⟨h0,by omega⟩
 have Ia:Bt b:=⟨h1,by omega⟩
 unfold J8 Ln;refine bE (ay (ψ:=λ_=>True) (ay (ψ:=λ_=>True) (aZ (λ_=>aj trivial) λ_=>aj trivial) λ_ _=>aj trivial) λ_ _=>aZ (λ_=>aj rfl) λ_=>?_);refine ay (Xn hba) λz ⟨⟨z1,z2⟩,z3⟩=>?_
 obtain⟨s,t,e1,e2,e3,e4⟩:=W9 z.1 z2 z.2.1 z3 z.2.2.2.1 z.2.2.2.2.1 z.2.2.2.2.2;refine ag e1 (ag e2 (ay (ψ:=(· =aa)) (bt (by simp) (ag (zGs _) (aj rfl))) ?_));rintro _ rfl;refine bt rfl (ay (ψ:=(· =.inl ())) (aZ (λht=>?_) λ_=>aj rfl) ?_)
 ·have ht:t=Z:=ht;subst ht;have X:=e4 rfl;obtain⟨hl,hlo⟩:=Y2 X;refine ag (zF8 z2 X) (ay (ψ:=(· =aa)) (bt rfl (aj rfl)) ?_);rintro _ rfl;refine bt rfl ?_;have sr:=QR (hl.up (by omega)) (show s.Out.length<=400000 by omega);cases hs:B9 s with
  |false=>
   rw[hs,az (by simp)]at sr;have sr0:=QR (s:=mQ) (W4.1.up (by omega)) (by simp);refine ag sr (ag zAX (ag sr0 (ay (ψ:=(· =aa)) (bt rfl (aj rfl)) ?_)));rintro _ rfl;exact bt rfl (aj rfl)
  |true=>
   rw[hs,aB rfl]at sr;have so:=zFi (hl.up (by omega)) (show s.Out.length<=400000 by omega) hs (λh=>(X.xm (X.xa▸h)).1) λh=>(X.xp (X.xa▸h)).1
   refine ag sr (ag so (ag sr (ay (ψ:=(· =aa)) (fV rfl (bt rfl (bt rfl (ag zB1 (aj rfl))))) ?_)));rintro _ rfl;exact bt rfl (aj rfl)
 rintro _ rfl;refine ay (zCU Ia) λy ⟨y1,y2,y3⟩=>?_
 obtain⟨v,u,f1,f2⟩:=zM0 y.1 y1 y.2.1 y2 (y3.up (by omega));refine ag f1 (ag f2 (ay (ψ:=(· =Z)) (fV (by simp) (aj (by simp))) ?_));rintro _ rfl;exact aj rfl
end Go.Pm
