/-
  FnStages: plain laws.
  No condition.
-/
import Derived.Test.YtnojafnlicbhpaaGreatY41b
namespace Go.Pm
set_option linter.defProp false
open Go.Am IntKind
open Bool renaming false→aa,true→Z
open Option renaming some→J
set_option linter.unusedVariables false
set_option linter.unusedSimpArgs false
variable{code:List Int}{gr:am}{key:Int}{l:List an}{s:ec}
def US(gr:am)(hg:Dg gr)(key:Int)(hl:l.length<=13)(arg:Int)(perm aH:List Int):
 ∃s t,tC gr key l arg perm aH=J (s,t)/\sP gr key l arg perm aH=J (s,t)/\(t=aa->s=np)/\(t=Z->SG gr key l arg s):=by
 have gI:s9 gr key l=J (⟨0,[]⟩,aa)->tC gr key l arg perm aH=J (np,aa):=λh=>by
  unfold tC;rw[h];rfl
 have gS:pD gr key l=J aa->sP gr key l arg perm aH=J (np,aa):=λh=>by
  unfold sP th;rw[QG arg (by omega),h];cases (cX 1 12 l.length&&kG arg)<;>rfl
 by_cases hk:ao gr
 ·have hq:=hk.q;have hp:=hk.p;obtain⟨B,b1,b2,b3⟩:=NQ hk (hg hk) (n:=l.length) hl;have B0:=u0 hk key l b2;have uM:=uK hk key l;cases hm:fI gr key l with
  |false=>
   rw[hm]at B0;rw[show(aK gr key&&(cX 1 12 l.length&&l.all (b8 gr)))=fI gr key l from rfl,hm]at uM;exact⟨np,aa,gI B0,gS uM,λ_=>rfl,by simp⟩
  |true=>
   rw[hm,aB rfl]at B0;rw[show(aK gr key&&(cX 1 12 l.length&&l.all (b8 gr)))=fI gr key l from rfl,hm]at uM
   have hn:cX 1 12 (l.length:Int)=Z:=by
    unfold fI at hm;simp only[bI]at hm;exact hm.2.1
   have RI:=Vb.1 hn
   have R0:th gr key l=J Z:=by
    unfold th;rw[uM,aR,az (by simp),b1];rfl
   have hcS:=QG arg (n:=l.length) (by omega);rw[hn,gV]at hcS;have PX:=zFf arg (n:=l.length) (by omega);have Abm:=zH (gr:=gr) (by omega) (by omega) aH
   have hS:sP gr key l arg perm aH=if(kG arg&&(decide (perm.length=l.length)&&((decide (perm.length<=24)&&d4 perm)&&(decide (aH.length=mf arg l.length)&&aH.all (dn gr)))))=Z then(Ai gr key l arg perm aH).bind λz=>J (z,Z)else J (np,aa):=by
    have e1:((perm.length:Int) !=(l.length:Int))= !decide (perm.length=l.length):=by
     by_cases h:perm.length=l.length
     ·rw[t5 h,h];simp
     ·rw[Dd h];simp;omega
    have e2:((aH.length:Int) !=((mf arg l.length:Nat):Int))= !decide (aH.length=mf arg l.length):=by
     by_cases h:aH.length=mf arg l.length
     ·rw[t5 h,h];simp
     ·rw[Dd h];simp;omega
    unfold sP;rw[hcS,R0,zB4,Abm];generalize Ai gr key l arg perm aH=X;cases ha:kG arg with
    |false=>rfl
    |true=>
     simp only[eP,aR,wc,p7,l7,e1,e2,gV];cases decide (perm.length=l.length)<;>cases (decide (perm.length<=24)&&d4 perm)<;>cases decide (aH.length=mf arg l.length)<;>cases aH.all (dn gr)<;>rfl
   cases ha:kG arg with
   |false=>
    rw[ha,Aar,az (by simp)]at hS;refine⟨np,aa,?_,hS,λ_=>rfl,by simp⟩;unfold tC;rw[B0,H3,ha];rfl
   |true=>
    rw[ha,gV]at hS;by_cases hc:aH.length=mf arg l.length
    ·have YX:l.length<=aH.length:=by rw[hc];unfold mf;split<;>omega
     have B6:=AA hk (n:=l.length) (by omega) perm (aH.take l.length);rw[show(decide (perm.length=l.length)&&d4 perm&&(decide ((aH.take l.length).length=l.length)&&(aH.take l.length).all (dn gr)))=j5 gr l.length perm (aH.take l.length)from rfl]at B6;have N5:((aH.length:Int) !=((mf arg l.length:Nat):Int))=aa:=by rw[hc];simp
     have PG:aH.all (dn gr)=((aH.take l.length).all (dn gr)&&(aH.drop l.length).all (dn gr)):=by
      rw[<-kq,De]
     have yD:(aH.take aH.length).drop l.length=aH.drop l.length:=by rw[f6]
     have Zr:(aH.drop l.length).length=mf arg l.length-l.length:=by rw[OC,hc]
     have h9:decide ((aH.take l.length).length=l.length)=Z:=t5 (by rw[nu];omega);cases Aq:j5 gr l.length perm (aH.take l.length)with
     |false=>
      rw[Aq]at B6;refine⟨np,aa,?_,?_,λ_=>rfl,by simp⟩
      ·unfold tC;rw[B0,H3,ha,PX];simp only[aR,wc,p7,l7,N5,S8,B6,eE (show(0:Int)<=(l.length:Int)by omega),eE (show 0<=l.length/\l.length<=aH.length by omega),Bool.not_false,eP]
      ·rw[hS,az];rw[PG];unfold j5 at Aq;rw[h9]at Aq;revert Aq;cases decide (perm.length=l.length)<;>cases d4 perm<;>cases (aH.take l.length).all (dn gr)<;>simp
     |true=>
      rw[Aq]at B6;have m:mQ gr key l perm (aH.take l.length):=Nc.1 (by rw[hm,Aq];rfl);have dM:=m.pl
      have iI:tC gr key l arg perm aH=((if(arg==1)=Z then(pJ gr key l perm (aH.take l.length) (aH.drop l.length)).bind λgX=>J (arg,zaR gr key l perm (aH.take l.length),gX.1.cu,gX.1.aF,gX.1.Pi.aC,gX.1.Pi.aV,gX.1.Pi.aD,[],[],[],[],[],[],gX.2)else(rn gr key l perm (aH.take l.length) (aH.drop l.length)).bind λfM=>J (arg,zaR gr key l perm (aH.take l.length),[],[],[],[],[],fM.1.bQ,fM.1.bL,fM.1.aF,fM.1.Pi.aC,fM.1.Pi.aV,fM.1.Pi.aD,fM.2):Option (Int×List an×List Int×List Int×List Int×List Int×List Int×List Int×List Int×List Int×List Int×List Int×List Int×Bool))).bind λdi=>
       if(!di.2.2.2.2.2.2.2.2.2.2.2.2.2)=Z then J (np,aa)else J (ec.mk di.1 di.2.1 (cF.mk di.2.2.1 di.2.2.2.1 (bZ.mk di.2.2.2.2.1 di.2.2.2.2.2.1 di.2.2.2.2.2.2.1)) (cn.mk di.2.2.2.2.2.2.2.1 di.2.2.2.2.2.2.2.2.1 di.2.2.2.2.2.2.2.2.2.1 (bZ.mk di.2.2.2.2.2.2.2.2.2.2.1 di.2.2.2.2.2.2.2.2.2.2.2.1 di.2.2.2.2.2.2.2.2.2.2.2.2.1)),Z):=by
       unfold tC;rw[B0,H3,ha,PX];simp only[aR,wc,p7,l7,N5,S8,B6,eE (show(0:Int)<=(l.length:Int)by omega),eE (show 0<=l.length/\l.length<=aH.length by omega),eE (show l.length<=aH.length/\aH.length<=aH.length by omega),O5 hk m,yD]
      have hT:(aH.drop l.length).all (dn gr)=Z->sP gr key l arg perm aH=(Ai gr key l arg perm aH).bind λz=>J (z,Z):=λhe=>by
       rw[hS,aB];rw[PG,he,m.re,t5 dM,m.pb,t5 hc,t5 (show perm.length<=24 by omega)];rfl
      have hF:(aH.drop l.length).all (dn gr)=aa->sP gr key l arg perm aH=J (np,aa):=λhe=>by
       rw[hS,az];rw[PG,he];simp
      have xS:Ai gr key l arg perm aH=((if(arg==1)=Z then(uR gr key l perm (aH.take l.length) (aH.drop l.length)).bind λz6=>J (arg,zaR gr key l perm (aH.take l.length),z6.1.cu,z6.1.aF,z6.1.Pi.aC,z6.1.Pi.aV,z6.1.Pi.aD,[],[],[],[],[],[])else(Ad gr key l perm (aH.take l.length) (aH.drop l.length)).bind λz7=>J (arg,zaR gr key l perm (aH.take l.length),[],[],[],[],[],z7.1.bQ,z7.1.bL,z7.1.aF,z7.1.Pi.aC,z7.1.Pi.aV,z7.1.Pi.aD):Option (Int×List an×List Int×List Int×List Int×List Int×List Int×List Int×List Int×List Int×List Int×List Int×List Int))).bind λx4=>
       J (ec.mk x4.1 x4.2.1 (cF.mk x4.2.2.1 x4.2.2.2.1 (bZ.mk x4.2.2.2.2.1 x4.2.2.2.2.2.1 x4.2.2.2.2.2.2.1)) (cn.mk x4.2.2.2.2.2.2.2.1 x4.2.2.2.2.2.2.2.2.1 x4.2.2.2.2.2.2.2.2.2.1 (bZ.mk x4.2.2.2.2.2.2.2.2.2.2.1 x4.2.2.2.2.2.2.2.2.2.2.2.1 x4.2.2.2.2.2.2.2.2.2.2.2.2))):=by
       unfold Ai;simp only[aR,S8,eE (show(0:Int)<=(l.length:Int)by omega),eE (show 0<=l.length/\l.length<=aH.length by omega),eE (show l.length<=aH.length/\aH.length<=aH.length by omega),PQ hk m,yD]
      have rB:l.length<=20:=by omega
      by_cases h1:arg=1
      ·subst h1;have U9:(aH.drop l.length).length=4*l.length+4:=by rw[Zr];unfold mf;rw[aB rfl];omega
       obtain⟨p,t,p1,p2,p3,p4⟩:=zL9 gr key rB perm (aH.take l.length) (aH.drop l.length);rw[aB K4,p1]at iI;cases he:(aH.drop l.length).all (dn gr)with
       |false=>
        have ht:t=aa:=by
         cases t with
         |false=>rfl
         |true=>
          have h:=zGX hk b2 m U9 he;rw[p1]at h;cases h
        subst ht;exact⟨np,aa,iI,hF he,λ_=>rfl,by simp⟩
       |true=>
        obtain⟨p',q1,q2⟩:=zHm hk b2 b3 m U9 he;rw[p1]at q1;cases q1;have l4:=zDu rB (p4 rfl);refine⟨⟨1,zaR gr key l perm (aH.take l.length),p,vt⟩,Z,iI,?_,by simp,λ_=>⟨hk,by omega,hm,⟨perm,_,m,rfl⟩,rfl,λ_=>⟨rfl,q2⟩,by simp,ha,?_⟩⟩
        ·rw[hT he,xS,aB K4,p2];rfl
        ·exact⟨l4.1,l4.2.1,⟨l4.2.2.1,l4.2.2.2.1,l4.2.2.2.2⟩,by simp,by simp,by simp,⟨by simp,by simp,by simp⟩⟩
      ·have h2:arg=2:=by
        unfold kG at ha;simp only[tY,v9]at ha;exact ha.resolve_left h1
       subst h2;have YG:(aH.drop l.length).length=8*l.length+2:=by rw[Zr];unfold mf;rw[az h1];omega
       obtain⟨p,t,p1,p2,p3,p4⟩:=zLx gr hg key hl perm (aH.take l.length) (aH.drop l.length);rw[az mz,p1]at iI;cases he:(aH.drop l.length).all (dn gr)with
       |false=>
        have ht:t=aa:=by
         cases t with
         |false=>rfl
         |true=>
          have h:=zEP hk (hg hk) m YG he;rw[p1]at h;cases h
        subst ht;exact⟨np,aa,iI,hF he,λ_=>rfl,by simp⟩
       |true=>
        obtain⟨p',q1,q2⟩:=zFM hk (hg hk) m YG he;rw[p1]at q1;cases q1;have l4:=zCz hl (p4 rfl);refine⟨⟨2,zaR gr key l perm (aH.take l.length),sk,p⟩,Z,iI,?_,by simp,λ_=>⟨hk,by omega,hm,⟨perm,_,m,rfl⟩,rfl,by simp,λ_=>⟨rfl,q2⟩,ha,?_⟩⟩
        ·rw[hT he,xS,az mz,p2];rfl
        ·exact⟨by simp,by simp,⟨by simp,by simp,by simp⟩,l4.1,l4.2.1,l4.2.2.1,⟨l4.2.2.2.1,l4.2.2.2.2.1,l4.2.2.2.2.2⟩⟩
    ·rw[Dd hc]at hS;refine⟨np,aa,?_,by rw[hS,az (by simp)],λ_=>rfl,by simp⟩;have N5:((aH.length:Int) !=((mf arg l.length:Nat):Int))=Z:=by simp;omega
     unfold tC;rw[B0,H3,ha,PX];simp only[aR,wc,p7,l7,N5,eP]
 exact⟨np,aa,gI (L6 hk key l),gS (Eg hk key l),λ_=>rfl,by simp⟩
def CP(p:cn):Bool:=(p.bQ.length:Int)==0&&((p.bL.length:Int)==0&&((p.aF.length:Int)==0&&IQ p.Pi))
def Cp(p:cF):Bool:=(p.cu.length:Int)==0&&((p.aF.length:Int)==0&&IQ p.Pi)
def zx2(p:cn):Fw p=J (CP p):=by
 unfold Fw CP;rw[VN];cases (p.bQ.length:Int)==0<;>cases (p.bL.length:Int)==0<;>cases (p.aF.length:Int)==0<;>rfl
def Yj(p:cF):Fx p=J (Cp p):=by
 unfold Fx Cp;rw[VN];cases (p.cu.length:Int)==0<;>cases (p.aF.length:Int)==0<;>rfl
structure mT (n:Nat) (s:ec):Prop where
 la:s.br.cu.length<=n
 lb:s.br.aF.length<=n
 lc:s.br.Pi.aC.length<=n/\s.br.Pi.aV.length<=n/\s.br.Pi.aD.length<=n
 ld:s.Poly.bQ.length<=n
 le:s.Poly.bL.length<=n
 lf:s.Poly.aF.length<=n
 lg:s.Poly.Pi.aC.length<=n/\s.Poly.Pi.aV.length<=n/\s.Poly.Pi.aD.length<=n
def z2{a b:Nat}:(((a:Int)+(b:Int))==0)=((a:Int)==0&&((b:Int)==0)):=by
 rw[UG];simp;omega
def zDI(h:mT 1048576 s):GD s.Poly=J (CP s.Poly):=by
 have hd:=h.ld;have he:=h.le;have hf:=h.lf;unfold GD CP;rw[Xn h.lg.1 h.lg.2.1 h.lg.2.2,aI (n:=(s.Poly.bQ.length:Int)+(s.Poly.bL.length:Int)) (by omega) (by omega),aI (by omega) (by omega)]
 have:(((s.Poly.bQ.length:Int)+(s.Poly.bL.length:Int)+(s.Poly.aF.length:Int))==0)=((s.Poly.bQ.length:Int)==0&&((s.Poly.bL.length:Int)==0&&((s.Poly.aF.length:Int)==0))):=by
  rw[UG];simp only[bI,v9];omega
 rw[this];cases (s.Poly.bQ.length:Int)==0<;>cases (s.Poly.bL.length:Int)==0<;>cases (s.Poly.aF.length:Int)==0<;>rfl
def zCR(h:mT 1048576 s):Jv s.br=J (Cp s.br):=by
 have ha:=h.la;have hb:=h.lb;unfold Jv Cp;rw[Xn h.lc.1 h.lc.2.1 h.lc.2.2,aI (by omega) (by omega),z2];cases (s.br.cu.length:Int)==0<;>cases (s.br.aF.length:Int)==0<;>rfl
def xZ(gr:am)(l:List an):Bool:=cX 1 12 l.length&&l.all (b8 gr)
def zGK(k:ao gr){out:List an}{B:ct}{tb:Bool}(hB:lN gr (l.length:Int)=J (B,tb))(p:cF)(h:xZ gr out=aa):tt gr key l out p=J (aa,aa):=by
 unfold tt;rw[u0 k key l hB,yh k,show(cX 1 12 out.length&&out.all (b8 gr))=xZ gr out from rfl,h];cases fI gr key l<;>cases tb<;>rfl
def zGV(k:ao gr)(hd:okD gr=Z){out:List an}(hl:l.length<=13)(p:cn)(h:xZ gr out=aa):tU gr key l out p=J (aa,aa):=by
 obtain⟨B,b1,b2,b3,b4⟩:=BD k hd key hl;unfold tU;rw[b4,yh k,show(cX 1 12 out.length&&out.all (b8 gr))=xZ gr out from rfl,h];cases fI gr key l<;>rfl
def zKF(gr:am)(hg:Dg gr)(key:Int)(hl:l.length<=13){x:ec}(hx:mT 1048576 x):∃v t,ta gr key l x=J (v,t)/\AP gr key l x=J (v,t):=by
 by_cases k:ao gr
 ·obtain⟨C,_,_,_,b4⟩:=BD k (hg k) key hl;obtain⟨B,c1,c2,c3⟩:=NQ k (hg k) (n:=l.length) hl;have uM:=uK k key l;rw[show(aK gr key&&(cX 1 12 l.length&&l.all (b8 gr)))=fI gr key l from rfl]at uM;cases hm:fI gr key l with
  |false=>
   rw[hm]at b4 uM;refine⟨aa,aa,?_,?_⟩
   ·unfold ta;rw[b4];rfl
   ·unfold AP th;rw[uM];rfl
  |true=>
   rw[hm,aB rfl]at b4;rw[hm]at uM
   have R0:th gr key l=J Z:=by
    unfold th;rw[uM,aR,az (by simp),c1];rfl
   have e1:=yh k x.Out;have e2:=UV k x.Out;obtain⟨vm,tm,v1,v2⟩:=zM4 gr key (l:=l) (by omega) x.Out x.br;obtain⟨vp,tp,w1,w2⟩:=zKM gr hg key hl x.Out x.Poly
   have KY:ta gr key l x=if(!xZ gr x.Out)=Z then J (aa,Z)else if(x.dD==1)=Z then J (tm&&(vm&&CP x.Poly),Z)else if(x.dD==2)=Z then J (tp&&(vp&&Cp x.br),Z)else J (aa,Z):=by
    unfold ta;rw[b4,e1,v1,w1,zx2,Yj,show(cX 1 12 x.Out.length&&x.Out.all (b8 gr))=xZ gr x.Out from rfl];cases xZ gr x.Out<;>cases (x.dD==1)<;>cases (x.dD==2)<;>cases tm<;>cases vm<;>cases tp<;>cases vp<;>rfl
   have PC:AP gr key l x=if(!(decide (x.Out.length<=24)&&x.Out.all (b8 gr)))=Z then J (aa,Z)else if(x.dD==1)=Z then J (tm&&(vm&&CP x.Poly),Z)else if(x.dD==2)=Z then J (tp&&(vp&&Cp x.br),Z)else J (aa,Z):=by
    unfold AP N7;rw[R0,e2,v2,w2,zDI hx,zCR hx];cases (decide (x.Out.length<=24)&&x.Out.all (b8 gr))<;>cases (x.dD==1)<;>cases (x.dD==2)<;>cases tm<;>cases vm<;>cases tp<;>cases vp<;>rfl
   cases gM:xZ gr x.Out with
   |true=>
    have P3:(decide (x.Out.length<=24)&&x.Out.all (b8 gr))=Z:=by
     unfold xZ at gM;rw[bI]at gM;have:=Vb.1 gM.1;rw[gM.2,t5 (by omega)];rfl
    rw[gM]at KY;rw[P3]at PC;rw[KY,PC];cases (x.dD==1)<;>cases (x.dD==2)<;>exact⟨_,_,rfl,rfl⟩
   |false=>
    have a1:=zGK k c2 x.br (key:=key) gM;have a2:=zGV k (hg k) (key:=key) hl x.Poly gM;rw[v1]at a1;rw[w1]at a2;cases a1;cases a2;rw[gM]at KY;refine⟨aa,Z,KY,?_⟩;rw[PC];cases (decide (x.Out.length<=24)&&x.Out.all (b8 gr))<;>cases (x.dD==1)<;>cases (x.dD==2)<;>rfl
 refine⟨aa,aa,?_,?_⟩
 ·unfold ta;rw[OT k];rfl
 unfold AP th;rw[Eg k];rfl
def zHd(hg:Dg gr){arg:Int}(x:SG gr key l arg s):ta gr key l s=J (Z,Z):=by
 have k:=x.xk;have hn:=x.xn;obtain⟨C,_,_,_,b4⟩:=BD k (hg k) key (l:=l) (by omega);rw[x.mb,aB rfl]at b4;obtain⟨perm,rs,m,ho⟩:=x.xo;have e1:=yh k s.Out;rw[ho,Qd k m,<-ho]at e1;have ha:=x.ar;unfold kG at ha;unfold ta;rw[b4,e1,x.xa];by_cases h1:arg=1
 ·obtain⟨c1,c2⟩:=x.xm h1;subst h1;rw[c2,c1];rfl
 have h2:arg=2:=by
  simp only[tY,v9]at ha;exact ha.resolve_left h1
 obtain⟨c1,c2⟩:=x.xp h2;subst h2;rw[c2,c1];rfl
def zGy{a b c:List (List Int)}(ha:a.length<=1000000)(hb:b.length<=1000000)(hc:c.length<=1000000):EL [a,b,c]=J (a++(b++c)):=by
 unfold EL
 have hlt:∀i,i<[a,b,c].length->([a,b,c].take (i+1)).flatten.length<=3000000/\([a,b,c].take i).flatten.length<=3000000:=λi hi=>by
  match i,hi with
  |0,_=>simp;omega
  |1,_=>simp;omega
  |2,_=>simp;omega
 have dJ:∀i (hi:i<[a,b,c].length),([a,b,c].take (i+1)).flatten=([a,b,c].take i).flatten++[a,b,c][i]:=λi hi=>by
  rw[iO hi,Uc];simp
 have hfl:([a,b,c].take [a,b,c].length).flatten=a++(b++c):=by simp
 have l4:(a++(b++c)).length<=3000000:=by simp;omega
 refine bE (ay (ψ:=(· =((a++(b++c)).length:Int))) (d7 (λi s=>s=((([a,b,c].take i).flatten.length:Nat):Int)) rfl ?_ λs h=>by rw[h,hfl]) ?_)
 ·rintro i s hi rfl;have h1:=hlt i hi;have h2:=gn List.length (dJ i hi);rw[bP]at h2
  have w:i64.wrap (((([a,b,c].take i).flatten.length:Nat):Int)+([a,b,c][i].length:Int))=((([a,b,c].take (i+1)).flatten.length:Nat):Int):=by
   rw[aI (by omega) (by omega),h2];rfl
  refine bD hi ?_;rw[w];exact bt (Dd (by omega)) (aj rfl)
 rintro _ rfl;refine aG (by omega) (ay (ψ:=(· =a++(b++c))) (d7 (λi s=>s=([a,b,c].take i).flatten) rfl ?_ λs h=>by rw[h,hfl]) λ_ e=>aj e);rintro i s hi rfl;have h1:=hlt i hi;have h2:=gn List.length (dJ i hi);rw[bP]at h2;exact bD hi (aG (by omega) (aj (dJ i hi).symm))
def zM(s:ec):List (List Int):=if(s.dD==2)=Z then[s.Poly.bQ,s.Poly.bL,s.Poly.aF]else[s.br.cu,s.br.aF]
def lz(s:ec):bZ:=if(s.dD==2)=Z then s.Poly.Pi else s.br.Pi
def zP(s:ec):Bool:=if(s.dD==2)=Z then Cp s.br else CP s.Poly
def xu(s:ec):List (List Int):=[[s.dD],iX s.Out]++(zM s++[iL (lz s)])
def BF(s:ec):Bool:=kG s.dD&&(eO (iX s.Out)&&(eO (iL (lz s))&&(zP s&&eO (fR (xu s)))))
def QJ(h:mT 1000000 s)(ho:s.Out.length<=400000):C4 s=J (if BF s=Z then(fR (xu s),Z)else([],aa)):=by
 have ha:=h.la;have hb:=h.lb;have hc:=h.lc;have hd:=h.ld;have he:=h.le;have hf:=h.lf;have hg:=h.lg
 have QK:(lz s).aC.length<=1048576/\(lz s).aV.length<=1048576/\(lz s).aD.length<=1048576:=by
  unfold lz;split<;>exact⟨by omega,by omega,by omega⟩
 have hep:=zrO (p:=lz s) QK.1 QK.2.1 QK.2.2
 have hol:(zM s).length<=3/\∀p∈zM s,p.length<=1000000:=by
  unfold zM;split
  ·refine⟨by simp,λp hp=>?_⟩;simp only[fK,jf,jg]at hp;rcases hp with rfl|rfl|rfl<;>omega
  ·refine⟨by simp,λp hp=>?_⟩;simp only[fK,jf,jg]at hp;rcases hp with rfl|rfl<;>omega
 have eF:(!kG s.dD)=Z->Z= !(kG s.dD&&(eO (iX s.Out)&&(eO (iL (lz s))&&zP s))):=λe=>by
  rw[qc]at e;rw[e];rfl
 unfold C4;refine bE (ag (VI (by omega)) (ag (zx2 _) (ay (ψ:=(· =(zM s,(lz s).aC,(lz s).aV,(lz s).aD,zP s))) (aZ (λe=>ag (Yj _) (aj (by unfold zM lz zP;simp only[e,eP]))) λe=>aj (by unfold zM lz zP;simp only[e,p7,l7])) ?_)));rintro _ rfl;refine ag hep (ay (ψ:=(· = !(kG s.dD&&(eO (iX s.Out)&&(eO (iL (lz s))&&zP s))))) (ag (H3 _) (aZ (λe=>aj (eF e)) λe=>?_)) ?_)
 ·have e:kG s.dD=Z:=by simpa using e
  rw[e];cases eO (iX s.Out)<;>cases eO (iL (lz s))<;>exact⟨_,rfl,by simp⟩
 rintro _ rfl;refine aZ (λe=>aj ?_) λe=>?_
 ·rw[az];unfold BF;revert e;cases kG s.dD<;>cases eO (iX s.Out)<;>cases eO (iL (lz s))<;>cases zP s<;>simp
 have e:(kG s.dD&&(eO (iX s.Out)&&(eO (iL (lz s))&&zP s)))=Z:=by simpa using e
 simp only[bI]at e;obtain⟨e1,e2,e3,e4⟩:=e;have l1:=(B5.1 e2).1;have l2:=(B5.1 e3).1
 have Abn:EL [[[s.dD],(if eO (iX s.Out)=Z then(iX s.Out,Z)else([],aa)).1],zM s,[(if eO (iL (lz s))=Z then(iL (lz s),Z)else([],aa)).1]]=J (xu s):=by
  rw[aB e2,aB e3];exact zGy (by simp) (by omega) (by simp)
 refine ag Abn (ag (Xz ?_ λp hp=>?_) (aj ?_))
 ·unfold xu;simp;omega
 ·unfold xu at hp;rcases jY.1 hp with hp|hp
  ·simp only[fK,jf,jg]at hp;rcases hp with rfl|rfl
   ·simp
   omega
  rcases jY.1 hp with hp|hp
  ·have:=hol.2 p hp;omega
  rw[gB.1 hp];omega
 have:BF s=eO (fR (xu s)):=by
  unfold BF;rw[e1,e2,e3,e4,gV,gV,gV,gV]
 rw[this]
def zH7(h:mT 1000000 s)(ho:s.Out.length<=400000)(hs:BF s=Z)(h1:s.dD=1->s.Poly=vt)(h2:s.dD=2->s.br=sk):zG (fR (xu s))=J (s,Z):=by
 have zQ:=QJ h ho;rw[aB hs]at zQ;unfold BF at hs;simp only[bI]at hs;obtain⟨e1,e2,e3,e4,e5⟩:=hs;have dc:=zDM e2;have dp:=zCX e3;have sp:=zDW e5;obtain⟨a,O,M,P⟩:=s;unfold kG at e1;simp only[tY,v9]at e1;rcases e1 with rfl|rfl
 ·cases h1 rfl;have hp:xu ⟨1,O,M,vt⟩=[[1],iX O,M.cu,M.aF,iL M.Pi]:=rfl;rw[hp]at sp zQ⊢;unfold zG;refine bE (ag sp (ay (ψ:=(· =aa)) (bt rfl (bt rfl (ag (a:=[1]) rfl (aj rfl)))) ?_));rintro _ rfl;refine bt rfl (ag (a:=iX O) rfl (ag dc (ag (a:=iL M.Pi) rfl (ag dp (ag (a:=[1]) rfl (ag (a:=1) rfl ?_))))));refine ay (ψ:=(· =.inl (1,O,M.cu,M.aF,M.Pi.aC,M.Pi.aV,M.Pi.aD,[],[],[],[],[],[]))) (ay (ψ:=(· =Z)) (fU rfl (aj rfl)) ?_) ?_
  ·rintro _ rfl;exact fU rfl (ag (a:=M.cu) rfl (ag (a:=M.aF) rfl (aj rfl)))
  rintro _ rfl;refine ag zQ (ay (ψ:=(· =aa)) (bt rfl (bt rfl (bt rfl (ag (GW _ _) (aj (by simp)))))) ?_);rintro _ rfl;exact bt rfl (aj rfl)
 cases h2 rfl;have hp:xu ⟨2,O,sk,P⟩=[[2],iX O,P.bQ,P.bL,P.aF,iL P.Pi]:=rfl;rw[hp]at sp zQ⊢;unfold zG;refine bE (ag sp (ay (ψ:=(· =aa)) (bt rfl (bt rfl (ag (a:=[2]) rfl (aj rfl)))) ?_));rintro _ rfl;refine bt rfl (ag (a:=iX O) rfl (ag dc (ag (a:=iL P.Pi) rfl (ag dp (ag (a:=[2]) rfl (ag (a:=2) rfl ?_))))));refine ay (ψ:=(· =.inl (2,O,[],[],[],[],[],P.bQ,P.bL,P.aF,P.Pi.aC,P.Pi.aV,P.Pi.aD))) (ay (ψ:=(· =aa)) (bt rfl (aj rfl)) ?_) ?_
 ·rintro _ rfl;refine bt rfl (ay (ψ:=(· =Z)) (fU rfl (aj rfl)) ?_);rintro _ rfl;exact fU rfl (ag (a:=P.bQ) rfl (ag (a:=P.bL) rfl (ag (a:=P.aF) rfl (aj rfl))))
 rintro _ rfl;refine ag zQ (ay (ψ:=(· =aa)) (bt rfl (bt rfl (bt rfl (ag (GW _ _) (aj (by simp)))))) ?_);rintro _ rfl;exact bt rfl (aj rfl)
def zBF:zG []=J (np,aa):=by
 obtain⟨z,z1,z2⟩:=zHC (l:=[]) (by simp)
 have hz:z.2=aa:=by
  cases h:z.2 with
  |false=>rfl
  |true=>
   have:=(z2 h).2;unfold fR at this;cases this
 unfold zG;rw[z1];refine bE (ay (ψ:=(· =Z)) (fU (by rw[hz];rfl) (aj rfl)) ?_);rintro _ rfl;exact fU rfl (aj rfl)
def zrk(hb:Bt code):Rn (DM code) (λz=>(Gw z.1/\Dg z.1)/\z.2.2.1.length<=13):=by
 unfold DM LY;refine ay (ψ:=λz=>(Gw z.1/\Dg z.1)/\z.2.2.1.length<=13) (ay (zzi hb (Xf code) (by omega)) λz1 ⟨a1,a2,a3⟩=>ay (jF (m:=2) hb a3 (by omega)) λz2 ⟨_,_,_,_,b3⟩=>ay (LD hb b3 (by omega)) λz3 c3=>?_) λz h=>aj h
 refine ay (ψ:=λx=>Cu code 1000 x.1) (aZ (λ_=>ay (oB hb c3 (by omega) (by simp)) λz8 ⟨_,d3⟩=>aj (d3.mono (by omega))) λ_=>aj (c3.mono (by omega))) λx hx=>?_
 refine ag (QG x.2 (by omega)) ?_
 obtain⟨q,hq,cN⟩:∃q:Nat,(if(cX 1 12 (z1.2.2.1.length:Int)&&kG x.2)=Z then(((mf x.2 z1.2.2.1.length:Nat):Int),Z)else((0:Int),aa)).1=(q:Int)/\q<=1000:=by
  split
  ·exact⟨_,rfl,by unfold mf;split<;>omega⟩
  ·exact⟨0,rfl,by omega⟩
 rw[hq];exact ay (UO hb hx (by omega) a1.1 cN) λy _=>aj ⟨a1,a2⟩
def Xs{arg:Int}(x:SG gr key l arg s):mT 1000 s/\s.Out.length<=13:=by
 obtain⟨a,b,c,d,e,f,g⟩:=x.ln;refine⟨⟨a,b,c,d,e,f,g⟩,?_⟩;obtain⟨perm,rs,m,ho⟩:=x.xo;have:=m.n;rw[ho,kv,m.pl];omega
def mT.up{n m:Nat}(h:n<=m)(x:mT n s):mT m s:=
 ⟨gj x.la h,gj x.lb h,⟨gj x.lc.1 h,gj x.lc.2.1 h,gj x.lc.2.2 h⟩,gj x.ld h,gj x.le h,gj x.lf h,⟨gj x.lg.1 h,gj x.lg.2.1 h,gj x.lg.2.2 h⟩⟩
def Za:mT 1000 np/\np.Out.length<=13:=⟨⟨by simp,by simp,⟨by simp,by simp,by simp⟩,by simp,by simp,by simp,⟨by simp,by simp,by simp⟩⟩,by simp⟩
def zxc{c0:List Int}{at_ dC n:Int}(hb:Bt code)(h:Cu code n (c0,at_,dC))(hn:n<=2000000000000000)(hg:Gw gr)(hs:mT 1000 s)(ho:s.Out.length<=13):Rn (IF c0 at_ dC gr s) (λz=>mT 1001 z.1/\Cu code (n+60) z.2):=by
 have fL:mT 1001 s:=hs.up (by omega);unfold IF;refine aG (by omega) (ay (jF (m:=9) hb h (by omega)) λz1 ⟨_,_,_,_,b3⟩=>?_);refine ay (ψ:=λx=>mT 1001 (ec.mk x.2.1 x.2.2.1 (cF.mk x.2.2.2.1 x.2.2.2.2.1 (bZ.mk x.2.2.2.2.2.1 x.2.2.2.2.2.2.1 x.2.2.2.2.2.2.2.1)) (cn.mk x.2.2.2.2.2.2.2.2.1 x.2.2.2.2.2.2.2.2.2.1 x.2.2.2.2.2.2.2.2.2.2.1 (bZ.mk x.2.2.2.2.2.2.2.2.2.2.2.1 x.2.2.2.2.2.2.2.2.2.2.2.2.1 x.2.2.2.2.2.2.2.2.2.2.2.2.2)))/\Cu code (n+60) x.1) ?_ λx hx=>aj hx
 have b4:Cu code (n+60) z1.2:=b3.mono (by omega);have own:∀(o:List an) (a:Int),mT 1001 ⟨a,o,⟨s.br.cu,s.br.aF,⟨s.br.Pi.aC,s.br.Pi.aV,s.br.Pi.aD⟩⟩,⟨s.Poly.bQ,s.Poly.bL,s.Poly.aF,⟨s.Poly.Pi.aC,s.Poly.Pi.aV,s.Poly.Pi.aD⟩⟩⟩:=λo a=>⟨fL.la,fL.lb,fL.lc,fL.ld,fL.le,fL.lf,fL.lg⟩
 refine aZ (λ_=>aZ (λg=>?_) λ_=>aj ⟨own _ _,b4⟩) λ_=>aZ (λ_=>?_) λ_=>aZ (λ_=>?_) λ_=>aZ (λ_=>?_) λ_=>aZ (λ_=>aZ (λg=>?_) λ_=>aj ⟨own _ _,b4⟩) λ_=>aj ⟨own _ _,b4⟩
 ·have g:0<(s.Out.length:Int):=by simpa using g
  refine ay (zzv hb b3 (by omega) (by omega)) λw ⟨⟨i,hi,cH⟩,w2⟩=>ay (HW hb w2 (by omega) hg) λ_ ⟨_,_,w3⟩=>?_
  rw[hi];exact bD cH (aj ⟨own _ _,w3.mono (by omega)⟩)
 ·exact ay (ZS hb b3 (by omega) hg hs.lc) λw ⟨w1,w2⟩=>aj ⟨⟨fL.la,fL.lb,w1,fL.ld,fL.le,fL.lf,fL.lg⟩,w2.mono (by omega)⟩
 ·exact ay (ZS hb b3 (by omega) hg hs.lg) λw ⟨w1,w2⟩=>aj ⟨⟨fL.la,fL.lb,fL.lc,fL.ld,fL.le,fL.lf,w1⟩,w2.mono (by omega)⟩
 ·exact ay (jF (m:=4) hb b3 (by omega)) λw ⟨_,_,_,_,w5⟩=>aj ⟨own _ _,w5.mono (by omega)⟩
 have g:1<(s.Out.length:Int):=by simpa using g
 exact bD (k:=0) (by omega) (bD (k:=1) (by omega) (bD (k:=1) (by rw[KC];omega) (aj ⟨own _ _,b4⟩)))
def zCN(hb:Bt code):Rn (I6 code) (λz=>Dg z.1/\z.2.2.1.length<=13/\mT 1001 z.2.2.2):=by
 unfold I6;refine ay (zrk hb) λz ⟨⟨z1,z2⟩,z3⟩=>?_
 obtain⟨s,t,_,e2,e3,e4⟩:=US z.1 z2 z.2.1 z3 z.2.2.2.1 z.2.2.2.2.1 z.2.2.2.2.2
 have hl:mT 1000 s/\s.Out.length<=13:=by
  cases t
  ·rw[e3 rfl];exact Za
  ·exact Xs (e4 rfl)
 exact ag e2 (ay (zxc hb (Xf code) (by omega) z1 hl.1 hl.2) λw hw=>aj ⟨z2,z3,hw.1⟩)
def zGG(a b:List Int)(h0:∀x∈a,0<=x/\x<=255)(h1:∀x∈b,0<=x/\x<=255)(zf:a.length<=1048576)(zl:b.length<=1048576):Hy a b=J Z:=by
 have hba:Bt a:=⟨h0,by omega⟩
 have GZ:Bt b:=⟨h1,by omega⟩
 unfold Hy Mm;refine bE (ay (ψ:=λ_=>True) (ay (ψ:=λ_=>True) (aZ (λ_=>aj trivial) λ_=>aj trivial) λ_ _=>aj trivial) λ_ _=>aZ (λ_=>aj rfl) λ_=>?_);refine ay (zrk hba) λz ⟨⟨z1,z2⟩,z3⟩=>?_
 obtain⟨s,t,e1,e2,e3,e4⟩:=US z.1 z2 z.2.1 z3 z.2.2.2.1 z.2.2.2.2.1 z.2.2.2.2.2;refine ag e1 (ag e2 (ay (ψ:=(· =aa)) (bt (by simp) (ag (zFd _) (aj rfl))) ?_));rintro _ rfl;refine bt rfl (ay (ψ:=(· =.inl ())) (aZ (λht=>?_) λ_=>aj rfl) ?_)
 ·have ht:t=Z:=ht;subst ht;have X:=e4 rfl;obtain⟨hl,hlo⟩:=Xs X;refine ag (zHd z2 X) (ay (ψ:=(· =aa)) (bt rfl (aj rfl)) ?_);rintro _ rfl;refine bt rfl ?_;have sr:=QJ (hl.up (by omega)) (show s.Out.length<=400000 by omega);cases hs:BF s with
  |false=>
   rw[hs,az (by simp)]at sr;have sr0:=QJ (s:=np) (Za.1.up (by omega)) (by simp);refine ag sr (ag zBF (ag sr0 (ay (ψ:=(· =aa)) (bt rfl (aj rfl)) ?_)));rintro _ rfl;exact bt rfl (aj rfl)
  |true=>
   rw[hs,aB rfl]at sr;have so:=zH7 (hl.up (by omega)) (show s.Out.length<=400000 by omega) hs (λh=>(X.xm (X.xa▸h)).1) λh=>(X.xp (X.xa▸h)).1
   refine ag sr (ag so (ag sr (ay (ψ:=(· =aa)) (fU rfl (bt rfl (bt rfl (ag zAL (aj rfl))))) ?_)));rintro _ rfl;exact bt rfl (aj rfl)
 rintro _ rfl;refine ay (zCN GZ) λy ⟨y1,y2,y3⟩=>?_
 obtain⟨v,u,f1,f2⟩:=zKF y.1 y1 y.2.1 y2 (y3.up (by omega));refine ag f1 (ag f2 (ay (ψ:=(· =Z)) (fU (by simp) (aj (by simp))) ?_));rintro _ rfl;exact aj rfl
end Go.Pm
