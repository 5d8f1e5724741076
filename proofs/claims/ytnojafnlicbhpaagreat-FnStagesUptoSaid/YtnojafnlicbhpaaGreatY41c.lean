/-
  FnStages: plain laws.
  No condition.
-/
import Derived.Test.YtnojafnlicbhpaaGreatY41b
open Bool renaming false→aa,true→Z
open Option renaming some→J
set_option linter.defProp false
namespace Go.Pm
open Go.Am IntKind
set_option linter.unusedVariables false
set_option linter.unusedSimpArgs false
variable{code:List Int}{gr:am}{key:Int}{l:List an}{s:d8}
def Vy(gr:am)(hg:Dg gr)(key:Int)(hl:l.length<=13)(arg:Int)(perm aH:List Int):
 ∃s t,tj gr key l arg perm aH=J (s,t)/\tO gr key l arg perm aH=J (s,t)/\(t=aa->s=ni)/\(t=Z->PG gr key l arg s):=by
 have gI:tE gr key l=J (⟨0,[]⟩,aa)->tj gr key l arg perm aH=J (ni,aa):=λh=>by
  unfold tj;rw[h];rfl
 have gS:pR gr key l=J aa->tO gr key l arg perm aH=J (ni,aa):=λh=>by
  unfold tO tI;rw[OV arg (by omega),h];cases (cX 1 12 l.length&&kA arg)<;>rfl
 by_cases hk:ao gr
 ·have hq:=hk.q;have hp:=hk.p;obtain⟨B,b1,b2,b3⟩:=M0 hk (hg hk) (n:=l.length) hl;have B6:=vu hk key l b2;have uD:=uS hk key l;cases hm:fC gr key l with
  |false=>
   rw[hm]at B6;rw[show(aK gr key&&(cX 1 12 l.length&&l.all (b7 gr)))=fC gr key l from rfl,hm]at uD;exact⟨ni,aa,gI B6,gS uD,λ_=>rfl,by simp⟩
  |true=>
   rw[hm,aB rfl]at B6;rw[show(aK gr key&&(cX 1 12 l.length&&l.all (b7 gr)))=fC gr key l from rfl,hm]at uD
   have hn:cX 1 12 (l.length:Int)=Z:=by
    unfold fC at hm;simp only[bI]at hm;exact hm.2.1
   have OS:=ZT.1 hn
   have RH:tI gr key l=J Z:=by
    unfold tI;rw[uD,aR,az (by simp),b1];rfl
   have V5:=OV arg (n:=l.length) (by omega);rw[hn,gV]at V5;have Tu:=zHT arg (n:=l.length) (by omega);have AbD:=yO (gr:=gr) (by omega) (by omega) aH
   have hS:tO gr key l arg perm aH=if(kA arg&&(decide (perm.length=l.length)&&((decide (perm.length<=24)&&d5 perm)&&(decide (aH.length=mq arg l.length)&&aH.all (dq gr)))))=Z then(AM gr key l arg perm aH).bind λz=>J (z,Z)else J (ni,aa):=by
    have e1:((perm.length:Int) !=(l.length:Int))= !decide (perm.length=l.length):=by
     by_cases h:perm.length=l.length
     ·rw[t5 h,h];simp
     ·rw[Dd h];simp;omega
    have e2:((aH.length:Int) !=((mq arg l.length:Nat):Int))= !decide (aH.length=mq arg l.length):=by
     by_cases h:aH.length=mq arg l.length
     ·rw[t5 h,h];simp
     ·rw[Dd h];simp;omega
    unfold tO;rw[V5,RH,zB5,AbD];generalize AM gr key l arg perm aH=X;cases ha:kA arg with
    |false=>rfl
    |true=>
     simp only[eP,aR,wc,p7,l7,e1,e2,gV];cases decide (perm.length=l.length)<;>cases (decide (perm.length<=24)&&d5 perm)<;>cases decide (aH.length=mq arg l.length)<;>cases aH.all (dq gr)<;>rfl
   cases ha:kA arg with
   |false=>
    rw[ha,Aaq,az (by simp)]at hS;refine⟨ni,aa,?_,hS,λ_=>rfl,by simp⟩;unfold tj;rw[B6,JI,ha];rfl
   |true=>
    rw[ha,gV]at hS;by_cases hc:aH.length=mq arg l.length
    ·have Xb:l.length<=aH.length:=by rw[hc];unfold mq;split<;>omega
     have BT:=zL hk (n:=l.length) (by omega) perm (aH.take l.length);rw[show(decide (perm.length=l.length)&&d5 perm&&(decide ((aH.take l.length).length=l.length)&&(aH.take l.length).all (dq gr)))=km gr l.length perm (aH.take l.length)from rfl]at BT;have Lt:((aH.length:Int) !=((mq arg l.length:Nat):Int))=aa:=by rw[hc];simp
     have Qb:aH.all (dq gr)=((aH.take l.length).all (dq gr)&&(aH.drop l.length).all (dq gr)):=by
      rw[<-kq,De]
     have zo:(aH.take aH.length).drop l.length=aH.drop l.length:=by rw[f6]
     have YH:(aH.drop l.length).length=mq arg l.length-l.length:=by rw[OC,hc]
     have h9:decide ((aH.take l.length).length=l.length)=Z:=t5 (by rw[nu];omega);cases Aw:km gr l.length perm (aH.take l.length)with
     |false=>
      rw[Aw]at BT;refine⟨ni,aa,?_,?_,λ_=>rfl,by simp⟩
      ·unfold tj;rw[B6,JI,ha,Tu];simp only[aR,wc,p7,l7,Lt,Sz,BT,eK (show(0:Int)<=(l.length:Int)by omega),eK (show 0<=l.length/\l.length<=aH.length by omega),Bool.not_false,eP]
      ·rw[hS,az];rw[Qb];unfold km at Aw;rw[h9]at Aw;revert Aw;cases decide (perm.length=l.length)<;>cases d5 perm<;>cases (aH.take l.length).all (dq gr)<;>simp
     |true=>
      rw[Aw]at BT;have m:m9 gr key l perm (aH.take l.length):=Oj.1 (by rw[hm,Aw];rfl);have dL:=m.pl
      have iI:tj gr key l arg perm aH=((if(arg==1)=Z then(pN gr key l perm (aH.take l.length) (aH.drop l.length)).bind λhY=>J (arg,zaR gr key l perm (aH.take l.length),hY.1.cq,hY.1.aF,hY.1.Pi.aC,hY.1.Pi.aV,hY.1.Pi.aE,[],[],[],[],[],[],hY.2)else(rM gr key l perm (aH.take l.length) (aH.drop l.length)).bind λfQ=>J (arg,zaR gr key l perm (aH.take l.length),[],[],[],[],[],fQ.1.bQ,fQ.1.bK,fQ.1.aF,fQ.1.Pi.aC,fQ.1.Pi.aV,fQ.1.Pi.aE,fQ.2):Option (Int×List an×List Int×List Int×List Int×List Int×List Int×List Int×List Int×List Int×List Int×List Int×List Int×Bool))).bind λdn=>
       if(!dn.2.2.2.2.2.2.2.2.2.2.2.2.2)=Z then J (ni,aa)else J (d8.mk dn.1 dn.2.1 (cH.mk dn.2.2.1 dn.2.2.2.1 (bZ.mk dn.2.2.2.2.1 dn.2.2.2.2.2.1 dn.2.2.2.2.2.2.1)) (cn.mk dn.2.2.2.2.2.2.2.1 dn.2.2.2.2.2.2.2.2.1 dn.2.2.2.2.2.2.2.2.2.1 (bZ.mk dn.2.2.2.2.2.2.2.2.2.2.1 dn.2.2.2.2.2.2.2.2.2.2.2.1 dn.2.2.2.2.2.2.2.2.2.2.2.2.1)),Z):=by
       unfold tj;rw[B6,JI,ha,Tu];simp only[aR,wc,p7,l7,Lt,Sz,BT,eK (show(0:Int)<=(l.length:Int)by omega),eK (show 0<=l.length/\l.length<=aH.length by omega),eK (show l.length<=aH.length/\aH.length<=aH.length by omega),O2 hk m,zo]
      have hT:(aH.drop l.length).all (dq gr)=Z->tO gr key l arg perm aH=(AM gr key l arg perm aH).bind λz=>J (z,Z):=λhe=>by
       rw[hS,aB];rw[Qb,he,m.re,t5 dL,m.pb,t5 hc,t5 (show perm.length<=24 by omega)];rfl
      have hF:(aH.drop l.length).all (dq gr)=aa->tO gr key l arg perm aH=J (ni,aa):=λhe=>by
       rw[hS,az];rw[Qb,he];simp
      have xS:AM gr key l arg perm aH=((if(arg==1)=Z then(uJ gr key l perm (aH.take l.length) (aH.drop l.length)).bind λz6=>J (arg,zaR gr key l perm (aH.take l.length),z6.1.cq,z6.1.aF,z6.1.Pi.aC,z6.1.Pi.aV,z6.1.Pi.aE,[],[],[],[],[],[])else(zT gr key l perm (aH.take l.length) (aH.drop l.length)).bind λz7=>J (arg,zaR gr key l perm (aH.take l.length),[],[],[],[],[],z7.1.bQ,z7.1.bK,z7.1.aF,z7.1.Pi.aC,z7.1.Pi.aV,z7.1.Pi.aE):Option (Int×List an×List Int×List Int×List Int×List Int×List Int×List Int×List Int×List Int×List Int×List Int×List Int))).bind λx4=>
       J (d8.mk x4.1 x4.2.1 (cH.mk x4.2.2.1 x4.2.2.2.1 (bZ.mk x4.2.2.2.2.1 x4.2.2.2.2.2.1 x4.2.2.2.2.2.2.1)) (cn.mk x4.2.2.2.2.2.2.2.1 x4.2.2.2.2.2.2.2.2.1 x4.2.2.2.2.2.2.2.2.2.1 (bZ.mk x4.2.2.2.2.2.2.2.2.2.2.1 x4.2.2.2.2.2.2.2.2.2.2.2.1 x4.2.2.2.2.2.2.2.2.2.2.2.2))):=by
       unfold AM;simp only[aR,Sz,eK (show(0:Int)<=(l.length:Int)by omega),eK (show 0<=l.length/\l.length<=aH.length by omega),eK (show l.length<=aH.length/\aH.length<=aH.length by omega),P0 hk m,zo]
      have rX:l.length<=20:=by omega
      by_cases h1:arg=1
      ·subst h1;have VC:(aH.drop l.length).length=4*l.length+4:=by rw[YH];unfold mq;rw[aB rfl];omega
       obtain⟨p,t,p1,p2,p3,p4⟩:=zLw gr key rX perm (aH.take l.length) (aH.drop l.length);rw[aB Lv,p1]at iI;cases he:(aH.drop l.length).all (dq gr)with
       |false=>
        have ht:t=aa:=by
         cases t with
         |false=>rfl
         |true=>
          have h:=zGx hk b2 m VC he;rw[p1]at h;cases h
        subst ht;exact⟨ni,aa,iI,hF he,λ_=>rfl,by simp⟩
       |true=>
        obtain⟨p',q1,q2⟩:=zIh hk b2 b3 m VC he;rw[p1]at q1;cases q1;have lm:=zDb rX (p4 rfl);refine⟨⟨1,zaR gr key l perm (aH.take l.length),p,ut⟩,Z,iI,?_,by simp,λ_=>⟨hk,by omega,hm,⟨perm,_,m,rfl⟩,rfl,λ_=>⟨rfl,q2⟩,by simp,ha,?_⟩⟩
        ·rw[hT he,xS,aB Lv,p2];rfl
        ·exact⟨lm.1,lm.2.1,⟨lm.2.2.1,lm.2.2.2.1,lm.2.2.2.2⟩,by simp,by simp,by simp,⟨by simp,by simp,by simp⟩⟩
      ·have h2:arg=2:=by
        unfold kA at ha;simp only[tY,v9]at ha;exact ha.resolve_left h1
       subst h2;have ZV:(aH.drop l.length).length=8*l.length+2:=by rw[YH];unfold mq;rw[az h1];omega
       obtain⟨p,t,p1,p2,p3,p4⟩:=zLe gr hg key hl perm (aH.take l.length) (aH.drop l.length);rw[az mj,p1]at iI;cases he:(aH.drop l.length).all (dq gr)with
       |false=>
        have ht:t=aa:=by
         cases t with
         |false=>rfl
         |true=>
          have h:=zEw hk (hg hk) m ZV he;rw[p1]at h;cases h
        subst ht;exact⟨ni,aa,iI,hF he,λ_=>rfl,by simp⟩
       |true=>
        obtain⟨p',q1,q2⟩:=zFT hk (hg hk) m ZV he;rw[p1]at q1;cases q1;have lm:=zCM hl (p4 rfl);refine⟨⟨2,zaR gr key l perm (aH.take l.length),rN,p⟩,Z,iI,?_,by simp,λ_=>⟨hk,by omega,hm,⟨perm,_,m,rfl⟩,rfl,by simp,λ_=>⟨rfl,q2⟩,ha,?_⟩⟩
        ·rw[hT he,xS,az mj,p2];rfl
        ·exact⟨by simp,by simp,⟨by simp,by simp,by simp⟩,lm.1,lm.2.1,lm.2.2.1,⟨lm.2.2.2.1,lm.2.2.2.2.1,lm.2.2.2.2.2⟩⟩
    ·rw[Dd hc]at hS;refine⟨ni,aa,?_,by rw[hS,az (by simp)],λ_=>rfl,by simp⟩;have Lt:((aH.length:Int) !=((mq arg l.length:Nat):Int))=Z:=by simp;omega
     unfold tj;rw[B6,JI,ha,Tu];simp only[aR,wc,p7,l7,Lt,eP]
 exact⟨ni,aa,gI (M5 hk key l),gS (Gk hk key l),λ_=>rfl,by simp⟩
def Cs(p:cn):Bool:=(p.bQ.length:Int)==0&&((p.bK.length:Int)==0&&((p.aF.length:Int)==0&&JD p.Pi))
def Ca(p:cH):Bool:=(p.cq.length:Int)==0&&((p.aF.length:Int)==0&&JD p.Pi)
def zyu(p:cn):F1 p=J (Cs p):=by
 unfold F1 Cs;rw[Xw];cases (p.bQ.length:Int)==0<;>cases (p.bK.length:Int)==0<;>cases (p.aF.length:Int)==0<;>rfl
def Yk(p:cH):FH p=J (Ca p):=by
 unfold FH Ca;rw[Xw];cases (p.cq.length:Int)==0<;>cases (p.aF.length:Int)==0<;>rfl
structure mT (n:Nat) (s:d8):Prop where
 la:s.br.cq.length<=n
 lb:s.br.aF.length<=n
 lc:s.br.Pi.aC.length<=n/\s.br.Pi.aV.length<=n/\s.br.Pi.aE.length<=n
 ld:s.Poly.bQ.length<=n
 le:s.Poly.bK.length<=n
 lf:s.Poly.aF.length<=n
 lg:s.Poly.Pi.aC.length<=n/\s.Poly.Pi.aV.length<=n/\s.Poly.Pi.aE.length<=n
def z2{a b:Nat}:(((a:Int)+(b:Int))==0)=((a:Int)==0&&((b:Int)==0)):=by
 rw[UC];simp;omega
def zDr(h:mT 1048576 s):Js s.Poly=J (Cs s.Poly):=by
 have hd:=h.ld;have he:=h.le;have hf:=h.lf;unfold Js Cs;rw[zvb h.lg.1 h.lg.2.1 h.lg.2.2,aI (n:=(s.Poly.bQ.length:Int)+(s.Poly.bK.length:Int)) (by omega) (by omega),aI (by omega) (by omega)]
 have:(((s.Poly.bQ.length:Int)+(s.Poly.bK.length:Int)+(s.Poly.aF.length:Int))==0)=((s.Poly.bQ.length:Int)==0&&((s.Poly.bK.length:Int)==0&&((s.Poly.aF.length:Int)==0))):=by
  rw[UC];simp only[bI,v9];omega
 rw[this];cases (s.Poly.bQ.length:Int)==0<;>cases (s.Poly.bK.length:Int)==0<;>cases (s.Poly.aF.length:Int)==0<;>rfl
def zDg(h:mT 1048576 s):J9 s.br=J (Ca s.br):=by
 have ha:=h.la;have hb:=h.lb;unfold J9 Ca;rw[zvb h.lc.1 h.lc.2.1 h.lc.2.2,aI (by omega) (by omega),z2];cases (s.br.cq.length:Int)==0<;>cases (s.br.aF.length:Int)==0<;>rfl
def xR(gr:am)(l:List an):Bool:=cX 1 12 l.length&&l.all (b7 gr)
def zFF(k:ao gr){out:List an}{B:ct}{tb:Bool}(hB:kT gr (l.length:Int)=J (B,tb))(p:cH)(h:xR gr out=aa):tS gr key l out p=J (aa,aa):=by
 unfold tS;rw[vu k key l hB,yp k,show(cX 1 12 out.length&&out.all (b7 gr))=xR gr out from rfl,h];cases fC gr key l<;>cases tb<;>rfl
def zEu(k:ao gr)(hd:okD gr=Z){out:List an}(hl:l.length<=13)(p:cn)(h:xR gr out=aa):tR gr key l out p=J (aa,aa):=by
 obtain⟨B,b1,b2,b3,b4⟩:=BU k hd key hl;unfold tR;rw[b4,yp k,show(cX 1 12 out.length&&out.all (b7 gr))=xR gr out from rfl,h];cases fC gr key l<;>rfl
def zMp(gr:am)(hg:Dg gr)(key:Int)(hl:l.length<=13){x:d8}(hx:mT 1048576 x):∃v t,sO gr key l x=J (v,t)/\zZ gr key l x=J (v,t):=by
 by_cases k:ao gr
 ·obtain⟨C,_,_,_,b4⟩:=BU k (hg k) key hl;obtain⟨B,c1,c2,c3⟩:=M0 k (hg k) (n:=l.length) hl;have uD:=uS k key l;rw[show(aK gr key&&(cX 1 12 l.length&&l.all (b7 gr)))=fC gr key l from rfl]at uD;cases hm:fC gr key l with
  |false=>
   rw[hm]at b4 uD;refine⟨aa,aa,?_,?_⟩
   ·unfold sO;rw[b4];rfl
   ·unfold zZ tI;rw[uD];rfl
  |true=>
   rw[hm,aB rfl]at b4;rw[hm]at uD
   have RH:tI gr key l=J Z:=by
    unfold tI;rw[uD,aR,az (by simp),c1];rfl
   have e1:=yp k x.Out;have e2:=zuP k x.Out;obtain⟨vm,tm,v1,v2⟩:=zKH gr key (l:=l) (by omega) x.Out x.br;obtain⟨vp,tp,w1,w2⟩:=zMu gr hg key hl x.Out x.Poly
   have MB:sO gr key l x=if(!xR gr x.Out)=Z then J (aa,Z)else if(x.dF==1)=Z then J (tm&&(vm&&Cs x.Poly),Z)else if(x.dF==2)=Z then J (tp&&(vp&&Ca x.br),Z)else J (aa,Z):=by
    unfold sO;rw[b4,e1,v1,w1,zyu,Yk,show(cX 1 12 x.Out.length&&x.Out.all (b7 gr))=xR gr x.Out from rfl];cases xR gr x.Out<;>cases (x.dF==1)<;>cases (x.dF==2)<;>cases tm<;>cases vm<;>cases tp<;>cases vp<;>rfl
   have TG:zZ gr key l x=if(!(decide (x.Out.length<=24)&&x.Out.all (b7 gr)))=Z then J (aa,Z)else if(x.dF==1)=Z then J (tm&&(vm&&Cs x.Poly),Z)else if(x.dF==2)=Z then J (tp&&(vp&&Ca x.br),Z)else J (aa,Z):=by
    unfold zZ LO;rw[RH,e2,v2,w2,zDr hx,zDg hx];cases (decide (x.Out.length<=24)&&x.Out.all (b7 gr))<;>cases (x.dF==1)<;>cases (x.dF==2)<;>cases tm<;>cases vm<;>cases tp<;>cases vp<;>rfl
   cases gD:xR gr x.Out with
   |true=>
    have RW:(decide (x.Out.length<=24)&&x.Out.all (b7 gr))=Z:=by
     unfold xR at gD;rw[bI]at gD;have:=ZT.1 gD.1;rw[gD.2,t5 (by omega)];rfl
    rw[gD]at MB;rw[RW]at TG;rw[MB,TG];cases (x.dF==1)<;>cases (x.dF==2)<;>exact⟨_,_,rfl,rfl⟩
   |false=>
    have a1:=zFF k c2 x.br (key:=key) gD;have a2:=zEu k (hg k) (key:=key) hl x.Poly gD;rw[v1]at a1;rw[w1]at a2;cases a1;cases a2;rw[gD]at MB;refine⟨aa,Z,MB,?_⟩;rw[TG];cases (decide (x.Out.length<=24)&&x.Out.all (b7 gr))<;>cases (x.dF==1)<;>cases (x.dF==2)<;>rfl
 refine⟨aa,aa,?_,?_⟩
 ·unfold sO;rw[Qs k];rfl
 unfold zZ tI;rw[Gk k];rfl
def zHB(hg:Dg gr){arg:Int}(x:PG gr key l arg s):sO gr key l s=J (Z,Z):=by
 have k:=x.xk;have hn:=x.xn;obtain⟨C,_,_,_,b4⟩:=BU k (hg k) key (l:=l) (by omega);rw[x.mb,aB rfl]at b4;obtain⟨perm,rs,m,ho⟩:=x.xo;have e1:=yp k s.Out;rw[ho,Pu k m,<-ho]at e1;have ha:=x.ar;unfold kA at ha;unfold sO;rw[b4,e1,x.xa];by_cases h1:arg=1
 ·obtain⟨c1,c2⟩:=x.xm h1;subst h1;rw[c2,c1];rfl
 have h2:arg=2:=by
  simp only[tY,v9]at ha;exact ha.resolve_left h1
 obtain⟨c1,c2⟩:=x.xp h2;subst h2;rw[c2,c1];rfl
def zE5{a b c:List (List Int)}(ha:a.length<=1000000)(hb:b.length<=1000000)(hc:c.length<=1000000):Fq [a,b,c]=J (a++(b++c)):=by
 unfold Fq
 have hlt:∀i,i<[a,b,c].length->([a,b,c].take (i+1)).flatten.length<=3000000/\([a,b,c].take i).flatten.length<=3000000:=λi hi=>by
  match i,hi with
  |0,_=>simp;omega
  |1,_=>simp;omega
  |2,_=>simp;omega
 have dH:∀i (hi:i<[a,b,c].length),([a,b,c].take (i+1)).flatten=([a,b,c].take i).flatten++[a,b,c][i]:=λi hi=>by
  rw[iO hi,T7];simp
 have hfl:([a,b,c].take [a,b,c].length).flatten=a++(b++c):=by simp
 have lm:(a++(b++c)).length<=3000000:=by simp;omega
 refine bE (ay (ψ:=(· =((a++(b++c)).length:Int))) (d9 (λi s=>s=((([a,b,c].take i).flatten.length:Nat):Int)) rfl ?_ λs h=>by rw[h,hfl]) ?_)
 ·rintro i s hi rfl;have h1:=hlt i hi;have h2:=gn List.length (dH i hi);rw[bP]at h2
  have w:i64.wrap (((([a,b,c].take i).flatten.length:Nat):Int)+([a,b,c][i].length:Int))=((([a,b,c].take (i+1)).flatten.length:Nat):Int):=by
   rw[aI (by omega) (by omega),h2];rfl
  refine bD hi ?_;rw[w];exact bt (Dd (by omega)) (aj rfl)
 rintro _ rfl;refine aG (by omega) (ay (ψ:=(· =a++(b++c))) (d9 (λi s=>s=([a,b,c].take i).flatten) rfl ?_ λs h=>by rw[h,hfl]) λ_ e=>aj e);rintro i s hi rfl;have h1:=hlt i hi;have h2:=gn List.length (dH i hi);rw[bP]at h2;exact bD hi (aG (by omega) (aj (dH i hi).symm))
def AV(s:d8):List (List Int):=if(s.dF==2)=Z then[s.Poly.bQ,s.Poly.bK,s.Poly.aF]else[s.br.cq,s.br.aF]
def lQ(s:d8):bZ:=if(s.dF==2)=Z then s.Poly.Pi else s.br.Pi
def zJ(s:d8):Bool:=if(s.dF==2)=Z then Ca s.br else Cs s.Poly
def xc(s:d8):List (List Int):=[[s.dF],jb s.Out]++(AV s++[iB (lQ s)])
def BB(s:d8):Bool:=kA s.dF&&(eO (jb s.Out)&&(eO (iB (lQ s))&&(zJ s&&eO (fS (xc s)))))
def Qd(h:mT 1000000 s)(ho:s.Out.length<=400000):Cq s=J (if BB s=Z then(fS (xc s),Z)else([],aa)):=by
 have ha:=h.la;have hb:=h.lb;have hc:=h.lc;have hd:=h.ld;have he:=h.le;have hf:=h.lf;have hg:=h.lg
 have PP:(lQ s).aC.length<=1048576/\(lQ s).aV.length<=1048576/\(lQ s).aE.length<=1048576:=by
  unfold lQ;split<;>exact⟨by omega,by omega,by omega⟩
 have hep:=zrI (p:=lQ s) PP.1 PP.2.1 PP.2.2
 have hol:(AV s).length<=3/\∀p∈AV s,p.length<=1000000:=by
  unfold AV;split
  ·refine⟨by simp,λp hp=>?_⟩;simp only[fK,jf,jg]at hp;rcases hp with rfl|rfl|rfl<;>omega
  ·refine⟨by simp,λp hp=>?_⟩;simp only[fK,jf,jg]at hp;rcases hp with rfl|rfl<;>omega
 have eF:(!kA s.dF)=Z->Z= !(kA s.dF&&(eO (jb s.Out)&&(eO (iB (lQ s))&&zJ s))):=λe=>by
  rw[qc]at e;rw[e];rfl
 unfold Cq;refine bE (ag (Wl (by omega)) (ag (zyu _) (ay (ψ:=(· =(AV s,(lQ s).aC,(lQ s).aV,(lQ s).aE,zJ s))) (aZ (λe=>ag (Yk _) (aj (by unfold AV lQ zJ;simp only[e,eP]))) λe=>aj (by unfold AV lQ zJ;simp only[e,p7,l7])) ?_)));rintro _ rfl;refine ag hep (ay (ψ:=(· = !(kA s.dF&&(eO (jb s.Out)&&(eO (iB (lQ s))&&zJ s))))) (ag (JI _) (aZ (λe=>aj (eF e)) λe=>?_)) ?_)
 ·have e:kA s.dF=Z:=by simpa using e
  rw[e];cases eO (jb s.Out)<;>cases eO (iB (lQ s))<;>exact⟨_,rfl,by simp⟩
 rintro _ rfl;refine aZ (λe=>aj ?_) λe=>?_
 ·rw[az];unfold BB;revert e;cases kA s.dF<;>cases eO (jb s.Out)<;>cases eO (iB (lQ s))<;>cases zJ s<;>simp
 have e:(kA s.dF&&(eO (jb s.Out)&&(eO (iB (lQ s))&&zJ s)))=Z:=by simpa using e
 simp only[bI]at e;obtain⟨e1,e2,e3,e4⟩:=e;have l1:=(Cd.1 e2).1;have l2:=(Cd.1 e3).1
 have AbT:Fq [[[s.dF],(if eO (jb s.Out)=Z then(jb s.Out,Z)else([],aa)).1],AV s,[(if eO (iB (lQ s))=Z then(iB (lQ s),Z)else([],aa)).1]]=J (xc s):=by
  rw[aB e2,aB e3];exact zE5 (by simp) (by omega) (by simp)
 refine ag AbT (ag (YV ?_ λp hp=>?_) (aj ?_))
 ·unfold xc;simp;omega
 ·unfold xc at hp;rcases jY.1 hp with hp|hp
  ·simp only[fK,jf,jg]at hp;rcases hp with rfl|rfl
   ·simp
   omega
  rcases jY.1 hp with hp|hp
  ·have:=hol.2 p hp;omega
  rw[gB.1 hp];omega
 have:BB s=eO (fS (xc s)):=by
  unfold BB;rw[e1,e2,e3,e4,gV,gV,gV,gV]
 rw[this]
def zEv(h:mT 1000000 s)(ho:s.Out.length<=400000)(hs:BB s=Z)(h1:s.dF=1->s.Poly=ut)(h2:s.dF=2->s.br=rN):Ah (fS (xc s))=J (s,Z):=by
 have yV:=Qd h ho;rw[aB hs]at yV;unfold BB at hs;simp only[bI]at hs;obtain⟨e1,e2,e3,e4,e5⟩:=hs;have dc:=zDL e2;have dp:=zDN e3;have sp:=zDI e5;obtain⟨a,O,M,P⟩:=s;unfold kA at e1;simp only[tY,v9]at e1;rcases e1 with rfl|rfl
 ·cases h1 rfl;have hp:xc ⟨1,O,M,ut⟩=[[1],jb O,M.cq,M.aF,iB M.Pi]:=rfl;rw[hp]at sp yV⊢;unfold Ah;refine bE (ag sp (ay (ψ:=(· =aa)) (bt rfl (bt rfl (ag (a:=[1]) rfl (aj rfl)))) ?_));rintro _ rfl;refine bt rfl (ag (a:=jb O) rfl (ag dc (ag (a:=iB M.Pi) rfl (ag dp (ag (a:=[1]) rfl (ag (a:=1) rfl ?_))))));refine ay (ψ:=(· =.inl (1,O,M.cq,M.aF,M.Pi.aC,M.Pi.aV,M.Pi.aE,[],[],[],[],[],[]))) (ay (ψ:=(· =Z)) (fY rfl (aj rfl)) ?_) ?_
  ·rintro _ rfl;exact fY rfl (ag (a:=M.cq) rfl (ag (a:=M.aF) rfl (aj rfl)))
  rintro _ rfl;refine ag yV (ay (ψ:=(· =aa)) (bt rfl (bt rfl (bt rfl (ag (I5 _ _) (aj (by simp)))))) ?_);rintro _ rfl;exact bt rfl (aj rfl)
 cases h2 rfl;have hp:xc ⟨2,O,rN,P⟩=[[2],jb O,P.bQ,P.bK,P.aF,iB P.Pi]:=rfl;rw[hp]at sp yV⊢;unfold Ah;refine bE (ag sp (ay (ψ:=(· =aa)) (bt rfl (bt rfl (ag (a:=[2]) rfl (aj rfl)))) ?_));rintro _ rfl;refine bt rfl (ag (a:=jb O) rfl (ag dc (ag (a:=iB P.Pi) rfl (ag dp (ag (a:=[2]) rfl (ag (a:=2) rfl ?_))))));refine ay (ψ:=(· =.inl (2,O,[],[],[],[],[],P.bQ,P.bK,P.aF,P.Pi.aC,P.Pi.aV,P.Pi.aE))) (ay (ψ:=(· =aa)) (bt rfl (aj rfl)) ?_) ?_
 ·rintro _ rfl;refine bt rfl (ay (ψ:=(· =Z)) (fY rfl (aj rfl)) ?_);rintro _ rfl;exact fY rfl (ag (a:=P.bQ) rfl (ag (a:=P.bK) rfl (ag (a:=P.aF) rfl (aj rfl))))
 rintro _ rfl;refine ag yV (ay (ψ:=(· =aa)) (bt rfl (bt rfl (bt rfl (ag (I5 _ _) (aj (by simp)))))) ?_);rintro _ rfl;exact bt rfl (aj rfl)
def zBi:Ah []=J (ni,aa):=by
 obtain⟨z,z1,z2⟩:=zH7 (l:=[]) (by simp)
 have hz:z.2=aa:=by
  cases h:z.2 with
  |false=>rfl
  |true=>
   have:=(z2 h).2;unfold fS at this;cases this
 unfold Ah;rw[z1];refine bE (ay (ψ:=(· =Z)) (fY (by rw[hz];rfl) (aj rfl)) ?_);rintro _ rfl;exact fY rfl (aj rfl)
def Zw(hb:Bt code):Rn (EA code) (λz=>(Gw z.1/\Dg z.1)/\z.2.2.1.length<=13):=by
 unfold EA KM;refine ay (ψ:=λz=>(Gw z.1/\Dg z.1)/\z.2.2.1.length<=13) (ay (zy5 hb (U8 code) (by omega)) λz1 ⟨a1,a2,a3⟩=>ay (jU (m:=2) hb a3 (by omega)) λz2 ⟨_,_,_,_,b3⟩=>ay (LU hb b3 (by omega)) λz3 c3=>?_) λz h=>aj h
 refine ay (ψ:=λx=>Cu code 1000 x.1) (aZ (λ_=>ay (oN hb c3 (by omega) (by simp)) λz8 ⟨_,d3⟩=>aj (d3.mono (by omega))) λ_=>aj (c3.mono (by omega))) λx hx=>?_
 refine ag (OV x.2 (by omega)) ?_
 obtain⟨q,hq,cL⟩:∃q:Nat,(if(cX 1 12 (z1.2.2.1.length:Int)&&kA x.2)=Z then(((mq x.2 z1.2.2.1.length:Nat):Int),Z)else((0:Int),aa)).1=(q:Int)/\q<=1000:=by
  split
  ·exact⟨_,rfl,by unfold mq;split<;>omega⟩
  ·exact⟨0,rfl,by omega⟩
 rw[hq];exact ay (ZY hb hx (by omega) a1.1 cL) λy _=>aj ⟨a1,a2⟩
def VR{arg:Int}(x:PG gr key l arg s):mT 1000 s/\s.Out.length<=13:=by
 obtain⟨a,b,c,d,e,f,g⟩:=x.ln;refine⟨⟨a,b,c,d,e,f,g⟩,?_⟩;obtain⟨perm,rs,m,ho⟩:=x.xo;have:=m.n;rw[ho,kK,m.pl];omega
def mT.up{n m:Nat}(h:n<=m)(x:mT n s):mT m s:=
 ⟨gj x.la h,gj x.lb h,⟨gj x.lc.1 h,gj x.lc.2.1 h,gj x.lc.2.2 h⟩,gj x.ld h,gj x.le h,gj x.lf h,⟨gj x.lg.1 h,gj x.lg.2.1 h,gj x.lg.2.2 h⟩⟩
def Vx:mT 1000 ni/\ni.Out.length<=13:=⟨⟨by simp,by simp,⟨by simp,by simp,by simp⟩,by simp,by simp,by simp,⟨by simp,by simp,by simp⟩⟩,by simp⟩
def zxS{c0:List Int}{at_ dC n:Int}(hb:Bt code)(h:Cu code n (c0,at_,dC))(hn:n<=2000000000000000)(hg:Gw gr)(hs:mT 1000 s)(ho:s.Out.length<=13):Rn (GN c0 at_ dC gr s) (λz=>mT 1001 z.1/\Cu code (n+60) z.2):=by
 have fL:mT 1001 s:=hs.up (by omega);unfold GN;refine aG (by omega) (ay (jU (m:=9) hb h (by omega)) λz1 ⟨_,_,_,_,b3⟩=>?_);refine ay (ψ:=λx=>mT 1001 (d8.mk x.2.1 x.2.2.1 (cH.mk x.2.2.2.1 x.2.2.2.2.1 (bZ.mk x.2.2.2.2.2.1 x.2.2.2.2.2.2.1 x.2.2.2.2.2.2.2.1)) (cn.mk x.2.2.2.2.2.2.2.2.1 x.2.2.2.2.2.2.2.2.2.1 x.2.2.2.2.2.2.2.2.2.2.1 (bZ.mk x.2.2.2.2.2.2.2.2.2.2.2.1 x.2.2.2.2.2.2.2.2.2.2.2.2.1 x.2.2.2.2.2.2.2.2.2.2.2.2.2)))/\Cu code (n+60) x.1) ?_ λx hx=>aj hx
 have b4:Cu code (n+60) z1.2:=b3.mono (by omega);have own:∀(o:List an) (a:Int),mT 1001 ⟨a,o,⟨s.br.cq,s.br.aF,⟨s.br.Pi.aC,s.br.Pi.aV,s.br.Pi.aE⟩⟩,⟨s.Poly.bQ,s.Poly.bK,s.Poly.aF,⟨s.Poly.Pi.aC,s.Poly.Pi.aV,s.Poly.Pi.aE⟩⟩⟩:=λo a=>⟨fL.la,fL.lb,fL.lc,fL.ld,fL.le,fL.lf,fL.lg⟩
 refine aZ (λ_=>aZ (λg=>?_) λ_=>aj ⟨own _ _,b4⟩) λ_=>aZ (λ_=>?_) λ_=>aZ (λ_=>?_) λ_=>aZ (λ_=>?_) λ_=>aZ (λ_=>aZ (λg=>?_) λ_=>aj ⟨own _ _,b4⟩) λ_=>aj ⟨own _ _,b4⟩
 ·have g:0<(s.Out.length:Int):=by simpa using g
  refine ay (zy7 hb b3 (by omega) (by omega)) λw ⟨⟨i,hi,cF⟩,w2⟩=>ay (H9 hb w2 (by omega) hg) λ_ ⟨_,_,w3⟩=>?_
  rw[hi];exact bD cF (aj ⟨own _ _,w3.mono (by omega)⟩)
 ·exact ay (VE hb b3 (by omega) hg hs.lc) λw ⟨w1,w2⟩=>aj ⟨⟨fL.la,fL.lb,w1,fL.ld,fL.le,fL.lf,fL.lg⟩,w2.mono (by omega)⟩
 ·exact ay (VE hb b3 (by omega) hg hs.lg) λw ⟨w1,w2⟩=>aj ⟨⟨fL.la,fL.lb,fL.lc,fL.ld,fL.le,fL.lf,w1⟩,w2.mono (by omega)⟩
 ·exact ay (jU (m:=4) hb b3 (by omega)) λw ⟨_,_,_,_,w5⟩=>aj ⟨own _ _,w5.mono (by omega)⟩
 have g:1<(s.Out.length:Int):=by simpa using g
 exact bD (k:=0) (by omega) (bD (k:=1) (by omega) (bD (k:=1) (by rw[KC];omega) (aj ⟨own _ _,b4⟩)))
def zDS(hb:Bt code):Rn (Ij code) (λz=>Dg z.1/\z.2.2.1.length<=13/\mT 1001 z.2.2.2):=by
 unfold Ij;refine ay (Zw hb) λz ⟨⟨z1,z2⟩,z3⟩=>?_
 obtain⟨s,t,_,e2,e3,e4⟩:=Vy z.1 z2 z.2.1 z3 z.2.2.2.1 z.2.2.2.2.1 z.2.2.2.2.2
 have hl:mT 1000 s/\s.Out.length<=13:=by
  cases t
  ·rw[e3 rfl];exact Vx
  ·exact VR (e4 rfl)
 exact ag e2 (ay (zxS hb (U8 code) (by omega) z1 hl.1 hl.2) λw hw=>aj ⟨z2,z3,hw.1⟩)
def zEH(a b:List Int)(h0:∀x∈a,0<=x/\x<=255)(h1:∀x∈b,0<=x/\x<=255)(yS:a.length<=1048576)(zO:b.length<=1048576):IJ a b=J Z:=by
 have hba:Bt a:=⟨h0,by omega⟩
 have Il:Bt b:=⟨h1,by omega⟩
 unfold IJ NO;refine bE (ay (ψ:=λ_=>True) (ay (ψ:=λ_=>True) (aZ (λ_=>aj trivial) λ_=>aj trivial) λ_ _=>aj trivial) λ_ _=>aZ (λ_=>aj rfl) λ_=>?_);refine ay (Zw hba) λz ⟨⟨z1,z2⟩,z3⟩=>?_
 obtain⟨s,t,e1,e2,e3,e4⟩:=Vy z.1 z2 z.2.1 z3 z.2.2.2.1 z.2.2.2.2.1 z.2.2.2.2.2;refine ag e1 (ag e2 (ay (ψ:=(· =aa)) (bt (by simp) (ag (zFw _) (aj rfl))) ?_));rintro _ rfl;refine bt rfl (ay (ψ:=(· =.inl ())) (aZ (λht=>?_) λ_=>aj rfl) ?_)
 ·have ht:t=Z:=ht;subst ht;have X:=e4 rfl;obtain⟨hl,hlo⟩:=VR X;refine ag (zHB z2 X) (ay (ψ:=(· =aa)) (bt rfl (aj rfl)) ?_);rintro _ rfl;refine bt rfl ?_;have sr:=Qd (hl.up (by omega)) (show s.Out.length<=400000 by omega);cases hs:BB s with
  |false=>
   rw[hs,az (by simp)]at sr;have sr0:=Qd (s:=ni) (Vx.1.up (by omega)) (by simp);refine ag sr (ag zBi (ag sr0 (ay (ψ:=(· =aa)) (bt rfl (aj rfl)) ?_)));rintro _ rfl;exact bt rfl (aj rfl)
  |true=>
   rw[hs,aB rfl]at sr;have so:=zEv (hl.up (by omega)) (show s.Out.length<=400000 by omega) hs (λh=>(X.xm (X.xa▸h)).1) λh=>(X.xp (X.xa▸h)).1
   refine ag sr (ag so (ag sr (ay (ψ:=(· =aa)) (fY rfl (bt rfl (bt rfl (ag zBn (aj rfl))))) ?_)));rintro _ rfl;exact bt rfl (aj rfl)
 rintro _ rfl;refine ay (zDS Il) λy ⟨y1,y2,y3⟩=>?_
 obtain⟨v,u,f1,f2⟩:=zMp y.1 y1 y.2.1 y2 (y3.up (by omega));refine ag f1 (ag f2 (ay (ψ:=(· =Z)) (fY (by simp) (aj (by simp))) ?_));rintro _ rfl;exact aj rfl
end Go.Pm
