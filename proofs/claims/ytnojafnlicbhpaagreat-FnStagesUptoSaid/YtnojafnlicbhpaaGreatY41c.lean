/-
  FnStages: plain laws.
  No condition.
-/
import Derived.Test.YtnojafnlicbhpaaGreatY41b
open Bool renaming false→aa,true→Z
open Option renaming some→J
set_option linter.defProp false
namespace Go.Pm
open Go.Am IntKind
set_option linter.unusedVariables false
set_option linter.unusedSimpArgs false
variable{code:List Int}{gr:an}{key:Int}{l:List aq}{s:eg}
def zAo(gr:an)(hg:Dg gr)(key:Int)(hl:l.length<=13)(arg:Int)(perm aJ:List Int):
 ∃s t,uA gr key l arg perm aJ=J (s,t)/\uD gr key l arg perm aJ=J (s,t)/\(t=aa->s=nH)/\(t=Z->Qv gr key l arg s):=by
 have gI:ux gr key l=J (⟨0,[]⟩,aa)->uA gr key l arg perm aJ=J (nH,aa):=λh=>by
  unfold uA;rw[h];rfl
 have gS:qw gr key l=J aa->uD gr key l arg perm aJ=J (nH,aa):=λh=>by
  unfold uD uw;rw[U0 arg (by omega),h];cases (dh 1 12 l.length&&kZ arg)<;>rfl
 by_cases hk:ap gr
 ·have hq:=hk.q;have hp:=hk.p;obtain⟨B,b1,b2,b3⟩:=zFT hk (hg hk) (n:=l.length) hl;have DJ:=wh hk key l b2;have xA:=uR hk key l;cases hm:fH gr key l with
  |false=>
   rw[hm]at DJ;rw[show(aM gr key&&(dh 1 12 l.length&&l.all (ce gr)))=fH gr key l from rfl,hm]at xA;exact⟨nH,aa,gI DJ,gS xA,λ_=>rfl,by simp⟩
  |true=>
   rw[hm,aD rfl]at DJ;rw[show(aM gr key&&(dh 1 12 l.length&&l.all (ce gr)))=fH gr key l from rfl,hm]at xA
   have hn:dh 1 12 (l.length:Int)=Z:=by
    unfold fH at hm;simp only[bK]at hm;exact hm.2.1
   have UR:=Yn.1 hn
   have RL:uw gr key l=J Z:=by
    unfold uw;rw[xA,aS,aB (by simp),b1];rfl
   have Xe:=U0 arg (n:=l.length) (by omega);rw[hn,ig]at Xe;have U5:=zHs arg (n:=l.length) (by omega);have a3a:=AF (gr:=gr) (by omega) (by omega) aJ
   have hS:uD gr key l arg perm aJ=if(kZ arg&&(decide (perm.length=l.length)&&((decide (perm.length<=24)&&d8 perm)&&(decide (aJ.length=mX arg l.length)&&aJ.all (dx gr)))))=Z then(zT gr key l arg perm aJ).bind λz=>J (z,Z)else J (nH,aa):=by
    have e1:((perm.length:Int) !=(l.length:Int))= !decide (perm.length=l.length):=by
     by_cases h:perm.length=l.length
     ·rw[uK h,h];simp
     ·rw[Ez h];simp;omega
    have e2:((aJ.length:Int) !=((mX arg l.length:Nat):Int))= !decide (aJ.length=mX arg l.length):=by
     by_cases h:aJ.length=mX arg l.length
     ·rw[uK h,h];simp
     ·rw[Ez h];simp;omega
    unfold uD;rw[Xe,RL,zA8,a3a];generalize zT gr key l arg perm aJ=X;cases ha:kZ arg with
    |false=>rfl
    |true=>
     simp only[e9,aS,xK,qH,my,e1,e2,ig];cases decide (perm.length=l.length)<;>cases (decide (perm.length<=24)&&d8 perm)<;>cases decide (aJ.length=mX arg l.length)<;>cases aJ.all (dx gr)<;>rfl
   cases ha:kZ arg with
   |false=>
    rw[ha,a1i,aB (by simp)]at hS;refine⟨nH,aa,?_,hS,λ_=>rfl,by simp⟩;unfold uA;rw[DJ,LI,ha];rfl
   |true=>
    rw[ha,ig]at hS;by_cases hc:aJ.length=mX arg l.length
    ·have hge:l.length<=aJ.length:=by rw[hc];unfold mX;split<;>omega
     have CY:=AO hk (n:=l.length) (by omega) perm (aJ.take l.length);rw[show(decide (perm.length=l.length)&&d8 perm&&(decide ((aJ.take l.length).length=l.length)&&(aJ.take l.length).all (dx gr)))=kH gr l.length perm (aJ.take l.length)from rfl]at CY;have PW:((aJ.length:Int) !=((mX arg l.length:Nat):Int))=aa:=by rw[hc];simp
     have RG:aJ.all (dx gr)=((aJ.take l.length).all (dx gr)&&(aJ.drop l.length).all (dx gr)):=by
      rw[<-kQ,EA]
     have A9:(aJ.take aJ.length).drop l.length=aJ.drop l.length:=by rw[gw]
     have hdl:(aJ.drop l.length).length=mX arg l.length-l.length:=by rw[Qm,hc]
     have h9:decide ((aJ.take l.length).length=l.length)=Z:=uK (by rw[nO];omega);cases Bp:kH gr l.length perm (aJ.take l.length)with
     |false=>
      rw[Bp]at CY;refine⟨nH,aa,?_,?_,λ_=>rfl,by simp⟩
      ·unfold uA;rw[DJ,LI,ha,U5];simp only[aS,xK,qH,my,PW,U8,CY,eV (show(0:Int)<=(l.length:Int)by omega),eV (show 0<=l.length/\l.length<=aJ.length by omega),Bool.not_false,e9]
      ·rw[hS,aB];rw[RG];unfold kH at Bp;rw[h9]at Bp;revert Bp;cases decide (perm.length=l.length)<;>cases d8 perm<;>cases (aJ.take l.length).all (dx gr)<;>simp
     |true=>
      rw[Bp]at CY;have m:nD gr key l perm (aJ.take l.length):=P0.1 (by rw[hm,Bp];rfl);have dR:=m.pl
      have iI:uA gr key l arg perm aJ=((if(arg==1)=Z then(qq gr key l perm (aJ.take l.length) (aJ.drop l.length)).bind λgK=>J (arg,zaS gr key l perm (aJ.take l.length),gK.1.cy,gK.1.aH,gK.1.Pi.aE,gK.1.Pi.aW,gK.1.Pi.aG,[],[],[],[],[],[],gK.2)else(sA gr key l perm (aJ.take l.length) (aJ.drop l.length)).bind λfe=>J (arg,zaS gr key l perm (aJ.take l.length),[],[],[],[],[],fe.1.bV,fe.1.bM,fe.1.aH,fe.1.Pi.aE,fe.1.Pi.aW,fe.1.Pi.aG,fe.2):Option (Int×List aq×List Int×List Int×List Int×List Int×List Int×List Int×List Int×List Int×List Int×List Int×List Int×Bool))).bind λdw=>
       if(!dw.2.2.2.2.2.2.2.2.2.2.2.2.2)=Z then J (nH,aa)else J (eg.mk dw.1 dw.2.1 (cM.mk dw.2.2.1 dw.2.2.2.1 (cb.mk dw.2.2.2.2.1 dw.2.2.2.2.2.1 dw.2.2.2.2.2.2.1)) (ct.mk dw.2.2.2.2.2.2.2.1 dw.2.2.2.2.2.2.2.2.1 dw.2.2.2.2.2.2.2.2.2.1 (cb.mk dw.2.2.2.2.2.2.2.2.2.2.1 dw.2.2.2.2.2.2.2.2.2.2.2.1 dw.2.2.2.2.2.2.2.2.2.2.2.2.1)),Z):=by
       unfold uA;rw[DJ,LI,ha,U5];simp only[aS,xK,qH,my,PW,U8,CY,eV (show(0:Int)<=(l.length:Int)by omega),eV (show 0<=l.length/\l.length<=aJ.length by omega),eV (show l.length<=aJ.length/\aJ.length<=aJ.length by omega),Ui hk m,A9]
      have hT:(aJ.drop l.length).all (dx gr)=Z->uD gr key l arg perm aJ=(zT gr key l arg perm aJ).bind λz=>J (z,Z):=λhe=>by
       rw[hS,aD];rw[RG,he,m.re,uK dR,m.pb,uK hc,uK (show perm.length<=24 by omega)];rfl
      have hF:(aJ.drop l.length).all (dx gr)=aa->uD gr key l arg perm aJ=J (nH,aa):=λhe=>by
       rw[hS,aB];rw[RG,he];simp
      have xS:zT gr key l arg perm aJ=((if(arg==1)=Z then(vx gr key l perm (aJ.take l.length) (aJ.drop l.length)).bind λz6=>J (arg,zaS gr key l perm (aJ.take l.length),z6.1.cy,z6.1.aH,z6.1.Pi.aE,z6.1.Pi.aW,z6.1.Pi.aG,[],[],[],[],[],[])else(Ba gr key l perm (aJ.take l.length) (aJ.drop l.length)).bind λz7=>J (arg,zaS gr key l perm (aJ.take l.length),[],[],[],[],[],z7.1.bV,z7.1.bM,z7.1.aH,z7.1.Pi.aE,z7.1.Pi.aW,z7.1.Pi.aG):Option (Int×List aq×List Int×List Int×List Int×List Int×List Int×List Int×List Int×List Int×List Int×List Int×List Int))).bind λx4=>
       J (eg.mk x4.1 x4.2.1 (cM.mk x4.2.2.1 x4.2.2.2.1 (cb.mk x4.2.2.2.2.1 x4.2.2.2.2.2.1 x4.2.2.2.2.2.2.1)) (ct.mk x4.2.2.2.2.2.2.2.1 x4.2.2.2.2.2.2.2.2.1 x4.2.2.2.2.2.2.2.2.2.1 (cb.mk x4.2.2.2.2.2.2.2.2.2.2.1 x4.2.2.2.2.2.2.2.2.2.2.2.1 x4.2.2.2.2.2.2.2.2.2.2.2.2))):=by
       unfold zT;simp only[aS,U8,eV (show(0:Int)<=(l.length:Int)by omega),eV (show 0<=l.length/\l.length<=aJ.length by omega),eV (show l.length<=aJ.length/\aJ.length<=aJ.length by omega),QB hk m,A9]
      have sI:l.length<=20:=by omega
      by_cases h1:arg=1
      ·subst h1;have hl4:(aJ.drop l.length).length=4*l.length+4:=by rw[hdl];unfold mX;rw[aD rfl];omega
       obtain⟨p,t,p1,p2,p3,p4⟩:=zMd gr key sI perm (aJ.take l.length) (aJ.drop l.length);rw[aD Ow,p1]at iI;cases he:(aJ.drop l.length).all (dx gr)with
       |false=>
        have ht:t=aa:=by
         cases t with
         |false=>rfl
         |true=>
          have h:=zEN hk b2 m hl4 he;rw[p1]at h;cases h
        subst ht;exact⟨nH,aa,iI,hF he,λ_=>rfl,by simp⟩
       |true=>
        obtain⟨p',q1,q2⟩:=zFw hk b2 b3 m hl4 he;rw[p1]at q1;cases q1;have lX:=zCo sI (p4 rfl);refine⟨⟨1,zaS gr key l perm (aJ.take l.length),p,w9⟩,Z,iI,?_,by simp,λ_=>⟨hk,by omega,hm,⟨perm,_,m,rfl⟩,rfl,λ_=>⟨rfl,q2⟩,by simp,ha,?_⟩⟩
        ·rw[hT he,xS,aD Ow,p2];rfl
        ·exact⟨lX.1,lX.2.1,⟨lX.2.2.1,lX.2.2.2.1,lX.2.2.2.2⟩,by simp,by simp,by simp,⟨by simp,by simp,by simp⟩⟩
      ·have h2:arg=2:=by
        unfold kZ at ha;simp only[uI,xH]at ha;exact ha.resolve_left h1
       subst h2;have hl8:(aJ.drop l.length).length=8*l.length+2:=by rw[hdl];unfold mX;rw[aB h1];omega
       obtain⟨p,t,p1,p2,p3,p4⟩:=zLp gr hg key hl perm (aJ.take l.length) (aJ.drop l.length);rw[aB mS,p1]at iI;cases he:(aJ.drop l.length).all (dx gr)with
       |false=>
        have ht:t=aa:=by
         cases t with
         |false=>rfl
         |true=>
          have h:=zGW hk (hg hk) m hl8 he;rw[p1]at h;cases h
        subst ht;exact⟨nH,aa,iI,hF he,λ_=>rfl,by simp⟩
       |true=>
        obtain⟨p',q1,q2⟩:=zE1 hk (hg hk) m hl8 he;rw[p1]at q1;cases q1;have lX:=zCy hl (p4 rfl);refine⟨⟨2,zaS gr key l perm (aJ.take l.length),rZ,p⟩,Z,iI,?_,by simp,λ_=>⟨hk,by omega,hm,⟨perm,_,m,rfl⟩,rfl,by simp,λ_=>⟨rfl,q2⟩,ha,?_⟩⟩
        ·rw[hT he,xS,aB mS,p2];rfl
        ·exact⟨by simp,by simp,⟨by simp,by simp,by simp⟩,lX.1,lX.2.1,lX.2.2.1,⟨lX.2.2.2.1,lX.2.2.2.2.1,lX.2.2.2.2.2⟩⟩
    ·rw[Ez hc]at hS;refine⟨nH,aa,?_,by rw[hS,aB (by simp)],λ_=>rfl,by simp⟩;have PW:((aJ.length:Int) !=((mX arg l.length:Nat):Int))=Z:=by simp;omega
     unfold uA;rw[DJ,LI,ha,U5];simp only[aS,xK,qH,my,PW,e9]
 exact⟨nH,aa,gI (NS hk key l),gS (GZ hk key l),λ_=>rfl,by simp⟩
def Cp(p:ct):Bool:=(p.bV.length:Int)==0&&((p.bM.length:Int)==0&&((p.aH.length:Int)==0&&Jl p.Pi))
def D7(p:cM):Bool:=(p.cy.length:Int)==0&&((p.aH.length:Int)==0&&Jl p.Pi)
def zyl(p:ct):F2 p=J (Cp p):=by
 unfold F2 Cp;rw[zz7];cases (p.bV.length:Int)==0<;>cases (p.bM.length:Int)==0<;>cases (p.aH.length:Int)==0<;>rfl
def Zu(p:cM):HF p=J (D7 p):=by
 unfold HF D7;rw[zz7];cases (p.cy.length:Int)==0<;>cases (p.aH.length:Int)==0<;>rfl
structure mO (n:Nat) (s:eg):Prop where
 la:s.bt.cy.length<=n
 lb:s.bt.aH.length<=n
 lc:s.bt.Pi.aE.length<=n/\s.bt.Pi.aW.length<=n/\s.bt.Pi.aG.length<=n
 ld:s.Poly.bV.length<=n
 le:s.Poly.bM.length<=n
 lf:s.Poly.aH.length<=n
 lg:s.Poly.Pi.aE.length<=n/\s.Poly.Pi.aW.length<=n/\s.Poly.Pi.aG.length<=n
def z2{a b:Nat}:(((a:Int)+(b:Int))==0)=((a:Int)==0&&((b:Int)==0)):=by
 rw[Wr];simp;omega
def zDT(h:mO 1048576 s):LN s.Poly=J (Cp s.Poly):=by
 have hd:=h.ld;have he:=h.le;have hf:=h.lf;unfold LN Cp;rw[Zc h.lg.1 h.lg.2.1 h.lg.2.2,aK (n:=(s.Poly.bV.length:Int)+(s.Poly.bM.length:Int)) (by omega) (by omega),aK (by omega) (by omega)]
 have:(((s.Poly.bV.length:Int)+(s.Poly.bM.length:Int)+(s.Poly.aH.length:Int))==0)=((s.Poly.bV.length:Int)==0&&((s.Poly.bM.length:Int)==0&&((s.Poly.aH.length:Int)==0))):=by
  rw[Wr];simp only[bK,xH];omega
 rw[this];cases (s.Poly.bV.length:Int)==0<;>cases (s.Poly.bM.length:Int)==0<;>cases (s.Poly.aH.length:Int)==0<;>rfl
def zC6(h:mO 1048576 s):K0 s.bt=J (D7 s.bt):=by
 have ha:=h.la;have hb:=h.lb;unfold K0 D7;rw[Zc h.lc.1 h.lc.2.1 h.lc.2.2,aK (by omega) (by omega),z2];cases (s.bt.cy.length:Int)==0<;>cases (s.bt.aH.length:Int)==0<;>rfl
def yV(gr:an)(l:List aq):Bool:=dh 1 12 l.length&&l.all (ce gr)
def zEL(k:ap gr){out:List aq}{B:cA}{tb:Bool}(hB:kO gr (l.length:Int)=J (B,tb))(p:cM)(h:yV gr out=aa):tU gr key l out p=J (aa,aa):=by
 unfold tU;rw[wh k key l hB,zp k,show(dh 1 12 out.length&&out.all (ce gr))=yV gr out from rfl,h];cases fH gr key l<;>cases tb<;>rfl
def zGt(k:ap gr){out:List aq}(hd:vv gr l.length)(hl:l.length<=13)(p:ct)(h:yV gr out=aa):um gr key l out p=J (aa,aa):=by
 obtain⟨B,b1,b2,b3,b4⟩:=Pw k key hd hl;unfold um;rw[b4,zp k,show(dh 1 12 out.length&&out.all (ce gr))=yV gr out from rfl,h];cases fH gr key l<;>rfl
def zGN(gr:an)(key:Int)(hg:ap gr->vv gr l.length)(hl:l.length<=13){x:eg}(hx:mO 1048576 x):∃v t,sJ gr key l x=J (v,t)/\yB gr key l x=J (v,t):=by
 by_cases k:ap gr
 ·obtain⟨C,_,_,_,b4⟩:=Pw k key (hg k) hl;obtain⟨B,c1,c2,c3⟩:=M4 k (hg k) hl;have xA:=uR k key l;rw[show(aM gr key&&(dh 1 12 l.length&&l.all (ce gr)))=fH gr key l from rfl]at xA;cases hm:fH gr key l with
  |false=>
   rw[hm]at b4 xA;refine⟨aa,aa,?_,?_⟩
   ·unfold sJ;rw[b4];rfl
   ·unfold yB uw;rw[xA];rfl
  |true=>
   rw[hm,aD rfl]at b4;rw[hm]at xA
   have RL:uw gr key l=J Z:=by
    unfold uw;rw[xA,aS,aB (by simp),c1];rfl
   have e1:=zp k x.Out;have e2:=WC k x.Out;obtain⟨vm,tm,v1,v2⟩:=zKE gr key (l:=l) (by omega) x.Out x.bt;obtain⟨vp,tp,w1,w2⟩:=zEA gr key hg hl x.Out x.Poly
   have NY:sJ gr key l x=if(!yV gr x.Out)=Z then J (aa,Z)else if(x.dG==1)=Z then J (tm&&(vm&&Cp x.Poly),Z)else if(x.dG==2)=Z then J (tp&&(vp&&D7 x.bt),Z)else J (aa,Z):=by
    unfold sJ;rw[b4,e1,v1,w1,zyl,Zu,show(dh 1 12 x.Out.length&&x.Out.all (ce gr))=yV gr x.Out from rfl];cases yV gr x.Out<;>cases (x.dG==1)<;>cases (x.dG==2)<;>cases tm<;>cases vm<;>cases tp<;>cases vp<;>rfl
   have RN:yB gr key l x=if(!(decide (x.Out.length<=24)&&x.Out.all (ce gr)))=Z then J (aa,Z)else if(x.dG==1)=Z then J (tm&&(vm&&Cp x.Poly),Z)else if(x.dG==2)=Z then J (tp&&(vp&&D7 x.bt),Z)else J (aa,Z):=by
    unfold yB P6;rw[RL,e2,v2,w2,zDT hx,zC6 hx];cases (decide (x.Out.length<=24)&&x.Out.all (ce gr))<;>cases (x.dG==1)<;>cases (x.dG==2)<;>cases tm<;>cases vm<;>cases tp<;>cases vp<;>rfl
   cases gY:yV gr x.Out with
   |true=>
    have Cb:(decide (x.Out.length<=24)&&x.Out.all (ce gr))=Z:=by
     unfold yV at gY;rw[bK]at gY;have:=Yn.1 gY.1;rw[gY.2,uK (by omega)];rfl
    rw[gY]at NY;rw[Cb]at RN;rw[NY,RN];cases (x.dG==1)<;>cases (x.dG==2)<;>exact⟨_,_,rfl,rfl⟩
   |false=>
    have a1:=zEL k c2 x.bt (key:=key) gY;have a2:=zGt k (hg k) (key:=key) hl x.Poly gY;rw[v1]at a1;rw[w1]at a2;cases a1;cases a2;rw[gY]at NY;refine⟨aa,Z,NY,?_⟩;rw[RN];cases (decide (x.Out.length<=24)&&x.Out.all (ce gr))<;>cases (x.dG==1)<;>cases (x.dG==2)<;>rfl
 refine⟨aa,aa,?_,?_⟩
 ·unfold sJ;rw[Vk k];rfl
 unfold yB uw;rw[GZ k];rfl
def zMZ(gr:an)(hg:Dg gr)(key:Int)(hl:l.length<=13){x:eg}(hx:mO 1048576 x):∃v t,sJ gr key l x=J (v,t)/\yB gr key l x=J (v,t):=zGN gr key (λk=>Ue k (hg k) hl) hl hx
def zGA(hg:Dg gr){arg:Int}(x:Qv gr key l arg s):sJ gr key l s=J (Z,Z):=by
 have k:=x.xk;have hn:=x.xn;obtain⟨C,_,_,_,b4⟩:=PB k (hg k) key (l:=l) (by omega);rw[x.mb,aD rfl]at b4;obtain⟨perm,rs,m,ho⟩:=x.xo;have e1:=zp k s.Out;rw[ho,TH k m,<-ho]at e1;have ha:=x.ar;unfold kZ at ha;unfold sJ;rw[b4,e1,x.xa];by_cases h1:arg=1
 ·obtain⟨c1,c2⟩:=x.xm h1;subst h1;rw[c2,c1];rfl
 have h2:arg=2:=by
  simp only[uI,xH]at ha;exact ha.resolve_left h1
 obtain⟨c1,c2⟩:=x.xp h2;subst h2;rw[c2,c1];rfl
def zGx{a b c:List (List Int)}(ha:a.length<=1000000)(hb:b.length<=1000000)(hc:c.length<=1000000):GQ [a,b,c]=J (a++(b++c)):=by
 unfold GQ
 have hlt:∀i,i<[a,b,c].length->([a,b,c].take (i+1)).flatten.length<=3000000/\([a,b,c].take i).flatten.length<=3000000:=λi hi=>by
  match i,hi with
  |0,_=>simp;omega
  |1,_=>simp;omega
  |2,_=>simp;omega
 have dO:∀i (hi:i<[a,b,c].length),([a,b,c].take (i+1)).flatten=([a,b,c].take i).flatten++[a,b,c][i]:=λi hi=>by
  rw[jd hi,VW];simp
 have hfl:([a,b,c].take [a,b,c].length).flatten=a++(b++c):=by simp
 have lX:(a++(b++c)).length<=3000000:=by simp;omega
 refine bH (az (ψ:=(· =((a++(b++c)).length:Int))) (eo (λi s=>s=((([a,b,c].take i).flatten.length:Nat):Int)) rfl ?_ λs h=>by rw[h,hfl]) ?_)
 ·rintro i s hi rfl;have h1:=hlt i hi;have h2:=gF List.length (dO i hi);rw[bT]at h2
  have w:i64.wrap (((([a,b,c].take i).flatten.length:Nat):Int)+([a,b,c][i].length:Int))=((([a,b,c].take (i+1)).flatten.length:Nat):Int):=by
   rw[aK (by omega) (by omega),h2];rfl
  refine bG hi ?_;rw[w];exact bw (Ez (by omega)) (am rfl)
 rintro _ rfl;refine aI (by omega) (az (ψ:=(· =a++(b++c))) (eo (λi s=>s=([a,b,c].take i).flatten) rfl ?_ λs h=>by rw[h,hfl]) λ_ e=>am e);rintro i s hi rfl;have h1:=hlt i hi;have h2:=gF List.length (dO i hi);rw[bT]at h2;exact bG hi (aI (by omega) (am (dO i hi).symm))
def BD(s:eg):List (List Int):=if(s.dG==2)=Z then[s.Poly.bV,s.Poly.bM,s.Poly.aH]else[s.bt.cy,s.bt.aH]
def mj(s:eg):cb:=if(s.dG==2)=Z then s.Poly.Pi else s.bt.Pi
def Bm(s:eg):Bool:=if(s.dG==2)=Z then D7 s.bt else Cp s.Poly
def yY(s:eg):List (List Int):=[[s.dG],ji s.Out]++(BD s++[ja (mj s)])
def Cq(s:eg):Bool:=kZ s.dG&&(e7 (ji s.Out)&&(e7 (ja (mj s))&&(Bm s&&e7 (gf (yY s)))))
def TM(h:mO 1048576 s)(ho:s.Out.length<=1048576):Ei s=J (if Cq s=Z then(gf (yY s),Z)else([],aa)):=by
 have ha:=h.la;have hb:=h.lb;have hc:=h.lc;have hd:=h.ld;have he:=h.le;have hf:=h.lf;have hg:=h.lg
 have TP:(mj s).aE.length<=1048576/\(mj s).aW.length<=1048576/\(mj s).aG.length<=1048576:=by
  unfold mj;split<;>exact⟨by omega,by omega,by omega⟩
 have hep:=zrR (p:=mj s) TP.1 TP.2.1 TP.2.2
 have hol:(BD s).length<=3/\∀p∈BD s,p.length<=1048576:=by
  unfold BD;split
  ·refine⟨by simp,λp hp=>?_⟩;simp only[f6,jy,jz]at hp;rcases hp with rfl|rfl|rfl<;>omega
  ·refine⟨by simp,λp hp=>?_⟩;simp only[f6,jy,jz]at hp;rcases hp with rfl|rfl<;>omega
 have eF:(!kZ s.dG)=Z->Z= !(kZ s.dG&&(e7 (ji s.Out)&&(e7 (ja (mj s))&&Bm s))):=λe=>by
  rw[qK]at e;rw[e];rfl
 unfold Ei;refine bH (ag (Yr (by omega)) (ag (zyl _) (az (ψ:=(· =(BD s,(mj s).aE,(mj s).aW,(mj s).aG,Bm s))) (aZ (λe=>ag (Zu _) (am (by unfold BD mj Bm;simp only[e,e9]))) λe=>am (by unfold BD mj Bm;simp only[e,qH,my])) ?_)));rintro _ rfl;refine ag hep (az (ψ:=(· = !(kZ s.dG&&(e7 (ji s.Out)&&(e7 (ja (mj s))&&Bm s))))) (ag (LI _) (aZ (λe=>am (eF e)) λe=>?_)) ?_)
 ·have e:kZ s.dG=Z:=by simpa using e
  rw[e];cases e7 (ji s.Out)<;>cases e7 (ja (mj s))<;>exact⟨_,rfl,by simp⟩
 rintro _ rfl;refine aZ (λe=>am ?_) λe=>?_
 ·rw[aB];unfold Cq;revert e;cases kZ s.dG<;>cases e7 (ji s.Out)<;>cases e7 (ja (mj s))<;>cases Bm s<;>simp
 have e:(kZ s.dG&&(e7 (ji s.Out)&&(e7 (ja (mj s))&&Bm s)))=Z:=by simpa using e
 simp only[bK]at e;obtain⟨e1,e2,e3,e4⟩:=e;have l1:=(Dz.1 e2).1;have l2:=(Dz.1 e3).1
 have a27:GQ [[[s.dG],(if e7 (ji s.Out)=Z then(ji s.Out,Z)else([],aa)).1],BD s,[(if e7 (ja (mj s))=Z then(ja (mj s),Z)else([],aa)).1]]=J (yY s):=by
  rw[aD e2,aD e3];exact zGx (by simp) (by omega) (by simp)
 refine ag a27 (ag (zAm ?_ λp hp=>?_) (am ?_))
 ·unfold yY;simp;omega
 ·unfold yY at hp;rcases kj.1 hp with hp|hp
  ·simp only[f6,jy,jz]at hp;rcases hp with rfl|rfl
   ·simp
   omega
  rcases kj.1 hp with hp|hp
  ·have:=hol.2 p hp;omega
  rw[gP.1 hp];omega
 have:Cq s=e7 (gf (yY s)):=by
  unfold Cq;rw[e1,e2,e3,e4,ig,ig,ig,ig]
 rw[this]
def zGi(h:mO 1048576 s)(ho:s.Out.length<=1048576)(hs:Cq s=Z)(h1:s.dG=1->s.Poly=w9)(h2:s.dG=2->s.bt=rZ):A6 (gf (yY s))=J (s,Z):=by
 have zM:=TM h ho;rw[aD hs]at zM;unfold Cq at hs;simp only[bK]at hs;obtain⟨e1,e2,e3,e4,e5⟩:=hs;have dc:=zDz e2;have dp:=zCu e3;have sp:=zCz e5;obtain⟨a,O,M,P⟩:=s;unfold kZ at e1;simp only[uI,xH]at e1;rcases e1 with rfl|rfl
 ·cases h1 rfl;have hp:yY ⟨1,O,M,w9⟩=[[1],ji O,M.cy,M.aH,ja M.Pi]:=rfl;rw[hp]at sp zM⊢;unfold A6;refine bH (ag sp (az (ψ:=(· =aa)) (bw rfl (bw rfl (ag (a:=[1]) rfl (am rfl)))) ?_));rintro _ rfl;refine bw rfl (ag (a:=ji O) rfl (ag dc (ag (a:=ja M.Pi) rfl (ag dp (ag (a:=[1]) rfl (ag (a:=1) rfl ?_))))));refine az (ψ:=(· =.inl (1,O,M.cy,M.aH,M.Pi.aE,M.Pi.aW,M.Pi.aG,[],[],[],[],[],[]))) (az (ψ:=(· =Z)) (gk rfl (am rfl)) ?_) ?_
  ·rintro _ rfl;exact gk rfl (ag (a:=M.cy) rfl (ag (a:=M.aH) rfl (am rfl)))
  rintro _ rfl;refine ag zM (az (ψ:=(· =aa)) (bw rfl (bw rfl (bw rfl (ag (Lp _ _) (am (by simp)))))) ?_);rintro _ rfl;exact bw rfl (am rfl)
 cases h2 rfl;have hp:yY ⟨2,O,rZ,P⟩=[[2],ji O,P.bV,P.bM,P.aH,ja P.Pi]:=rfl;rw[hp]at sp zM⊢;unfold A6;refine bH (ag sp (az (ψ:=(· =aa)) (bw rfl (bw rfl (ag (a:=[2]) rfl (am rfl)))) ?_));rintro _ rfl;refine bw rfl (ag (a:=ji O) rfl (ag dc (ag (a:=ja P.Pi) rfl (ag dp (ag (a:=[2]) rfl (ag (a:=2) rfl ?_))))));refine az (ψ:=(· =.inl (2,O,[],[],[],[],[],P.bV,P.bM,P.aH,P.Pi.aE,P.Pi.aW,P.Pi.aG))) (az (ψ:=(· =aa)) (bw rfl (am rfl)) ?_) ?_
 ·rintro _ rfl;refine bw rfl (az (ψ:=(· =Z)) (gk rfl (am rfl)) ?_);rintro _ rfl;exact gk rfl (ag (a:=P.bV) rfl (ag (a:=P.bM) rfl (ag (a:=P.aH) rfl (am rfl))))
 rintro _ rfl;refine ag zM (az (ψ:=(· =aa)) (bw rfl (bw rfl (bw rfl (ag (Lp _ _) (am (by simp)))))) ?_);rintro _ rfl;exact bw rfl (am rfl)
def zBP:A6 []=J (nH,aa):=by
 obtain⟨z,z1,z2⟩:=zHD (l:=[]) (by simp)
 have hz:z.2=aa:=by
  cases h:z.2 with
  |false=>rfl
  |true=>
   have:=(z2 h).2;unfold gf at this;cases this
 unfold A6;rw[z1];refine bH (az (ψ:=(· =Z)) (gk (by rw[hz];rfl) (am rfl)) ?_);rintro _ rfl;exact gk rfl (am rfl)
def zrq(hb:Bt code):Rn (F9 code) (λz=>(Gw z.1/\Dg z.1)/\z.2.2.1.length<=13):=by
 unfold F9 PP;refine az (ψ:=λz=>(Gw z.1/\Dg z.1)/\z.2.2.1.length<=13) (az (zzz hb (Xd code) (by omega)) λz1 ⟨a1,a2,a3⟩=>az (j5 (m:=2) hb a3 (by omega)) λz2 ⟨_,_,_,_,b3⟩=>az (OJ hb b3 (by omega)) λz3 c3=>?_) λz h=>am h
 refine az (ψ:=λx=>Cu code 1000 x.1) (aZ (λ_=>az (pm hb c3 (by omega) (by simp)) λz8 ⟨_,d3⟩=>am (d3.mono (by omega))) λ_=>am (c3.mono (by omega))) λx hx=>?_
 refine ag (U0 x.2 (by omega)) ?_
 obtain⟨q,hq,cQ⟩:∃q:Nat,(if(dh 1 12 (z1.2.2.1.length:Int)&&kZ x.2)=Z then(((mX x.2 z1.2.2.1.length:Nat):Int),Z)else((0:Int),aa)).1=(q:Int)/\q<=1000:=by
  split
  ·exact⟨_,rfl,by unfold mX;split<;>omega⟩
  ·exact⟨0,rfl,by omega⟩
 rw[hq];exact az (zpM hb hx (by omega) a1.1 cQ) λy _=>am ⟨a1,a2⟩
def zvl{arg:Int}(x:Qv gr key l arg s):mO 1000 s/\s.Out.length<=13:=by
 obtain⟨a,b,c,d,e,f,g⟩:=x.ln;refine⟨⟨a,b,c,d,e,f,g⟩,?_⟩;obtain⟨perm,rs,m,ho⟩:=x.xo;have:=m.n;rw[ho,k8,m.pl];omega
def mO.up{n m:Nat}(h:n<=m)(x:mO n s):mO m s:=
 ⟨gD x.la h,gD x.lb h,⟨gD x.lc.1 h,gD x.lc.2.1 h,gD x.lc.2.2 h⟩,gD x.ld h,gD x.le h,gD x.lf h,⟨gD x.lg.1 h,gD x.lg.2.1 h,gD x.lg.2.2 h⟩⟩
def W0:mO 1000 nH/\nH.Out.length<=13:=⟨⟨by simp,by simp,⟨by simp,by simp,by simp⟩,by simp,by simp,by simp,⟨by simp,by simp,by simp⟩⟩,by simp⟩
def zyA{c0:List Int}{at_ dJ n:Int}(hb:Bt code)(h:Cu code n (c0,at_,dJ))(hn:n<=2000000000000000)(hg:Gw gr)(hs:mO 1000 s)(ho:s.Out.length<=13):Rn (KS c0 at_ dJ gr s) (λz=>mO 1001 z.1/\Cu code (n+60) z.2):=by
 have f9:mO 1001 s:=hs.up (by omega);unfold KS;refine aI (by omega) (az (j5 (m:=9) hb h (by omega)) λz1 ⟨_,_,_,_,b3⟩=>?_);refine az (ψ:=λx=>mO 1001 (eg.mk x.2.1 x.2.2.1 (cM.mk x.2.2.2.1 x.2.2.2.2.1 (cb.mk x.2.2.2.2.2.1 x.2.2.2.2.2.2.1 x.2.2.2.2.2.2.2.1)) (ct.mk x.2.2.2.2.2.2.2.2.1 x.2.2.2.2.2.2.2.2.2.1 x.2.2.2.2.2.2.2.2.2.2.1 (cb.mk x.2.2.2.2.2.2.2.2.2.2.2.1 x.2.2.2.2.2.2.2.2.2.2.2.2.1 x.2.2.2.2.2.2.2.2.2.2.2.2.2)))/\Cu code (n+60) x.1) ?_ λx hx=>am hx
 have b4:Cu code (n+60) z1.2:=b3.mono (by omega);have own:∀(o:List aq) (a:Int),mO 1001 ⟨a,o,⟨s.bt.cy,s.bt.aH,⟨s.bt.Pi.aE,s.bt.Pi.aW,s.bt.Pi.aG⟩⟩,⟨s.Poly.bV,s.Poly.bM,s.Poly.aH,⟨s.Poly.Pi.aE,s.Poly.Pi.aW,s.Poly.Pi.aG⟩⟩⟩:=λo a=>⟨f9.la,f9.lb,f9.lc,f9.ld,f9.le,f9.lf,f9.lg⟩
 refine aZ (λ_=>aZ (λg=>?_) λ_=>am ⟨own _ _,b4⟩) λ_=>aZ (λ_=>?_) λ_=>aZ (λ_=>?_) λ_=>aZ (λ_=>?_) λ_=>aZ (λ_=>aZ (λg=>?_) λ_=>am ⟨own _ _,b4⟩) λ_=>am ⟨own _ _,b4⟩
 ·have g:0<(s.Out.length:Int):=by simpa using g
  refine az (zzK hb b3 (by omega) (by omega)) λw ⟨⟨i,hi,fP⟩,w2⟩=>az (Lv hb w2 (by omega) hg) λ_ ⟨_,_,w3⟩=>?_
  rw[hi];exact bG fP (am ⟨own _ _,w3.mono (by omega)⟩)
 ·exact az (YY hb b3 (by omega) hg hs.lc) λw ⟨w1,w2⟩=>am ⟨⟨f9.la,f9.lb,w1,f9.ld,f9.le,f9.lf,f9.lg⟩,w2.mono (by omega)⟩
 ·exact az (YY hb b3 (by omega) hg hs.lg) λw ⟨w1,w2⟩=>am ⟨⟨f9.la,f9.lb,f9.lc,f9.ld,f9.le,f9.lf,w1⟩,w2.mono (by omega)⟩
 ·exact az (j5 (m:=4) hb b3 (by omega)) λw ⟨_,_,_,_,w5⟩=>am ⟨own _ _,w5.mono (by omega)⟩
 have g:1<(s.Out.length:Int):=by simpa using g
 exact bG (k:=0) (by omega) (bG (k:=1) (by omega) (bG (k:=1) (by rw[L7];omega) (am ⟨own _ _,b4⟩)))
def zDe(hb:Bt code):Rn (Kv code) (λz=>Dg z.1/\z.2.2.1.length<=13/\mO 1001 z.2.2.2):=by
 unfold Kv;refine az (zrq hb) λz ⟨⟨z1,z2⟩,z3⟩=>?_
 obtain⟨s,t,_,e2,e3,e4⟩:=zAo z.1 z2 z.2.1 z3 z.2.2.2.1 z.2.2.2.2.1 z.2.2.2.2.2
 have hl:mO 1000 s/\s.Out.length<=13:=by
  cases t
  ·rw[e3 rfl];exact W0
  ·exact zvl (e4 rfl)
 exact ag e2 (az (zyA hb (Xd code) (by omega) z1 hl.1 hl.2) λw hw=>am ⟨z2,z3,hw.1⟩)
def zGV(a b:List Int)(h0:∀x∈a,0<=x/\x<=255)(h1:∀x∈b,0<=x/\x<=255)(BG:a.length<=1048576)(BU:b.length<=1048576):H4 a b=J Z:=by
 have hba:Bt a:=⟨h0,by omega⟩
 have LO:Bt b:=⟨h1,by omega⟩
 unfold H4 OZ;refine bH (az (ψ:=λ_=>True) (az (ψ:=λ_=>True) (aZ (λ_=>am trivial) λ_=>am trivial) λ_ _=>am trivial) λ_ _=>aZ (λ_=>am rfl) λ_=>?_);refine az (zrq hba) λz ⟨⟨z1,z2⟩,z3⟩=>?_
 obtain⟨s,t,e1,e2,e3,e4⟩:=zAo z.1 z2 z.2.1 z3 z.2.2.2.1 z.2.2.2.2.1 z.2.2.2.2.2;refine ag e1 (ag e2 (az (ψ:=(· =aa)) (bw (by simp) (ag (zGm _) (am rfl))) ?_));rintro _ rfl;refine bw rfl (az (ψ:=(· =.inl ())) (aZ (λht=>?_) λ_=>am rfl) ?_)
 ·have ht:t=Z:=ht;subst ht;have X:=e4 rfl;obtain⟨hl,hlo⟩:=zvl X;refine ag (zGA z2 X) (az (ψ:=(· =aa)) (bw rfl (am rfl)) ?_);rintro _ rfl;refine bw rfl ?_;have sr:=TM (hl.up (by omega)) (show s.Out.length<=1048576 by omega);cases hs:Cq s with
  |false=>
   rw[hs,aB (by simp)]at sr;have sr0:=TM (s:=nH) (W0.1.up (by omega)) (by simp);refine ag sr (ag zBP (ag sr0 (az (ψ:=(· =aa)) (bw rfl (am rfl)) ?_)));rintro _ rfl;exact bw rfl (am rfl)
  |true=>
   rw[hs,aD rfl]at sr;have so:=zGi (hl.up (by omega)) (show s.Out.length<=1048576 by omega) hs (λh=>(X.xm (X.xa▸h)).1) λh=>(X.xp (X.xa▸h)).1
   refine ag sr (ag so (ag sr (az (ψ:=(· =aa)) (gk rfl (bw rfl (bw rfl (ag zBd (am rfl))))) ?_)));rintro _ rfl;exact bw rfl (am rfl)
 rintro _ rfl;refine az (zDe LO) λy ⟨y1,y2,y3⟩=>?_
 obtain⟨v,u,f1,f2⟩:=zMZ y.1 y1 y.2.1 y2 (y3.up (by omega));refine ag f1 (ag f2 (az (ψ:=(· =Z)) (gk (by simp) (am (by simp))) ?_));rintro _ rfl;exact am rfl
end Go.Pm
