/-
  FnStages: plain laws.
  No condition.
-/
import Derived.Test.YtnojafnlicbhpaaGreatY41
open Bool renaming false→aa,true→Z
open Option renaming some→J
set_option linter.defProp false
namespace Go.Pm
open Go.Am IntKind
def KH:=@List.flatMap_append
def Acn:=@Classical.choose_spec
set_option linter.unusedVariables false
set_option linter.unusedSimpArgs false
section
attribute [local irreducible] chG ziB zdT zaO alN sdV wvL wvE wvZ
section
variable {gr:am}{key:Int}{B:ct}{l out:List an}{p:cH}
def zAR(k:ao gr){h:Int}(hh:aK gr h=Z){ch x r l5 r5:List Int}{n:Nat}(Bu:ch.length=n/\∀z∈ch,aK gr z=Z)(hx:x.length=n)(hr:r.length=2*n+4)(hn:n<=100)(h5:l5.length=5)(h6:r5.length=5):aS (σ:=(List Int)×List Int×Int) (λuH im=>
 (ix ch uH).bind λxD=>
 gd ((im.1.length+1)*8<=140737488355328/\im.1.length+1<=4611686018427387904)<|
 (ix r (i64.wrap (4+uH))).bind λNp=>
 (ix x uH).bind λqj=>
 (cD gr gr.G Np).bind λGF=>
 (cD gr im.2.2 qj).bind λHp=>
 (eg gr [GF,Hp]).bind λqS=>
 gd ((im.2.1.length+1)*8<=140737488355328/\im.2.1.length+1<=4611686018427387904)<|
 J (.go (im.1++[xD],im.2.1++[qS],xD))) (λim=>(im.1,im.2.1)) ch.length 0 (l5,r5,h)=J (l5++ch,r5++(List.range n).map (zjH gr h ch x r)):=by
 refine bE (d9 (λi y=>y=(l5++ch.take i,r5++(List.range i).map (zjH gr h ch x r),bef h ch i)) (by simp[bef]) ?_ ?_)
 ·rintro i y hi rfl;have h4:4+i<r.length:=by omega
  have Bw:i<x.length:=by omega
  have hb:=(Gh k hh Bu.2 i (by omega)).2;refine bD hi (aG (by simp;omega) ?_);rw[show i64.wrap (4+(i:Int))=((4+i:Nat):Int)from cM (by omega) (by omega)];refine bD h4 (bD Bw (ag (fb k (fG k) _) (ag (fb k hb _) (ag (iC k (bJ k _ _) (bJ k _ _)) (aG (by simp;omega) (aj ?_))))));show _=_
  have hbe:bef h ch (i+1)=ch[i]:=by
   have:i+1<([h]++ch).length:=by simp;omega
   unfold bef;rw[bS this];rfl
  rw[iO hi,mN,l8,hbe];simp only[jD,p8,zjH,bS h4,bS Bw,gU]
 rintro y rfl;rw[f6,Bu.1]
def Yt{P:Int->Prop}{a b c d e:Int}(h1:P a)(h2:P b)(h3:P c)(h4:P d)(h5:P e):∀x∈[a,b,c,d,e],P x:=by
 intro x hx;simp only[fK,jf,jg]at hx;rcases hx with rfl|rfl|rfl|rfl|rfl<;>assumption
set_option maxHeartbeats 4000000 in
def zHm(k:ao gr)(hk:aK gr key=Z)(hn:1<=l.length/\l.length<=12)(lc:∀c∈l,b7 gr c=Z)(oc:∀c∈out,b7 gr c=Z)(hb:th gr l.length B):HD gr key B l out p=J (tT gr key B l out p):=by
 have hp:=k.p;have hq:=k.q;unfold HD;refine bE (ay (ψ:=(· = !(decide (out.length=l.length)&&(oq gr l.length p&&(p.Pi.aV.getD 0 0==wvZ gr key l out p))))) ?_ ?_)
 ·rw[show((out.length:Int) !=(l.length:Int))= !decide (out.length=l.length)by rw[bne,iJ]];refine aZ (λg=>aj ?_) λg=>ag (zEx k (by omega) p) (aZ (λg2=>aj ?_) λg2=>?_)
  ·have:decide (out.length=l.length)=aa:=by simpa using g
   rw[this];rfl
  ·have g3:decide (out.length=l.length)=Z:=by simpa using g
   have g4:oq gr l.length p=aa:=by simpa using g2
   rw[g3,g4];rfl
  have g3:decide (out.length=l.length)=Z:=by simpa using g
  have g4:oq gr l.length p=Z:=by simpa using g2
  have V:=OX (p:=p) hk hn lc oc hb (we g3) g4;have kh:0<p.Pi.aV.length:=by rw[V.cO];omega
  exact bD (k:=0) kh (ag (V.AaN k) (aj (by rw[g3,g4,bS kh];rfl)))
 rintro b rfl;refine aZ (λg=>aj ?_) λg=>?_
 ·rw[qc]at g;unfold tT;rw[<-KG (oq gr l.length p),<-KG,g];rfl
 rw[Bool.not_eq_false']at g;obtain⟨g1,g23⟩:=A3.1 g;obtain⟨g2,g3⟩:=A3.1 g23;have V:=OX (p:=p) hk hn lc oc hb (we g1) g2;have hv:tT gr key B l out p=(List.range (5+l.length)).all (pJ gr (wvZ gr key l out p) p.Pi.aC (mF gr B l (wvE gr key l out p) p) (np gr key B l.length out p)):=by unfold tT;rw[g1,g2,g3];rfl
 rw[hv];obtain⟨sk,zY⟩:=V.e k;have kh:0<p.Pi.aV.length:=by rw[V.cO];omega
 have hz:p.Pi.aV[0]=wvZ gr key l out p:=by
  have:=eq_of_beq g3
  rwa [bS kh]at this
 have w4:i64.wrap ((l.length:Int)+4)=((l.length+4:Nat):Int):=cM (by omega) (by omega);have w1:i64.wrap ((l.length:Int)-1)=((l.length-1:Nat):Int):=cM (by omega) (by omega);have zo:(p.Pi.aE.take p.Pi.aE.length).drop (l.length+4)=p.Pi.aE.drop (l.length+4):=by rw[f6]
 have fm:=V.Xf.1;have g9:(p.Pi.aE.drop (l.length+4)).length=l.length:=by rw[OC,fm];omega
 have Cy:=NB (show 1<gr.Q by omega) (wvE gr key l out p) (wvE gr key l out p).length;have wal:i64.wrap (0-alN gr.Q (wvE gr key l out p) (wvE gr key l out p).length)=0-alN gr.Q (wvE gr key l out p) (wvE gr key l out p).length:=aI (by have:=Cy.1;have:=Cy.2;omega) (by have:=Cy.1;omega);rw[w4,w1,dG,zo];have eY:=sA k lc;have k7:=sA k oc;have rX:=mJ l;have hol:=mJ out;rw[V.ol]at hol;have hH:=dV k hb.h;have hK:=dV k hk;have Cz:=FG k hb.s;have CV:=FG k V.fM.2;have QE:=hb.l;have gR:=V.fM.1;have X0:=V.mA.1;have Aco:=V.oX.1;have r0:0<p.Pi.aE.length:=by omega
 have r1:1<p.Pi.aE.length:=by omega
 have r2:2<p.Pi.aE.length:=by omega
 have r3:3<p.Pi.aE.length:=by omega
 have B8:l.length-1<p.aF.length:=by omega
 have ya:=dV k (iK V.mA.2 B8);have qB:=Fy k Cz;have qC:=Fy k CV
 have hL:mF gr B l (wvE gr key l out p) p=[aP gr [aP gr p.cq,av gr (aP gr B.Hs) (-1)],zaO gr p.cq (wvE gr key l out p) 1,aP gr [p.aF[l.length-1],av gr B.H (0-alN gr.Q (wvE gr key l out p) (wvE gr key l out p).length)],zaO gr (sdV l).1 (wvE gr key l out p) 1,zaO gr (sdV l).2 (wvE gr key l out p) 1]++p.aF:=by
  unfold mF Jt;rw[bS B8]
 have Xx:∀y∈mF gr B l (wvE gr key l out p) p,R9 y:=by
  rw[hL];intro y hy;rcases jY.1 hy with h|h
  ·exact Yt (P:=R9) (nO k qC (bJ k _ _)) (fy k _ _) (nO k ya (bJ k _ _)) (fy k _ _) (fy k _ _) y h
  ·exact dV k (V.mA.2 y h)
 have hR:np gr key B l.length out p=[av gr gr.G p.Pi.aE[0],aP gr [av gr gr.G p.Pi.aE[1],zaO gr B.Hs (p.Pi.aE.drop (l.length+4)) 1],av gr gr.G p.Pi.aE[2],aP gr [av gr gr.G (i64.wrap ((0:Int)-p.Pi.aE[3])),zaO gr (sdV out).1 (p.Pi.aE.drop (l.length+4)) 1],aP gr [av gr key (i64.wrap ((0:Int)-p.Pi.aE[3])),zaO gr (sdV out).2 (p.Pi.aE.drop (l.length+4)) 1]]++(List.range l.length).map (zjH gr B.H p.aF (p.Pi.aE.drop (l.length+4)) p.Pi.aE):=by
  unfold np Dx;rw[bS r0,bS r1,bS r2,bS r3]
 have ZX:(mF gr B l (wvE gr key l out p) p).length=5+l.length:=by rw[hL];simp[X0];omega
 have Vq:(np gr key B l.length out p).length=5+l.length:=by rw[hR];simp;omega
 refine bD (k:=0) kh ?_;rw[hz];refine aG (by omega) (aG (by omega) (ag (V.W2 k).2 (ag (zzc k zY) (ag (rU (by omega)).2 (ag (rU (by rw[V.ol];omega)).2 (bD B8 ?_))))));rw[wal];refine ag (HH k CV) (ag (HH k Cz) (ag (zCJ k qB.1 qB.2) (ag (iC k qC (bJ k _ _)) (ag (oF k CV (by omega)) (ag (fb k hH _) (ag (iC k ya (bJ k _ _)) (ag (oF k eY.1 (by omega)) (ag (oF k eY.2 (by omega)) (bD (k:=0) r0 (bD (k:=1) r1 (bD (k:=2) r2 (bD (k:=3) r3 ?_))))))))))));refine ag (fb k (fG k) _) (ag (fb k (fG k) _) (ag (oF k Cz (by omega)) (ag (iC k (bJ k _ _) (fy k _ _)) (ag (fb k (fG k) _) (ag (fb k (fG k) _) (ag (oF k k7.1 (by omega)) (ag (iC k (bJ k _ _) (fy k _ _)) (ag (fb k hK _) (ag (oF k k7.2 (by omega)) (ag (iC k (bJ k _ _) (fy k _ _)) (ag (a:=(mF gr B l (wvE gr key l out p) p,np gr key B l.length out p)) ((zAR k hb.h V.mA g9 fm (by omega) rfl rfl).trans (by rw[hL,hR])) ?_)))))))))));dsimp only;generalize sn:wvZ gr key l out p=z;rw[sn]at*;generalize mF gr B l (wvE gr key l out p) p=L at ZX Xx;generalize np gr key B l.length out p=R at Vq;refine⟨_,zCD (pJ gr z p.Pi.aC L R) aa Z λi hi=>?_,?_⟩
 ·have cF:i<p.Pi.aC.length:=by omega
  have DJ:i<R.length:=by omega
  rw[jh hi,aR,jh cF,aR,jh DJ,aR,fb k (iK Xx hi),aR,iC k (dV k (iK V.oX.2 cF)) (bJ k _ _),aR];unfold pJ hlB;rw[bS hi,bS cF,bS DJ,bne];cases (aP gr [p.Pi.aC[i],av gr L[i] z]==R[i])<;>rfl
 rw[ZX];cases (List.range (5+l.length)).all (pJ gr z p.Pi.aC L R)<;>rfl
def zKH(gr:am)(key:Int){l:List an}(hl:l.length<=20)(out:List an)(p:cH):∃v t,tS gr key l out p=J (v,t)/\F2 gr key l out p=J (v,t):=by
 by_cases k:ao gr
 ·obtain⟨B,tb,b1,b2,b3⟩:=O5 k (n:=l.length) (by omega);unfold tS F2;rw[vu k key l b2,uS k,uS k,yp k,b1,show(aK gr key&&(cX 1 12 l.length&&l.all (b7 gr)))=fC gr key l from rfl];cases h1:fC gr key l
  ·exact⟨aa,aa,rfl,rfl⟩
  have jN:=h1;simp only[fC,cX,bI,eC]at jN;obtain⟨c1,c2,c3⟩:=jN;rw[c1];cases h2:(cX 1 12 out.length&&out.all (b7 gr))
  ·cases tb<;>exact⟨aa,aa,rfl,rfl⟩
  simp only[bI]at h2;cases tb
  ·exact⟨aa,aa,rfl,rfl⟩
  have e1:=Xn (p:=p) (out:=out) k c1 (l:=l) (by omega) (bm.1 c3) (bm.1 h2.2) (b3 rfl);have e2:=zHm (p:=p) (out:=out) k c1 (l:=l) (by omega) (bm.1 c3) (bm.1 h2.2) (b3 rfl);refine⟨tT gr key B l out p,Z,?_,?_⟩
  ·simp[e1]
  simp[e2]
 refine⟨aa,aa,?_,?_⟩
 ·unfold tS;rw[M5 k];rfl
 unfold F2;rw[Gk k];rfl
end
end
section
variable {gr:am}{key:Int}{B:ct}{l:List an}{perm rs s t w x:List Int}{a b d f:Int}
def Vj{gr:am}{l:List Int}(h:∀z∈l,E9 gr.Q z):l.all (dq gr)=Z:=bm.2 λz hz=>XI.2 (h z hz)
end
def O3(n:Nat)(h:Int->Int):Prop:=∃c:List Int,c.length<=n/\∀x,evI c x=h x
variable{at_ q dC:Int}{c0 code:List Int}{i n:Nat}{y:Nat×Nat}
def O3.up{m:Nat}{h:Int->Int}(hh:O3 n h)(hm:n<=m):O3 m h:=by
 obtain⟨b,b1,b2⟩:=hh;exact⟨b,by omega,b2⟩
def cb(f:Nat->Int):Nat->Int
 |0=>0
 |n+1=>cb f n+f n
theorem P5{q:Int}{f g:Nat->Int}:∀n,(∀k,k<n->f k%q=g k%q)->cb f n%q=cb g n%q
 |0,_=>rfl
 |n+1,h=>by
  show(cb f n+f n)%q=(cb g n+g n)%q;exact zCW (P5 n λk hk=>h k (by omega)) (h n (by omega))
theorem CC{f g:Nat->Int}:∀n,(∀k,k<n->f k=g k)->cb f n=cb g n
 |0,_=>rfl
 |n+1,h=>by show cb f n+f n=cb g n+g n;rw[CC n λk hk=>h k (by omega),h n (by omega)]
def Td{α:Type}{e:Option α}{φ χ:α->Prop}(h1:Rn e φ)(h2:Rn e χ):Rn e (λx=>φ x/\χ x):=by
 obtain⟨a,e1,p1⟩:=h1;obtain⟨b,e2,p2⟩:=h2;rw[e1]at e2;cases e2;exact⟨a,e1,p1,p2⟩
def PU(gr:am)(s:ByteArray)(k:Int):Bool:=(List.range 60).any λc=>kL gr s k (c:Int) !=1
def okD(gr:am):Bool:=PU gr ⟨#[104]⟩ 0&&(List.range 13).all λi=>PU gr ⟨#[104,115]⟩ (i:Int)
def zu0{gr:am}(k:ao gr){s:ByteArray}{i y:Int}(h:PU gr s i=Z)(hy:qW gr s i y):0<y:=by
 rcases hy with⟨c,hc,rfl,_,_⟩|⟨_,h4⟩
 ·have:=QG k s i c;omega
 obtain⟨c,hc,h5⟩:=Aax.1 h;rw[h4 c (by have:=kp.1 hc;omega)]at h5;cases h5
def zyN{gr:am}(k:ao gr)(hd:okD gr=Z)(hn:n<=13):Rn (kT gr (n:Int)) (λx=>x.2=Z):=by
 obtain⟨d1,d2⟩:=A3.1 hd;obtain⟨y,_,H3,T0⟩:=Lr k (s:=⟨#[104]⟩) (by decide) (i:=0) rfl;have hy:=zu0 k d1 T0;unfold kT;refine ag H3 (ay (ψ:=λp=>p.2.2=Z) (kv n (λm p=>p.2.2.2=(m:Int)/\p.2.1.length=m/\p.2.2.1=Z) ⟨rfl,rfl,rfl⟩ ?_ ?_) ?_)
 ·rintro m ⟨w,l,t,c⟩ hm ⟨h1,h2,h3⟩;simp only at h1 h2 h3;subst h1 h3;obtain⟨z,_,z2,z3⟩:=Lr k (s:=⟨#[104,115]⟩) (by decide) (i:=(m:Int)) (jr.2 ⟨by omega,by omega⟩);have hz:=zu0 k (bm.1 d2 m (kp.2 (by omega))) z3;refine aZ (λ_=>?_) λh=>absurd h (by simp;omega)
  refine ag z2 (ay (ψ:=λb=>b=Z) (fY rfl (aj (by simpa using hz))) λb hb=>?_);subst hb;refine aG (by dsimp only;omega) (aj ⟨?_,by simp[h2],rfl⟩);show i64.wrap ((m:Int)+1)=_;rw[aI (by omega) (by omega)];rfl
 ·rintro⟨w,l,t,c⟩ ⟨h1,h2,h3⟩;simp only at h1 h2 h3;subst h1 h3;exact aZ (λh=>absurd h (by simp)) λ_=>aj rfl
 rintro⟨w,l,t⟩ h;have h:t=Z:=h;subst h;refine ay (ψ:=λb=>b=aa) (bt (by simpa using hy) (aj rfl)) λb hb=>?_
 subst hb;exact bt rfl (aj rfl)
def M0{gr:am}(k:ao gr)(hd:okD gr=Z)(hn:n<=13):∃b,rY gr (n:Int)=J (b,Z)/\kT gr (n:Int)=J (b,Z)/\th gr n b:=by
 obtain⟨b,t,h1,h2,h3⟩:=O5 k (n:=n) (by omega);obtain⟨x,e1,e2⟩:=zyN k hd hn;rw[h2]at e1;cases e1;have e2:t=Z:=e2;subst e2;exact⟨b,h1,h2,h3 rfl⟩
def NU(n b:Nat):Bool:=decide (2<=n)&&decide (n<b*b)&&(List.range b).all λd=>decide (d<2)||decide (n<d*d)||n%d !=0
def XK{b:Nat}(h:NU n b=Z):Pr n:=by
 simp only[NU,bI,eC]at h;obtain⟨⟨h1,h2⟩,h3⟩:=h;refine⟨h1,λd a1 a2=>?_⟩;have hd:d<b:=Aau λcV=>by have:=ri cV cV;omega
 have:=bm.1 h3 d (kp.2 hd);simp only[tY,eC,bne_iff_ne,ne_eq]at this;omega
def ZQ(n:Nat):Bool:=(List.range 3500).any λd=>decide (2<=d)&&(decide (d*d<=n)&&n%d==0)
def zFK(h:ZQ n=Z):¬Pr n:=by
 obtain⟨d,_,hd⟩:=Aax.1 h;simp only[bI,eC,v9]at hd;exact λhp=>hp.2 d hd.1 hd.2.1 hd.2.2
def Qp(q K:Nat):Bool:=decide (q<=1000000)&&(decide (1<=K)&&(decide (1+K*q<=2000000000)&&(NU q 1001&&(NU (1+K*q) 3500&&(2^K%(1+K*q) !=1&&(List.range K).all λk=>k==0||ZQ (1+k*q))))))
def j7(x:Nat×Nat):am:=⟨((1+x.2*x.1:Nat):Int),(x.1:Int),((2^x.2%(1+x.2*x.1):Nat):Int)⟩
def XJ{q K:Nat}(h:Qp q K=Z):uB (q:Int)=J (j7 (q,K),Z):=by
 simp only[Qp,bI,eC,bne_iff_ne,ne_eq]at h;obtain⟨h1,h2,h3,h4,h5,h6,h7⟩:=h;have pj:=XK h4;have Sw:=XK h5;have hq:=pj.1
 have WY:∀k,1<=k->k<K->¬Pr (1+k*q):=λk a b=>by
  have:=bm.1 h7 k (kp.2 b);rw[tY,v9]at this;exact zFK (this.resolve_left (by omega))
 unfold uB;refine bE (ay (ψ:=λb=>b=aa) ?_ ?_)
 ·refine ag (rE _ _ _) (bt (by simp;omega) (ag (DP _ (by omega)) (aj ?_)));rw[mS.2 pj];rfl
 rintro _ rfl;refine bt rfl (ay (ψ:=λb=>b=.inr (j7 (q,K),Z)) ?_ ?_)
 ·rw[aI (by omega) (by omega)];refine tG (λs=>∃k:Nat,1<=k/\k<=K/\s=((1+k*q:Nat):Int)) (λs=>(2001000001-s).toNat) ⟨1,by omega,h2,by rw[Kt];omega⟩ ?_;rintro s ⟨k,hk,hkK,rfl⟩;have cV:k*q<=K*q:=gA q hkK;refine fY (by simp;omega) (ag (DP _ (by omega)) ?_);by_cases e:k=K
  ·subst e;rw[mS.2 Sw];refine bt rfl ?_
   have BI:i64.wrap ((i64.wrap (((1+k*q:Nat):Int)-1)).tdiv (q:Int))=(k:Int):=by
    have e1:((1+k*q:Nat):Int)-1=(k:Int)*(q:Int):=by push_cast;omega
    have e2:(k:Int)*(q:Int)=((k*q:Nat):Int):=by push_cast;rfl
    have e3:k*1<=k*q:=Oz k (by omega);rw[e1,aI (n:=(k:Int)*(q:Int)) (by omega) (by omega),Aci _ (by omega),aI (by omega) (by omega)]
   simp only[BI];have e3:k*1<=k*q:=Oz k (by omega);have Ci:=(pW (a:=2) (e:=(k:Int)) (m:=((1+k*q:Nat):Int)) (by omega) (by omega) (by omega) (by omega) (by omega) (by omega)).2;rw[dG,dG]at Ci;refine ay (ψ:=λh=>h=2) (tG (λs=>s=2) (λ_=>0) rfl ?_) ?_
   ·rintro _ rfl;refine aG (by omega) (ag Ci (bt ?_ (aj rfl)));have h8:¬(((2^k%(1+k*q):Nat):Int)=1):=λe=>h6 (by exact_mod_cast e)
    exact beq_eq_false_iff_ne.2 h8
   rintro _ rfl;exact aG (by omega) (ag Ci (aj rfl))
  have hn:=WY k hk (by omega)
  have hf:lO ((1+k*q:Nat):Int)=aa:=by
   cases hb:lO ((1+k*q:Nat):Int)
   ·rfl
   ·exact absurd (mS.1 hb) hn
  rw[hf];have Nt:(k+1)*q<=K*q:=gA q (by omega);rw[jZ]at Nt
  have e1:i64.wrap (((1+k*q:Nat):Int)+(q:Int))=((1+(k+1)*q:Nat):Int):=by
   rw[aI (by omega) (by omega),jZ];omega
  refine fY rfl (aj ⟨⟨k+1,by omega,by omega,e1⟩,?_⟩);rw[e1,jZ];omega
 rintro _ rfl;exact aj rfl
def SM(gr:am):Bool:=decide (gr.Q<2)||(decide (gr.P<3)||((gr.Q%2==0&&gr.Q !=2)||((gr.P-1)%gr.Q !=0||okD gr)))
def Dg(gr:am):Prop:=ao gr->okD gr=Z
def zEF{gr:am}(h:SM gr=Z):Dg gr:=by
 intro k;have hp:=k.p;have hq:=k.q;have hd:=k.d;have pj:=k.pq;simp only[SM,tY,bI,eC,v9,bne_iff_ne,ne_eq]at h;rcases h with h|h|h|h|h
 ·omega
 ·omega
 ·exfalso;obtain⟨n,hn⟩:=fJ (show 0<=gr.Q by omega);rw[hn,dG]at pj;exact pj.2 2 (by omega) (by omega) (by omega)
 ·exfalso;apply h;obtain⟨n,hn⟩:=fJ (show 0<=gr.Q by omega);obtain⟨m,hm⟩:=fJ (show 0<=gr.P-1 by omega);have e:gr.P.toNat-1=m:=by omega
  rw[e,hn,dG]at hd;rw[hm,hn,<-o6,hd];rfl
 exact h
def BD(gr:am):List am:=gr::([0,gr.P+2,4,-7].map λx=>⟨x,gr.Q,gr.G⟩)++([0,1,gr.Q+1,gr.P-1].map λx=>⟨gr.P,x,gr.G⟩)++([0,1,gr.P-1,gr.P,gr.G+1].map λx=>⟨gr.P,gr.Q,x⟩)
def zo3(gr:am):Bool:=(BD gr).all SM
def oJ:List (Nat×Nat):=[(3,2),(5,2),(7,4),(11,2),(13,4),(23,2)]
def xH:List (Nat×Nat):=[(101,6),(1009,10),(1019,2),(65537,14),(999983,12)]
def ZG:((oJ++xH).all λx=>Qp x.1 x.2)=Z:=by decide+kernel
def zBe:zo3 ⟨1000000007,500000003,4⟩=Z:=by decide+kernel
def zBl:(xH.all λx=>zo3 (j7 x))=Z:=by decide+kernel
def zIi(x:Nat×Nat)(e:Nat):am:=⟨(j7 x).P,(j7 x).Q,(((j7 x).G.toNat^e%(j7 x).P.toNat:Nat):Int)⟩
def zyR:(oJ.all λx=>(List.range x.1).all λe=>zo3 (zIi x e))=Z:=by decide+kernel
attribute [local irreducible] okD zo3
def zDK{x:Int}(hx:x∈[(3:Int),5,5,7,11,11,13,23]):∃y∈oJ,x=(y.1:Int)/\3<=y.1/\y.1<=23:=by
 simp only[fK,jf,jg]at hx;rcases hx with rfl|rfl|rfl|rfl|rfl|rfl|rfl|rfl
 ·exact⟨(3,2),by simp[oJ],rfl,by decide⟩
 ·exact⟨(5,2),by simp[oJ],rfl,by decide⟩
 ·exact⟨(5,2),by simp[oJ],rfl,by decide⟩
 ·exact⟨(7,4),by simp[oJ],rfl,by decide⟩
 ·exact⟨(11,2),by simp[oJ],rfl,by decide⟩
 ·exact⟨(11,2),by simp[oJ],rfl,by decide⟩
 ·exact⟨(13,4),by simp[oJ],rfl,by decide⟩
 exact⟨(23,2),by simp[oJ],rfl,by decide⟩
def zGb{x:Int}(hx:x∈[(101:Int),1009,1019,65537,999983]):∃y∈xH,x=(y.1:Int):=by
 simp only[fK,jf,jg]at hx;rcases hx with rfl|rfl|rfl|rfl|rfl
 ·exact⟨(101,6),by simp[xH],rfl⟩
 ·exact⟨(1009,10),by simp[xH],rfl⟩
 ·exact⟨(1019,2),by simp[xH],rfl⟩
 ·exact⟨(65537,14),by simp[xH],rfl⟩
 exact⟨(999983,12),by simp[xH],rfl⟩
def zBQ(h:y∈oJ):uB (y.1:Int)=J (j7 y,Z):=XJ (bm.1 ZG y (sG _ h))
def zDh(h:y∈xH):uB (y.1:Int)=J (j7 y,Z):=XJ (bm.1 ZG y (yy _ h))
def zDe(h:y∈oJ):(j7 y).Q=(y.1:Int)/\1<=(j7 y).P/\(j7 y).P<=100/\0<=(j7 y).G/\(j7 y).G<=100:=by
 simp only[oJ,fK,jf,jg]at h;rcases h with rfl|rfl|rfl|rfl|rfl|rfl<;>exact⟨rfl,by decide,by decide,by decide,by decide⟩
def Xz{n:Int}(hb:Bt code)(h:Cu code n (c0,at_,dC))(hn:n<=6000000000000000):Rn (yR c0 at_ dC) (λz=>zo3 z.1=Z):=by
 unfold yR;refine ay (jU hb h (by omega)) λz ⟨z1,z2,z3,z4,z5⟩=>?_
 refine aZ (λ_=>aj zBe) λ_=>aZ (λ_=>?_) λ_=>?_
 ·refine ay (oN hb z5 (by omega) (by simp)) λy ⟨y1,y2⟩=>?_
  obtain⟨q,hq,e⟩:=zGb y1;rw[e];exact ag (zDh hq) (aj (bm.1 zBl q hq))
 unfold Eg;refine ay (ψ:=λw=>(∃q∈oJ,w.1=j7 q/\3<=q.1/\q.1<=23)/\Cu code (n+8) w.2) (ay (oN hb z5 (by omega) (by simp)) λy ⟨y1,y2⟩=>?_) λy ⟨⟨q,hq,e,q3,q23⟩,y2⟩=>?_
 ·obtain⟨q,hq,e,q3⟩:=zDK y1;rw[e];exact ag (zBQ hq) (aj ⟨⟨q,hq,rfl,q3⟩,y2.mono (by omega)⟩)
 obtain⟨b1,b2,b3,b4,b5⟩:=zDe hq;rw[e,b1,aI (n:=(q.1:Int)-1) (by omega) (by omega)];refine ay (jU hb y2 (by omega)) λx ⟨x1,x2,x3,x4,x5⟩=>?_
 have x3:=x3 (by omega);rw[aI (n:=1+x.1) (by omega) (by omega)];have hm:=BX (a:=1+x.1) (q:=(j7 q).Q) (by omega) (by omega);have e1:(1+x.1)%(j7 q).Q=1+x.1:=qe (by omega) (by omega);have hw:=(pW (a:=(j7 q).G) (e:=1+x.1) (m:=(j7 q).P) b4 (by omega) (by omega) (by omega) (by omega) (by omega)).2;refine ay (ψ:=λv=>v=(((j7 q).G.toNat^(1+x.1).toNat%(j7 q).P.toNat:Nat):Int)) ?_ ?_
 ·unfold cD;refine ag hm ?_;rw[e1];exact ag hw (aj rfl)
 rintro _ rfl;refine aj ?_;rw[<-b1];exact bm.1 (bm.1 zyR q hq) (1+x.1).toNat (kp.2 (by omega))
def IZ{gr g:am}(h:zo3 gr=Z)(hm:g∈BD gr):Dg g:=by
 unfold zo3 at h;exact zEF (bm.1 h g hm)
def zuo{n:Int}(hb:Bt code)(h:Cu code n (c0,at_,dC))(hn:n<=5000000000000000):Rn (Cf c0 at_ dC) (λz=>Dg z.1):=by
 unfold Cf;refine ay (Td (Q6 hb h (by omega)) (Xz hb h (by omega))) λz ⟨⟨z1,z2⟩,z3⟩=>?_
 have g1:=z1.p;have g2:=z1.q;have g3:=z1.g;refine ay (jU hb z2 (by omega)) λy ⟨_,_,_,_,y5⟩=>?_
 rw[aI (n:=z.1.P+2) (by omega) (by omega),aI (n:=z.1.Q+1) (by omega) (by omega),aI (n:=z.1.P-1) (by omega) (by omega),aI (n:=z.1.G+1) (by omega) (by omega)];refine ay (ψ:=λx=>Dg (am.mk x.2.1 x.2.2.1 x.2.2.2)) ?_ λx hx=>aj hx
 refine aZ (λ_=>?_) λ_=>aZ (λ_=>?_) λ_=>aZ (λ_=>?_) λ_=>aj (IZ z3 (by simp[BD]))
 ·exact ay (oN hb y5 (by omega) (by simp)) λx ⟨x1,x2⟩=>aj (IZ z3 (by unfold BD;exact sG _ (sG _ (nU _ (jE.2 ⟨_,x1,rfl⟩)))))
 ·exact ay (oN hb y5 (by omega) (by simp)) λx ⟨x1,x2⟩=>aj (IZ z3 (by unfold BD;exact sG _ (yy _ (jE.2 ⟨_,x1,rfl⟩))))
 exact ay (oN hb y5 (by omega) (by simp)) λx ⟨x1,x2⟩=>aj (IZ z3 (by unfold BD;exact yy _ (jE.2 ⟨_,x1,rfl⟩)))
def zy5{n:Int}(hb:Bt code)(h:Cu code n (c0,at_,dC))(hn:n<=1000000000000000):Rn (Jj c0 at_ dC) (λz=>(Gw z.1/\Dg z.1)/\z.2.2.1.length<=13/\Cu code (n+400) z.2.2.2.2.2):=by
 unfold Jj;refine ay (Td (Q6 hb h (by omega)) (Xz hb h (by omega))) λz ⟨⟨z1,z2⟩,z3⟩=>ay (LU hb z2 (by omega)) λy y1=>?_
 refine ay (ψ:=λx=>(Gw (am.mk x.2.1 x.2.2.1 x.2.2.2)/\Dg (am.mk x.2.1 x.2.2.1 x.2.2.2))/\Cu code (n+20) x.1) (aZ (λ_=>ay (Td (zw1 hb y1 (by omega)) (zuo hb y1 (by omega))) λw ⟨⟨w1,w2⟩,w3⟩=>aj ⟨⟨w1,w3⟩,w2.mono (by omega)⟩) λ_=>aj ⟨⟨z1.w,IZ z3 (by simp[BD])⟩,y1.mono (by omega)⟩) λx ⟨⟨x1,x0⟩,x2⟩=>?_
 refine ay (jU hb x2 (by omega)) λp ⟨p1,_,p3,_,p5⟩=>?_
 have p3:=p3 (by omega);obtain⟨K,hK⟩:=fJ p1;rw[hK,aI (n:=1+(K:Int)) (by omega) (by omega)];refine ay (ψ:=λr=>r.2.length=K+1/\Cu code (n+60) r.1) (kv (K+1) (λj s=>s.2.2=(K:Int)+1-j/\s.2.1.length=j/\Cu code (n+22+8*j) s.1) ⟨by dsimp only;omega,rfl,p5.mono (by omega)⟩ ?_ ?_) λr ⟨r1,r2⟩=>?_
 ·rintro j ⟨c,l,i⟩ hj ⟨h1,h2,h3⟩;have h1:i=(K:Int)+1-j:=h1;have h2:l.length=j:=h2;refine fY (by simp;omega) (ay (zyS hb h3 (by omega) x1) λw w1=>aG (by dsimp only;omega) (aj ⟨?_,by simp[h2],w1.mono (by push_cast;omega)⟩));show i64.wrap (i-1)=_;rw[aI (by omega) (by omega)];push_cast;omega
 ·rintro⟨c,l,i⟩ ⟨h1,h2,h3⟩;have h1:i=(K:Int)+1-((K+1:Nat):Int):=h1;exact bt (by simp;omega) (aj ⟨h2,h3.mono (by omega)⟩)
 refine ay (zDs hb r2 (by omega) (by omega)) λu ⟨u1,u2⟩=>?_
 refine ay (ZY hb u2 (by omega) x1 (by omega)) λv ⟨v1,v2⟩=>?_
 refine ay (jU hb v2 (by omega)) λq ⟨_,_,_,_,q5⟩=>?_
 refine ay (ψ:=λx=>x.2.1.length<=13/\Cu code (n+300) x.1) (aZ (λ_=>?_) λ_=>aZ (λ_=>?_) λ_=>aZ (λ_=>aj ⟨by simp,q5.mono (by omega)⟩) λ_=>aZ (λ_=>?_) λ_=>aj ⟨by dsimp only;omega,q5.mono (by omega)⟩) λw ⟨w1,w2⟩=>?_
 ·exact ay (zur hb q5 (by omega) x1) λw w1=>bD (k:=0) (by omega) (aj ⟨by show(r.2.set _ _).length<=_;rw[KC];omega,w1.mono (by omega)⟩)
 ·exact ay (oN hb q5 (by omega) (by simp)) λw ⟨_,w1⟩=>bD (k:=0) (by omega) (aj ⟨by dsimp only;omega,w1.mono (by omega)⟩)
 ·refine tG (λs=>1<=s.2.length/\s.2.length<=13/\Cu code (n+200+2*s.2.length) s.1) (λs=>13-s.2.length) ⟨by dsimp only;omega,by dsimp only;omega,q5.mono (by dsimp only;omega)⟩ ?_;rintro⟨c,l⟩ ⟨h1,h2,h3⟩;have h1:1<=l.length:=h1;have h2:l.length<=13:=h2;have h3:Cu code (n+200+2*l.length) c:=h3;refine ay (jU hb h3 (by omega)) λw ⟨w1,_,w3,_,w5⟩=>?_
  have w3:=w3 (by omega);dsimp only;rw[aI (n:=12+w.1) (by omega) (by omega)];refine aZ (λg=>?_) λ_=>aj ⟨by dsimp only;omega,w5.mono (by omega)⟩
  have g:(l.length:Int)<12+w.1:=by simpa using g
  exact bD (k:=0) (by omega) (aG (by omega) (aj ⟨⟨by simp,by simp;omega,w5.mono (by simp;omega)⟩,by simp;omega⟩))
 exact ay (H9 hb w2 (by omega) x1) λt ⟨_,_,t3⟩=>aj ⟨⟨x1,x0⟩,w1,t3.mono (by omega)⟩
def rg(f:Nat->Int)(n:Nat):List Int:=(List.range n).map f
def bn(f:Nat->Int)(n:Nat):(rg f n).length=n:=by simp[rg]
theorem uj(f:Nat->Int):rg f 0=[]:=rfl
def oE(f:Nat->Int)(n:Nat):rg f (n+1)=rg f n++[f n]:=by simp[rg,mN]
def u0(f:Nat->Int)(n:Nat)(A:List Int):A++rg f (n+1)=(A++rg f n)++[f n]:=by rw[oE,gU]
def tH(f:Nat->Int)(h:i<n):ix (rg f n) (i:Int)=J (f i):=by
 rw[jh (by rw[bn];exact h)];simp[rg]
def kI(f:Nat->Int)(h:i<n):(rg f n).getD i 0=f i:=by
 rw[bS (by rw[bn];exact h)];simp[rg]
def nb{P:Int->Prop}{f:Nat->Int}(h:∀i,i<n->P (f i)):∀x∈rg f n,P x:=by
 intro x hx;obtain⟨i,hi,rfl⟩:=jE.1 hx;exact h i (kp.1 hi)
def ey{P:Int->Prop}{l:List Int}(h:∀x∈l,P x)(hi:i<l.length):P (l.getD i 0):=by
 rw[bS hi];exact h _ (e9 hi)
def dY{l:List Int}(hi:i<l.length):ix l (i:Int)=J (l.getD i 0):=by rw[jh hi,bS hi]
def px{σ γ:Type}{body:Int->σ->Option (fg σ γ)}{stop:σ->γ}{s0:σ}(S:Nat->σ)(h0:s0=S 0)(hs:∀i,i<n->Rn (body (i:Int) (S i)) (· =.go (S (i+1)))):aS body stop n 0 s0=J (stop (S n)):=by
 refine bE (d9 (λi y=>y=S i) h0 ?_ ?_)
 ·rintro i y hi rfl;obtain⟨v,h1,rfl⟩:=hs i hi;exact⟨_,h1,rfl⟩
 rintro y rfl;rfl
def vc(gr:am)(h x r:Int):Int:=aP gr [av gr gr.G x,av gr h r]
def Yf{gr:am}(k:ao gr)(h x r:Int):R9 (vc gr h x r):=nO k (bJ k _ _) (bJ k _ _)
def In{gr:am}(k:ao gr){h:Int}(hh:aK gr h=Z)(x r:Int):aK gr (vc gr h x r)=Z:=qk k (kx k (nH k) _) (kx k hh _)
def A9{gr:am}(k:ao gr){B:ct}(hh:R9 B.H)(x r:Int):ou gr B x r=J (vc gr B.H x r):=by
 unfold ou;rw[fh k (fG k),aR,fh k hh,aR,jT k (bJ k _ _) (bJ k _ _)];rfl
def DN{gr:am}(k:ao gr){h:Int}(hh:R9 h)(x r:Int):nR gr h x r=J (vc gr h x r):=by
 unfold nR;rw[fb k (fG k),aR,fb k hh,aR,iC k (bJ k _ _) (bJ k _ _)];rfl
structure Pc where
 a:List Int
 b:List Int
 c:List Int
 w:List Int
 v:List Int
 s:List Int
 g:Int
 k:List Int
 m:List Int
 f:Int
structure uM (q:Int) (n:Nat) (C:Pc):Prop where
 a:C.a.length=n/\∀z∈C.a,E9 q z
 b:C.b.length=n/\∀z∈C.b,E9 q z
 c:C.c.length=n/\∀z∈C.c,E9 q z
 w:C.w.length=n/\∀z∈C.w,E9 q z
 v:C.v.length=n/\∀z∈C.v,E9 q z
 s:C.s.length=n/\∀z∈C.s,E9 q z
 g:E9 q C.g
 k:C.k.length=n/\∀z∈C.k,E9 q z
 m:C.m.length=n/\∀z∈C.m,E9 q z
 f:E9 q C.f
def plF(gr:am)(h:Int)(perm:List Int)(C:Pc)(i:Nat):Int:=vc gr h (perm.getD i 0+1) (C.a.getD i 0)
def eF(q x:Int)(perm:List Int)(i:Nat):Int:=((x.toNat^(perm.getD i 0+1).toNat%q.toNat:Nat):Int)
def pwF(gr:am)(h:Int)(e:Nat->Int)(C:Pc)(i:Nat):Int:=vc gr h (e i) (C.b.getD i 0)
def uF(q y z:Int)(e:Nat->Int)(perm:List Int)(i:Nat):Int:=(y*(perm.getD i 0+1)+e i-z)%q
def r8(q:Int)(u:Nat->Int):Nat->Int
 |0=>1
 |i+1=>(r8 q u i*u i)%q
def chF(gr:am)(h:Int)(u:Nat->Int)(C:Pc)(i:Nat):Int:=vc gr h (r8 gr.Q u (i+1)) (C.c.getD i 0)
def zX(C:Pc):Nat->Int
 |0=>0
 |i+1=>C.c.getD i 0
def dlF(q:Int)(u:Nat->Int)(C:Pc)(i:Nat):Int:=(C.c.getD i 0-zX C i*u i)%q
def MX(gr:am)(h:Int)(C:Pc)(i:Nat):Int:=vc gr h (C.w.getD i 0) (C.v.getD i 0)
def c2F(gr:am)(h:Int)(ch:List Int)(C:Pc)(i:Nat):Int:=aP gr [av gr (bef gr.G ch i) (C.w.getD i 0),av gr h (C.s.getD i 0)]
def W1(gr:am)(h:Int)(C:Pc)(i:Nat):Int:=vc gr h (C.k.getD i 0) (C.m.getD i 0)
def abF(q y:Int)(C:Pc)(i:Nat):Int:=(y*C.a.getD i 0+C.b.getD i 0)%q
def rF(q t:Int)(w:List Int)(u:Nat->Int)(i:Nat):Int:=(w.getD i 0+t*u i)%q
def KO(hq:0<q)(x:Int)(perm:List Int)(i:Nat):E9 q (eF q x perm i):=by
 have h:=mM (x.toNat^(perm.getD i 0+1).toNat) (show 0<q.toNat by omega);exact⟨Int.natCast_nonneg _,by unfold eF;omega⟩
theorem ZD(hq:1<q)(u:Nat->Int):∀i,E9 q (r8 q u i)
 |0=>⟨by show(0:Int)<=1;omega,hq⟩
 |i+1=>f9 (by omega) _
def Wp{C:Pc}(hq:0<q)(c:uM q n C)(hi:i<=n):E9 q (zX C i):=by
 cases i with
 |zero=>exact⟨A1 0,hq⟩
 |succ i=>exact ey c.c.2 (by have:=c.c.1;omega)
def PQ{gr:am}(k:ao gr){x p:Int}(hx:E9 gr.Q x)(hp:0<=p/\p<=1000):nC x (i64.wrap (p+1)) gr.Q=J ((x.toNat^(p+1).toNat%gr.Q.toNat:Nat):Int)/\lw x (i64.wrap (p+1)) gr.Q=J ((x.toNat^(p+1).toNat%gr.Q.toNat:Nat):Int):=by
 have hP:=k.p;have hq:=k.q;rw[aI (by omega) (by omega)];exact pW hx.1 (by have:=hx.2;omega) (by omega) (by omega) (by omega) (by omega)
def zAZ{a b:Int}:(a-b%q)%q=(a-b)%q:=by rw[sH,eM,<-sH]
def e_u{y p e z:Int}(hq:0<q/\q<=2000000000)(hy:E9 q y)(hp:0<=p/\p<=1000)(he:E9 q e)(hz:E9 q z):i64.wrap (i64.wrap (i64.wrap (y*i64.wrap (p+1))+e)-z)=y*(p+1)+e-z:=by
 have h1:0<=y*(p+1):=sJ hy.1 (by omega);have h2:y*(p+1)<=2000000000*1001:=wg (by have:=hy.2;omega) (by omega) (by omega) (by omega);have:=he.1;have:=he.2;have:=hz.1;have:=hz.2;rw[aI (n:=p+1) (by omega) (by omega),aI (n:=y*(p+1)) (by omega) (by omega),aI (n:=y*(p+1)+e) (by omega) (by omega),aI (by omega) (by omega)]
def zM9{y p e z:Int}(hq:0<q/\q<=2000000000)(hy:E9 q y)(hp:0<=p/\p<=1000)(he:E9 q e)(hz:E9 q z):(i64.wrap (i64.wrap (i64.wrap (y*(i64.wrap (p+1)).tmod q)+e)-z))%q=(y*(p+1)+e-z)%q:=by
 have h0:E9 q ((p+1)%q):=f9 hq.1 _;rw[aI (n:=p+1) (by omega) (by omega),je (by omega)];have h1:0<=y*((p+1)%q):=sJ hy.1 h0.1;have h2:y*((p+1)%q)<=2000000000*2000000000:=wg (by have:=hy.2;omega) (by have:=h0.2;omega) h0.1 (by omega);have:=he.1;have:=he.2;have:=hz.1;have:=hz.2;rw[aI (n:=y*((p+1)%q)) (by omega) (by omega),aI (n:=y*((p+1)%q)+e) (by omega) (by omega),aI (by omega) (by omega)];have e1:(y*((p+1)%q))%q=(y*(p+1))%q:=by rw[mO,eM,<-mO]
 rw[sH,o8,e1,<-o8,<-sH]
section
variable {gr:am}{h:Int}{perm:List Int}{C:Pc}{n:Nat}
def zu6{CM:Int->Int->Option Int}(hC:∀x r,CM x r=J (vc gr h x r))(hp:∀x∈perm,0<=x/\x<=1000)(hl:perm.length=n)(ha:C.a.length=n)(hn:n<=100):aS (σ:=(List Int)) (λi5 s4=>
 (ix perm i5).bind λaU=>
 (ix C.a i5).bind λcZ=>
 (CM (i64.wrap (aU+1)) cZ).bind λdm=>
 gd ((s4.length+1)*8<=140737488355328/\s4.length+1<=4611686018427387904)<|
 J (.go (s4++[dm]))) (λs4=>s4) perm.length 0 []=J (rg (plF gr h perm C) n):=by
 rw[hl];refine px (λi=>rg (plF gr h perm C) i) rfl λi hi=>?_
 have hp:=ey hp (i:=i) (by omega);refine ag (dY (by omega)) (ag (dY (by omega)) ?_);rw[aI (n:=perm.getD i 0+1) (by omega) (by omega)];refine ag (hC _ _) (aG (by rw[bn];omega) (aj ?_));rw[oE];rfl
def zHP(k:ao gr){B:ct}(hh:R9 B.H)(hp:∀x∈perm,0<=x/\x<=1000)(hl:perm.length=n)(ha:C.a.length=n)(hn:n<=100):Hl gr B perm C.a=J (rg (plF gr B.H perm C) n):=by
 unfold Hl;rw[zu6 (A9 k hh) hp hl ha hn];rfl
def zGi(k:ao gr)(hh:R9 h)(hp:∀x∈perm,0<=x/\x<=1000)(hl:perm.length=n)(ha:C.a.length=n)(hn:n<=100):HW gr h perm C.a=J (rg (plF gr h perm C) n):=by
 unfold HW;rw[zu6 (DN k hh) hp hl ha hn];rfl
end
abbrev sX:ByteArray:=⟨#[109,105,120,32,120]⟩
abbrev sY:ByteArray:=⟨#[109,105,120,32,121]⟩
abbrev sZ:ByteArray:=⟨#[109,105,120,32,122]⟩
abbrev sE:ByteArray:=⟨#[109,105,120,32,101,110,100]⟩
section
variable {gr:am}{h:Int}{perm:List Int}{C:Pc}{n:Nat}
variable{A:List Int}
def zB0(k:ao gr){B:ct}(hh:R9 B.H)(hp:∀x∈perm,0<=x/\x<=1000)(hl:perm.length=n)(hb:C.b.length=n)(hn:n<=100){x:Int}(hx:E9 gr.Q x) :aS (σ:=(List Int)×List Int×List Int×List Int×List Int×List Int×List Int) (λvg dt=>
 (ix perm vg).bind λuv=>
 (nC x (i64.wrap (uv+1)) gr.Q).bind λuu=>
 gd ((dt.2.2.2.2.2.2.length+1)*8<=140737488355328/\dt.2.2.2.2.2.2.length+1<=4611686018427387904)<|
 (J (dt.2.2.2.2.2.2++[uu])).bind λux=>
 (ix ux vg).bind λu7=>
 (ix C.b vg).bind λB5=>
 (ou gr B u7 B5).bind λAf=>
 gd ((dt.2.1.length+1)*8<=140737488355328/\dt.2.1.length+1<=4611686018427387904)<|
 J (.go (dt.1,dt.2.1++[Af],dt.2.2.1,dt.2.2.2.1,dt.2.2.2.2.1,dt.2.2.2.2.2.1,ux))) (λdt=>(dt.1,dt.2.1,dt.2.2.1,dt.2.2.2.1,dt.2.2.2.2.1,dt.2.2.2.2.2.1,dt.2.2.2.2.2.2)) perm.length 0 (A,[],[],[],[],[],[])=J (A,rg (pwF gr B.H (eF gr.Q x perm) C) n,[],[],[],[],rg (eF gr.Q x perm) n):=by
 rw[hl];refine px (λi=>(A,rg (pwF gr B.H (eF gr.Q x perm) C) i,[],[],[],[],rg (eF gr.Q x perm) i)) rfl λi hi=>?_
 have hp:=ey hp (i:=i) (by omega);refine ag (dY (by omega)) (ag (PQ k hx hp).1 (aG (by rw[bn];omega) (ag (a:=rg (eF gr.Q x perm) (i+1)) (by rw[oE];rfl) (ag (tH _ (by omega)) (ag (dY (by omega)) (ag (A9 k hh _ _) (aG (by rw[bn];omega) (aj ?_))))))));rw[oE (pwF gr B.H (eF gr.Q x perm) C)];rfl
def zBU(k:ao gr){B:ct}(hh:R9 B.H)(hp:∀x∈perm,0<=x/\x<=1000)(hl:perm.length=n)(c:uM gr.Q n C)(hn:n<=100){x y z:Int}(hy:E9 gr.Q y)(hz:E9 gr.Q z){W:List Int}:aS (σ:=(List Int)×List Int×List Int×List Int×List Int×List Int×List Int×Int×List Int) (λnF cG=>
 (ix perm nF).bind λpz=>
 (ix (rg (eF gr.Q x perm) n) nF).bind λKW=>
 (eQ gr (i64.wrap ((i64.wrap ((i64.wrap (y*(i64.wrap (pz+1))))+KW))-z))).bind λoR=>
 gd ((cG.2.2.2.2.2.2.1.length+1)*8<=140737488355328/\cG.2.2.2.2.2.2.1.length+1<=4611686018427387904)<|
 (J (cG.2.2.2.2.2.2.1++[oR])).bind λxJ=>
 (ix xJ nF).bind λmh=>
 (eQ gr (i64.wrap (cG.2.2.2.2.2.2.2.1*mh))).bind λF5=>
 (ix C.c nF).bind λjt=>
 (ou gr B F5 jt).bind λoW=>
 gd ((cG.2.2.1.length+1)*8<=140737488355328/\cG.2.2.1.length+1<=4611686018427387904)<|
 ((if decide (0<nF)=Z then(
 (ix C.c (i64.wrap (nF-1))).bind λRT=>
 (eQ gr (i64.wrap (RT*mh))).bind λIY=>
 (eQ gr (i64.wrap (jt-IY))).bind λGU=>
 J GU)else(
 J jt):Option Int).bind λxg=>
 gd ((cG.2.2.2.2.2.2.2.2.length+1)*8<=140737488355328/\cG.2.2.2.2.2.2.2.2.length+1<=4611686018427387904)<|
 J (.go (cG.1,cG.2.1,cG.2.2.1++[oW],cG.2.2.2.1,cG.2.2.2.2.1,cG.2.2.2.2.2.1,xJ,F5,cG.2.2.2.2.2.2.2.2++[xg])))) (λcG=>(cG.1,cG.2.1,cG.2.2.1,cG.2.2.2.1,cG.2.2.2.2.1,cG.2.2.2.2.2.1,cG.2.2.2.2.2.2.1,cG.2.2.2.2.2.2.2.2)) perm.length 0 (A,W,[],[],[],[],[],1,[])=
  J (A,W,rg (chF gr B.H (uF gr.Q y z (eF gr.Q x perm) perm) C) n,[],[],[],rg (uF gr.Q y z (eF gr.Q x perm) perm) n,rg (dlF gr.Q (uF gr.Q y z (eF gr.Q x perm) perm) C) n):=by
 rw[hl];have hP:=k.p;have hq:=k.q;have cL:0<gr.Q/\gr.Q<=2000000000:=by omega
 generalize hu:uF gr.Q y z (eF gr.Q x perm) perm=u;have yM:∀i,E9 gr.Q (u i):=λi=>by rw[<-hu];exact f9 cL.1 _
 refine px (λi=>(A,W,rg (chF gr B.H u C) i,[],[],[],rg u i,r8 gr.Q u i,rg (dlF gr.Q u C) i)) rfl λi hi=>?_
 have hp:=ey hp (i:=i) (by omega);have hc:=ey c.c.2 (i:=i) (by have:=c.c.1;omega);have hm:=(ve (q:=gr.Q) (by omega) (ZD (by omega) u i) (yM i)).1;refine ag (dY (by omega)) (ag (tH _ hi) (ag (lT k _) ?_));rw[e_u cL hy hp (KO cL.1 _ _ _) hz,show(y*(perm.getD i 0+1)+eF gr.Q x perm i-z)%gr.Q=u i by rw[<-hu];rfl];refine aG (by rw[bn];omega) (ag (a:=rg u (i+1)) (by rw[oE]) (ag (tH _ (by omega)) (ag (lT k _) ?_)));rw[hm];refine ag (dY (by have:=c.c.1;omega)) (ag (A9 k hh _ _) (aG (by rw[bn];omega) (ay (ψ:=(· =dlF gr.Q u C i)) ?_ ?_)))
 ·refine aZ (λg=>?_) λg=>aj ?_
  ·have g:0<(i:Int):=by simpa using g
   obtain⟨j,rfl⟩:∃j,i=j+1:=⟨i-1,by omega⟩
   have hj:=ey c.c.2 (i:=j) (by have:=c.c.1;omega);rw[cM (m:=j) (by omega) (by omega)];refine ag (dY (by have:=c.c.1;omega)) (ag (lT k _) ?_);rw[(ve (q:=gr.Q) (by omega) hj (yM (j+1))).1];refine ag (lT k _) (aj ?_);have hx:=f9 cL.1 (C.c.getD j 0*u (j+1));rw[aI (by have:=hc.1;have:=hx.2;omega) (by have:=hc.2;have:=hx.1;omega),zAZ];rfl
  have g:¬0<(i:Int):=by simpa using g
  have e:i=0:=by omega
  subst e;show C.c.getD 0 0=(C.c.getD 0 0-0*u 0)%gr.Q;rw[Int.zero_mul,Ur,qe hc.1 hc.2]
 rintro _ rfl;refine aG (by rw[bn];omega) (aj ?_);rw[oE (chF gr B.H u C),oE (dlF gr.Q u C)];rfl
def ZR{CM:Int->Int->Option Int}(hC:∀x r,CM x r=J (vc gr h x r)){w v:List Int}(hw:w.length=n)(hv:v.length=n)(hn:n<=100)(hA:A.length<=1000):aS (σ:=(List Int)) (λy6 pH=>
 (ix w y6).bind λS5=>
 (ix v y6).bind λlz=>
 (CM S5 lz).bind λFd=>
 gd ((pH.length+1)*8<=140737488355328/\pH.length+1<=4611686018427387904)<|
 J (.go (pH++[Fd]))) (λpH=>pH) n 0 A=J (A++rg (λi=>vc gr h (w.getD i 0) (v.getD i 0)) n):=by
 refine px (λi=>A++rg (λi=>vc gr h (w.getD i 0) (v.getD i 0)) i) (by rw[uj,rc]) λi hi=>?_
 refine ag (dY (by omega)) (ag (dY (by omega)) (ag (hC _ _) (aG (by rw[bP,bn];omega) (aj ?_))));rw[u0]
def zAL(k:ao gr)(hh:R9 h){ch:List Int}(hc:ch.length=n/\∀z∈ch,aK gr z=Z)(c:uM gr.Q n C)(hn:n<=100)(hA:A.length<=1000):aS (σ:=(List Int)) (λug pQ=>
 (ix ([gr.G]++ch) ug).bind λPb=>
 (ix C.w ug).bind λP7=>
 (ix C.s ug).bind λij=>
 (cQ gr Pb P7).bind λPj=>
 (cQ gr h ij).bind λHz=>
 (en gr [Pj,Hz]).bind λO9=>
 gd ((pQ.length+1)*8<=140737488355328/\pQ.length+1<=4611686018427387904)<|
 J (.go (pQ++[O9]))) (λpQ=>pQ) n 0 A=J (A++rg (c2F gr h ch C) n):=by
 refine px (λi=>A++rg (c2F gr h ch C) i) (by rw[uj,rc]) λi hi=>?_
 have hb:=Gh k (nH k) hc.2 i (by omega);refine ag hb.1 (ag (dY (by have:=c.w.1;omega)) (ag (dY (by have:=c.s.1;omega)) (ag (fh k hb.2 _) (ag (fh k hh _) (ag (jT k (bJ k _ _) (bJ k _ _)) (aG (by rw[bP,bn];omega) (aj ?_)))))));rw[u0];rfl
def XS{q y a b:Int}(hq:q<=2000000000)(hy:E9 q y)(ha:E9 q a)(hb:E9 q b):i64.wrap (i64.wrap (y*a)+b)=y*a+b:=by
 have h1:0<=y*a:=sJ hy.1 ha.1;have h2:y*a<=2000000000*2000000000:=wg (by have:=hy.2;omega) (by have:=ha.2;omega) ha.1 (by omega);have:=hb.1;have:=hb.2;rw[aI (n:=y*a) (by omega) (by omega),aI (by omega) (by omega)]
def zA3(k:ao gr)(c:uM gr.Q n C){u d e:Nat->Int}(hu:∀i,E9 gr.Q (u i))(hd:∀i,E9 gr.Q (d i))(he:∀i,E9 gr.Q (e i))(hn:n<=100){y t:Int}(hy:E9 gr.Q y)(ht:E9 gr.Q t):aS (σ:=(List Int)×List Int×List Int×List Int×List Int) (λiU dk=>
 (ix C.w iU).bind λM3=>
 (ix (rg u n) iU).bind λMs=>
 (eQ gr (i64.wrap (M3+(i64.wrap (t*Ms))))).bind λMF=>
 gd ((dk.1.length+1)*8<=140737488355328/\dk.1.length+1<=4611686018427387904)<|
 (ix C.v iU).bind λK7=>
 (ix C.a iU).bind λL5=>
 (ix C.b iU).bind λFZ=>
 (eQ gr (i64.wrap ((i64.wrap (y*L5))+FZ))).bind λNG=>
 (eQ gr (i64.wrap (K7+(i64.wrap (t*NG))))).bind λK8=>
 gd ((dk.2.1.length+1)*8<=140737488355328/\dk.2.1.length+1<=4611686018427387904)<|
 (ix C.s iU).bind λLh=>
 (ix (rg d n) iU).bind λN2=>
 (eQ gr (i64.wrap (Lh+(i64.wrap (t*N2))))).bind λNR=>
 gd ((dk.2.2.1.length+1)*8<=140737488355328/\dk.2.2.1.length+1<=4611686018427387904)<|
 (ix C.k iU).bind λKZ=>
 (ix (rg e n) iU).bind λCx=>
 (eQ gr (i64.wrap (KZ+(i64.wrap (t*Cx))))).bind λNi=>
 gd ((dk.2.2.2.1.length+1)*8<=140737488355328/\dk.2.2.2.1.length+1<=4611686018427387904)<|
 (ix C.m iU).bind λSD=>
 (eQ gr (i64.wrap (SD+(i64.wrap (t*FZ))))).bind λRu=>
 gd ((dk.2.2.2.2.length+1)*8<=140737488355328/\dk.2.2.2.2.length+1<=4611686018427387904)<|
 J (.go (dk.1++[MF],dk.2.1++[K8],dk.2.2.1++[NR],dk.2.2.2.1++[Ni],dk.2.2.2.2++[Ru]))) (λdk=>(dk.1,dk.2.1,dk.2.2.1,dk.2.2.2.1,dk.2.2.2.2)) n 0 ([],[],[],[],[])=
  J (rg (rF gr.Q t C.w u) n,rg (rF gr.Q t C.v (abF gr.Q y C)) n,rg (rF gr.Q t C.s d) n,rg (rF gr.Q t C.k e) n,rg (rF gr.Q t C.m (λi=>C.b.getD i 0)) n):=by
 have hP:=k.p;have hq:=k.q;refine px (λi=>(rg (rF gr.Q t C.w u) i,rg (rF gr.Q t C.v (abF gr.Q y C)) i,rg (rF gr.Q t C.s d) i,rg (rF gr.Q t C.k e) i,rg (rF gr.Q t C.m (λi=>C.b.getD i 0)) i)) rfl λi hi=>?_
 have CT:∀{l:List Int},l.length=n->ix l (i:Int)=J (l.getD i 0):=λh=>dY (by omega)
 have g2:∀{l:List Int},(l.length=n/\∀z∈l,E9 gr.Q z)->E9 gr.Q (l.getD i 0):=λh=>ey h.2 (by omega)
 refine ag (CT c.w.1) (ag (tH _ hi) (ag (lT k _) (aG (by rw[bn];omega) (ag (CT c.v.1) (ag (CT c.a.1) (ag (CT c.b.1) (ag (lT k _) ?_)))))));rw[XS (q:=gr.Q) (by omega) hy (g2 c.a) (g2 c.b),(iF (q:=gr.Q) (by omega) (g2 c.w) ht (hu i)).1];refine ag (lT k _) (aG (by rw[bn];omega) (ag (CT c.s.1) (ag (tH _ hi) (ag (lT k _) (aG (by rw[bn];omega) (ag (CT c.k.1) (ag (tH _ hi) (ag (lT k _) (aG (by rw[bn];omega) (ag (CT c.m.1) (ag (lT k _) (aG (by rw[bn];omega) (aj ?_)))))))))))));rw[(iF (q:=gr.Q) (by omega) (g2 c.v) ht (f9 (by omega) _)).1,(iF (q:=gr.Q) (by omega) (g2 c.s) ht (hd i)).1,(iF (q:=gr.Q) (by omega) (g2 c.k) ht (he i)).1,(iF (q:=gr.Q) (by omega) (g2 c.m) ht (g2 c.b)).1];show _=fg.go _;simp only[oE];rfl
end
section
attribute [local irreducible] chG zaR zdT zaO
def gq(gr:am)(h:Int)(perm:List Int)(C:Pc)(n:Nat):List Int:=rg (plF gr h perm C) n
def nh(gr:am)(key h:Int)(l:List an)(perm rs:List Int)(C:Pc):Int:=chG gr sX (zdT key l (zaR gr key l perm rs) (gq gr h perm C l.length))
def jG(gr:am)(key h:Int)(l:List an)(perm rs:List Int)(C:Pc):Nat->Int:=eF gr.Q (nh gr key h l perm rs C) perm
def kj(gr:am)(key h:Int)(l:List an)(perm rs:List Int)(C:Pc):List Int:=rg (pwF gr h (jG gr key h l perm rs C) C) l.length
def oP(gr:am)(key h:Int)(l:List an)(perm rs:List Int)(C:Pc):List Int:=zdT key l (zaR gr key l perm rs) (gq gr h perm C l.length++kj gr key h l perm rs C)
def qy(gr:am)(key h:Int)(l:List an)(perm rs:List Int)(C:Pc):Int:=chG gr sY (oP gr key h l perm rs C)
def tx(gr:am)(key h:Int)(l:List an)(perm rs:List Int)(C:Pc):Int:=chG gr sZ (oP gr key h l perm rs C)
def lY(gr:am)(key h:Int)(l:List an)(perm rs:List Int)(C:Pc):Nat->Int:=uF gr.Q (qy gr key h l perm rs C) (tx gr key h l perm rs C) (jG gr key h l perm rs C) perm
def jn(gr:am)(key h:Int)(l:List an)(perm rs:List Int)(C:Pc):List Int:=rg (chF gr h (lY gr key h l perm rs C) C) l.length
def oT(gr:am)(key h:Int)(out:List an)(ch:List Int)(C:Pc)(n:Nat):List Int:=(rg (MX gr h C) n++rg (c2F gr h ch C) n++[av gr h C.g])++rg (W1 gr h C) n++[aP gr [av gr gr.G (i64.wrap (0-C.f)),zaO gr (sdV out).1 C.k 1],aP gr [av gr key (i64.wrap (0-C.f)),zaO gr (sdV out).2 C.k 1]]
def gE(gr:am)(key h:Int)(l:List an)(perm rs:List Int)(C:Pc):List Int:=oT gr key h (zaR gr key l perm rs) (jn gr key h l perm rs C) C l.length
def ka(gr:am)(key h:Int)(l:List an)(perm rs:List Int)(C:Pc):Int:=chG gr sE (oP gr key h l perm rs C++jn gr key h l perm rs C++gE gr key h l perm rs C)
def Mb(q y t:Int)(u e:Nat->Int)(rs:List Int)(C:Pc)(n:Nat):List Int:=rg (rF q t C.w u) n++(rg (rF q t C.v (abF q y C)) n++(rg (rF q t C.s (dlF q u C)) n++([(C.g+t*C.c.getD (n-1) 0)%q]++(rg (rF q t C.k e) n++(rg (rF q t C.m (λi=>C.b.getD i 0)) n++[(C.f+t*dtN q rs (rg e n) n)%q])))))
def i9(gr:am)(key h:Int)(l:List an)(perm rs:List Int)(C:Pc):cn:=
 ⟨gq gr h perm C l.length,kj gr key h l perm rs C,jn gr key h l perm rs C,⟨gE gr key h l perm rs C,[ka gr key h l perm rs C],Mb gr.Q (qy gr key h l perm rs C) (ka gr key h l perm rs C) (lY gr key h l perm rs C) (jG gr key h l perm rs C) rs C l.length⟩⟩
structure gT (gr:am) (key h:Int) (l:List an) (perm rs:List Int) (C:Pc):Prop where
 m:m9 gr key l perm rs
 hh:aK gr h=Z
 c:uM gr.Q l.length C
section
variable {gr:am}{key h:Int}{l:List an}{perm rs:List Int}{C:Pc}
variable{L:List Int}
def gT.pr(P:gT gr key h l perm rs C):∀z∈perm,0<=z/\z<=1000:=λz hz=>by have:=P.m.pr z hz;have:=P.m.n;omega
def SL(k:ao gr)(P:gT gr key h l perm rs C):∀z∈gq gr h perm C l.length,aK gr z=Z:=nb λi hi=>In k P.hh _ _
def V3(k:ao gr)(P:gT gr key h l perm rs C):∀z∈kj gr key h l perm rs C,aK gr z=Z:=nb λi hi=>In k P.hh _ _
def H5(k:ao gr)(P:gT gr key h l perm rs C):(jn gr key h l perm rs C).length=l.length/\∀z∈jn gr key h l perm rs C,aK gr z=Z:=⟨bn _ _,nb λi hi=>In k P.hh _ _⟩
def jA{P:Int->Prop}{l m:List Int}(h1:∀x∈l,P x)(h2:∀x∈m,P x):∀x∈l++m,P x:=λx hx=>(jY.1 hx).elim (h1 x) (h2 x)
def FC(k:ao gr)(P:gT gr key h l perm rs C):(gE gr key h l perm rs C).length=3*l.length+3/\∀z∈gE gr key h l perm rs C,R9 z:=by
 have v2:∀i,R9 (c2F gr h (jn gr key h l perm rs C) C i):=λi=>nO k (bJ k _ _) (bJ k _ _)
 refine⟨by unfold gE oT;simp[bn];omega,?_⟩;unfold gE oT;refine jA (jA (jA (jA (nb λi _=>Yf k _ _ _) (nb λi _=>v2 i)) ?_) (nb λi _=>Yf k _ _ _)) ?_
 ·intro x hx;rw[gB]at hx;rw[hx];exact bJ k _ _
 intro x hx;simp only[fK,jf,jg]at hx;rcases hx with rfl|rfl<;>exact nO k (bJ k _ _) (fy k _ _)
def L6(k:ao gr)(P:gT gr key h l perm rs C):(oP gr key h l perm rs C).length=1+6*l.length/\(oP gr key h l perm rs C).all cC=Z:=by
 have dL:=P.m.pl;refine⟨by unfold oP;rw[Gg,kK,bP,gq,kj,bn,bn];omega,?_⟩;unfold oP;exact DX k P.m.key P.m.c (t8 k P.m) (oa k (bm.2 (jA (SL k P) (V3 k P))))
def MW(k:ao gr)(P:gT gr key h l perm rs C):(zdT key l (zaR gr key l perm rs) (gq gr h perm C l.length)).length=1+5*l.length/\(zdT key l (zaR gr key l perm rs) (gq gr h perm C l.length)).all cC=Z:=by
 have dL:=P.m.pl;exact⟨by rw[Gg,kK,gq,bn];omega,DX k P.m.key P.m.c (t8 k P.m) (oa k (bm.2 (SL k P)))⟩
def WT(k:ao gr)(P:gT gr key h l perm rs C):(oP gr key h l perm rs C++jn gr key h l perm rs C++gE gr key h l perm rs C).length=4+10*l.length/\(oP gr key h l perm rs C++jn gr key h l perm rs C++gE gr key h l perm rs C).all cC=Z:=by
 have h1:=L6 k P;have h2:=H5 k P;have h3:=FC k P;refine⟨by rw[bP,bP,h1.1,h2.1,h3.1];omega,?_⟩;rw[kq,kq,h1.2,oa k (bm.2 h2.2),Wh h3.2];rfl
def pM(k:ao gr){s:ByteArray}(hs:s.size<=40)(hl:L.length<=300)(hd:L.all cC=Z):mg gr s L=J (chG gr s L,Z)/\pU gr s L=J (chG gr s L):=by
 refine⟨?_,Mj k (by omega) (by omega) hd⟩;rw[LV k _ (by omega),aB (MA k hs (by omega) hd)]
def Zn(h:L.length<=1000):uh L=J L:=eK (by omega)
def XZ(k:ao gr)(hl:L.length<=300)(hd:L.all cC=Z):Bf gr L=J (chG gr sY L,chG gr sZ L,Z):=by
 unfold Bf;exact bE (ag (pM k (by decide) hl hd).1 (ag (pM k (by decide) hl hd).1 (ay (ψ:=(· =aa)) (bt rfl (aj rfl)) λb hb=>by subst hb;exact bt rfl (aj rfl))))
def Pc.cs(C:Pc):List Int:=C.a++(C.b++(C.c++(C.w++(C.v++(C.s++(C.g::(C.k++(C.m++[C.f]))))))))
attribute [local irreducible] rg plF pwF chF uF dlF c2F rF abF eF dtN sdV vc
set_option maxHeartbeats 4000000 in
def W6(k:ao gr){B:ct}(P:gT gr key B.H l perm rs C):Fw gr B key l perm rs C.cs=J (i9 gr key B.H l perm rs C,Z):=by
 have hp:=k.p;have hq:=k.q;have cL:0<gr.Q/\gr.Q<=2000000000:=by omega
 have hn:=P.m.n;have dL:=P.m.pl;have fm:=P.m.rl;have hk:=dV k P.m.key;have hH:=dV k P.hh;have kM:(zaR gr key l perm rs).length=l.length:=by rw[kK,P.m.pl]
 have gi:=sA k (t8 k P.m);have eY:=mJ (zaR gr key l perm rs);rw[kM]at eY;have hx:E9 gr.Q (nh gr key B.H l perm rs C):=mG k _ _;have hy:E9 gr.Q (qy gr key B.H l perm rs C):=mG k _ _;have hz:E9 gr.Q (tx gr key B.H l perm rs C):=mG k _ _;have ht:E9 gr.Q (ka gr key B.H l perm rs C):=mG k _ _;have a1:=MW k P;have a2:=L6 k P;have a3:=WT k P;have a4:=FC k P;have a5:=H5 k P;have ee:∀i,E9 gr.Q (jG gr key B.H l perm rs C i):=λi=>KO cL.1 _ _ _
 have ue:∀i,E9 gr.Q (lY gr key B.H l perm rs C i):=λi=>by unfold lY uF;exact f9 cL.1 _
 have de:∀i,E9 gr.Q (dlF gr.Q (lY gr key B.H l perm rs C) C i):=λi=>by unfold dlF;exact f9 cL.1 _
 have lP:(gq gr B.H perm C l.length).length=l.length:=bn _ _;have lW:(kj gr key B.H l perm rs C).length=l.length:=bn _ _;have c1:=O2 k P.m;have c2:=zHP (B:=B) k hH P.pr dL P.c.a.1 (by omega);have c3:=Dp (key:=key) (l:=l) (out:=zaR gr key l perm rs) (m:=gq gr B.H perm C l.length) (by omega) (by omega) (by omega);have c4:=(pM k (s:=sX) (by decide) (by omega) a1.2).1;have c5:=zB0 (B:=B) (A:=gq gr B.H perm C l.length) k hH P.pr dL P.c.b.1 (by omega) hx;have c6:=Dp (key:=key) (l:=l) (out:=zaR gr key l perm rs) (m:=gq gr B.H perm C l.length++kj gr key B.H l perm rs C) (by omega) (by omega) (by rw[bP];omega);have c7:=XZ k (L:=oP gr key B.H l perm rs C) (by omega) a2.2;have c8:=zBU (B:=B) (A:=gq gr B.H perm C l.length) (W:=kj gr key B.H l perm rs C) k hH P.pr dL P.c (by omega) (x:=nh gr key B.H l perm rs C) hy hz;have c9:=(ZR (A:=[]) (A9 (B:=B) k hH) P.c.w.1 P.c.v.1 (by omega) (by simp)).trans (show _=J (rg (MX gr B.H C) l.length)from by rw[mL];rfl);have xA:=λA hA=>zAL (A:=A) k hH a5 P.c (by omega) hA
 have sx:=λA hA=>ZR (A:=A) (A9 (B:=B) k hH) P.c.k.1 P.c.m.1 (by omega) hA
 have Qk:=(rU (l:=zaR gr key l perm rs) (by omega)).1;have SE:=oV (m:=C.k) k gi.1 (by have:=P.c.k.1;omega);have R7:=oV (m:=C.k) k gi.2 (by have:=P.c.k.1;omega)
 have c15:pS [oP gr key B.H l perm rs C,jn gr key B.H l perm rs C,gE gr key B.H l perm rs C]=J (oP gr key B.H l perm rs C++jn gr key B.H l perm rs C++gE gr key B.H l perm rs C):=by
  have e:[oP gr key B.H l perm rs C,jn gr key B.H l perm rs C,gE gr key B.H l perm rs C].flatten=oP gr key B.H l perm rs C++jn gr key B.H l perm rs C++gE gr key B.H l perm rs C:=by simp
  rw[Fk _ (by rw[e,a3.1];omega),e]
 have Py:=(pM k (s:=sE) (by decide) (by omega) a3.2).1;have c17:=zA3 k P.c ue de ee (by omega) hy ht;have lE:(rg (jG gr key B.H l perm rs C) l.length).length=l.length:=bn _ _;have Pf:=((OL cL (l:=rs) (m:=rg (jG gr key B.H l perm rs C) l.length) (As P.m.re) (nb λi _=>ee i) (by omega)).trans (by rw[fm]):uA rs (rg (jG gr key B.H l perm rs C) l.length) gr.Q=J (dtN gr.Q rs (rg (jG gr key B.H l perm rs C) l.length) l.length))
 have Tg:=AA cL.1 rs (rg (jG gr key B.H l perm rs C) l.length) l.length;have gR:ix C.c ((l.length-1:Nat):Int)=J (C.c.getD (l.length-1) 0):=dY (by have:=P.c.c.1;omega);have QI:E9 gr.Q (C.c.getD (l.length-1) 0):=ey P.c.c.2 (by have:=P.c.c.1;omega);have x1:=(lT k _).trans (gn (λv=>J (v%gr.Q)) (iF (by omega) P.c.g ht QI).1);have x2:=(lT k _).trans (gn (λv=>J (v%gr.Q)) (iF (by omega) P.c.f ht Tg).1);have w1:i64.wrap ((l.length:Int)-1)=((l.length-1:Nat):Int):=cM (by omega) (by omega);unfold Fw Pc.cs;refine bE (ag (mD P.c.a.1) (ag (mD P.c.b.1) (ag (mD P.c.c.1) (ag (mD P.c.w.1) (ag (mD P.c.v.1) (ag (mD P.c.s.1) (ag (yH _ _) (ag (mD P.c.k.1) (ag (mD P.c.m.1) (ag (yH _ _) ?_))))))))));dsimp only;refine ag c1 (ag c2 (ag c3 (ag c4 (ag c5 ?_))));dsimp only;refine ag (Zn (by show(gq gr B.H perm C l.length).length<=_;omega)) (aG (by rw[lP,bn];omega) (ag c6 (ag c7 (ag c8 ?_))));dsimp only;refine aG (by rw[bn];simp;omega) (ag rfl (ag c9 (ag (xA _ ?_) (ag (fh k hH _) (aG ?_ (ag (sx _ ?_) (ag Qk ?_)))))))
 ·rw[bn];omega
 ·simp only[bP,bn];omega
 ·simp only[bP,bn,dX,ia];omega
 refine ag (fh k (fG k) _) (ag SE (ag (jT k (bJ k _ _) (fy k _ _)) (ag (fh k hk _) (ag R7 (ag (jT k (bJ k _ _) (fy k _ _)) (aG ?_ (ag c15 (ag Py (ay (ψ:=(· =aa)) (bt rfl (bt rfl (aj rfl))) ?_)))))))))
 ·simp only[bP,bn,dX,ia];omega
 rintro _ rfl;refine bt rfl (ag c17 ?_);rw[w1];refine ag gR (ag x1 (ag Pf (ag x2 (ag (Fk _ ?_) (aj ?_)))))
 ·simp[bn];omega
 unfold i9 Mb;simp only[Gt,List.flatten_nil,rc];rfl
end
end
section
variable {gr:am}{h:Int}{perm:List Int}{C:Pc}{n:Nat}
variable{A W:List Int}
def zEq(k:ao gr)(hp:∀x∈perm,0<=x/\x<=1000)(hl:perm.length=n)(hn:n<=100){x:Int}(hx:E9 gr.Q x):I4 gr perm x=J (rg (eF gr.Q x perm) n):=by
 unfold I4;rw[hl];refine bE (ag (px (λi=>rg (eF gr.Q x perm) i) rfl λi hi=>?_) (aj rfl));have hp:=ey hp (i:=i) (by omega);refine ag (dY (by omega)) (ag (PQ k hx hp).2 (aG (by rw[bn];omega) (aj ?_)));rw[oE];rfl
def zzV(k:ao gr)(hh:R9 h)(hb:C.b.length=n)(hn:n<=100){e:Nat->Int}:aS (σ:=(List Int)×List Int×List Int×List Int×List Int×List Int) (λfP bV=>
 (ix (rg e n) fP).bind λil=>
 (ix C.b fP).bind λj5=>
 (nR gr h il j5).bind λeZ=>
 gd ((bV.2.1.length+1)*8<=140737488355328/\bV.2.1.length+1<=4611686018427387904)<|
 J (.go (bV.1,bV.2.1++[eZ],bV.2.2.1,bV.2.2.2.1,bV.2.2.2.2.1,bV.2.2.2.2.2))) (λbV=>(bV.1,bV.2.1,bV.2.2.1,bV.2.2.2.1,bV.2.2.2.2.1,bV.2.2.2.2.2)) n 0 (A,[],[],[],[],[])=J (A,rg (pwF gr h e C) n,[],[],[],[]):=by
 refine px (λi=>(A,rg (pwF gr h e C) i,[],[],[],[])) rfl λi hi=>?_
 refine ag (tH _ hi) (ag (dY (by omega)) (ag (DN k hh _ _) (aG (by rw[bn];omega) (aj ?_))));rw[oE];rfl
def zzv(k:ao gr)(hh:R9 h)(hp:∀x∈perm,0<=x/\x<=1000)(hl:perm.length=n)(c:uM gr.Q n C)(hn:n<=100){x y z:Int}(hy:E9 gr.Q y)(hz:E9 gr.Q z) :aS (σ:=(List Int)×List Int×List Int×List Int×List Int×List Int×List Int×List Int×Int×Int) (λuK cB=>
 (ix perm uK).bind λot=>
 gd (gr.Q≠0)<|
 (ix (rg (eF gr.Q x perm) n) uK).bind λMK=>
 (qo (i64.wrap ((i64.wrap ((i64.wrap (y*((i64.wrap (ot+1)).tmod gr.Q)))+MK))-z)) gr.Q).bind λrK=>
 gd ((cB.2.2.2.2.2.2.1.length+1)*8<=140737488355328/\cB.2.2.2.2.2.2.1.length+1<=4611686018427387904)<|
 gd (gr.Q≠0)<|
 (ix C.c uK).bind λqn=>
 (nR gr h ((i64.wrap (cB.2.2.2.2.2.2.2.2.1*rK)).tmod gr.Q) qn).bind λCK=>
 gd ((cB.2.2.1.length+1)*8<=140737488355328/\cB.2.2.1.length+1<=4611686018427387904)<|
 (qo (i64.wrap (qn-(i64.wrap (cB.2.2.2.2.2.2.2.2.2*rK)))) gr.Q).bind λBS=>
 gd ((cB.2.2.2.2.2.2.2.1.length+1)*8<=140737488355328/\cB.2.2.2.2.2.2.2.1.length+1<=4611686018427387904)<|
 J (.go (cB.1,cB.2.1,cB.2.2.1++[CK],cB.2.2.2.1,cB.2.2.2.2.1,cB.2.2.2.2.2.1,cB.2.2.2.2.2.2.1++[rK],cB.2.2.2.2.2.2.2.1++[BS],(i64.wrap (cB.2.2.2.2.2.2.2.2.1*rK)).tmod gr.Q,qn))) (λcB=>(cB.1,cB.2.1,cB.2.2.1,cB.2.2.2.1,cB.2.2.2.2.1,cB.2.2.2.2.2.1,cB.2.2.2.2.2.2.1,cB.2.2.2.2.2.2.2.1)) perm.length 0 (A,W,[],[],[],[],[],[],1,0)=
  J (A,W,rg (chF gr h (uF gr.Q y z (eF gr.Q x perm) perm) C) n,[],[],[],rg (uF gr.Q y z (eF gr.Q x perm) perm) n,rg (dlF gr.Q (uF gr.Q y z (eF gr.Q x perm) perm) C) n):=by
 rw[hl];have hP:=k.p;have hq:=k.q;have cL:0<gr.Q/\gr.Q<=2000000000:=by omega
 have hQ:gr.Q≠0:=by omega
 generalize hu:uF gr.Q y z (eF gr.Q x perm) perm=u;have yM:∀i,E9 gr.Q (u i):=λi=>by rw[<-hu];exact f9 cL.1 _
 refine px (λi=>(A,W,rg (chF gr h u C) i,[],[],[],rg u i,rg (dlF gr.Q u C) i,r8 gr.Q u i,zX C i)) rfl λi hi=>?_
 have hp:=ey hp (i:=i) (by omega);have hc:=ey c.c.2 (i:=i) (by have:=c.c.1;omega);have hm:=(ve (q:=gr.Q) (by omega) (ZD (by omega) u i) (yM i)).2;have hls:=(ve (q:=gr.Q) (by omega) (Wp cL.1 c (i:=i) (by omega)) (yM i)).1
 have ya:0<=zX C i*u i/\zX C i*u i<=2000000000*2000000000:=by
  have a:=Wp cL.1 c (i:=i) (by omega);have b:=yM i;exact⟨sJ a.1 b.1,wg (by have:=a.2;omega) (by have:=b.2;omega) b.1 (by omega)⟩
 refine ag (dY (by omega)) (aG hQ (ag (tH _ hi) (ag (BX (by omega) (by omega)) ?_)));rw[zM9 cL hy hp (KO cL.1 _ _ _) hz,show(y*(perm.getD i 0+1)+eF gr.Q x perm i-z)%gr.Q=u i by rw[<-hu];rfl];refine aG (by rw[bn];omega) (aG hQ (ag (dY (by have:=c.c.1;omega)) ?_));dsimp only;rw[hm,hls,aI (n:=C.c.getD i 0-zX C i*u i) (by have:=hc.1;omega) (by have:=hc.2;omega)];refine ag (DN k hh _ _) (aG (by rw[bn];omega) (ag (BX (by omega) (by omega)) (aG (by rw[bn];omega) (aj ?_))));simp only[oE];rfl
def Xv(k:ao gr)(hh:R9 h){w v:List Int}(hw:w.length=n)(hv:v.length=n)(hn:n<=100){H D:List Int}{X Y:List Int}(hD:D.length<=1000):aS (σ:=(List Int)×List Int×List Int×List Int×List Int×List Int) (λAU dN=>
 (ix w AU).bind λiV=>
 (ix v AU).bind λjt=>
 (nR gr h iV jt).bind λoW=>
 gd ((dN.2.2.2.1.length+1)*8<=140737488355328/\dN.2.2.2.1.length+1<=4611686018427387904)<|
 J (.go (dN.1,dN.2.1,dN.2.2.1,dN.2.2.2.1++[oW],dN.2.2.2.2.1,dN.2.2.2.2.2))) (λdN=>(dN.1,dN.2.1,dN.2.2.1,dN.2.2.2.1,dN.2.2.2.2.1,dN.2.2.2.2.2)) n 0 (A,W,H,D,X,Y)=J (A,W,H,D++rg (λi=>vc gr h (w.getD i 0) (v.getD i 0)) n,X,Y):=by
 refine px (λi=>(A,W,H,D++rg (λi=>vc gr h (w.getD i 0) (v.getD i 0)) i,X,Y)) (by rw[uj,rc]) λi hi=>?_
 refine ag (dY (by omega)) (ag (dY (by omega)) (ag (DN k hh _ _) (aG (by dsimp only;rw[bP,bn];omega) (aj ?_))));rw[u0]
def zyV(k:ao gr)(hh:R9 h){ch:List Int}(hc:ch.length=n/\∀z∈ch,aK gr z=Z)(c:uM gr.Q n C)(hn:n<=100){D X Y:List Int}(hD:D.length<=1000):aS (σ:=(List Int)×List Int×List Int×List Int×List Int×List Int×Int) (λvh di=>
 (ix C.w vh).bind λMe=>
 (ix C.s vh).bind λLb=>
 (cD gr di.2.2.2.2.2.2 Me).bind λLc=>
 (cD gr h Lb).bind λMc=>
 (eg gr [Lc,Mc]).bind λJP=>
 gd ((di.2.2.2.1.length+1)*8<=140737488355328/\di.2.2.2.1.length+1<=4611686018427387904)<|
 (ix di.2.2.1 vh).bind λIR=>
 J (.go (di.1,di.2.1,di.2.2.1,di.2.2.2.1++[JP],di.2.2.2.2.1,di.2.2.2.2.2.1,IR))) (λdi=>(di.1,di.2.1,di.2.2.1,di.2.2.2.1,di.2.2.2.2.1,di.2.2.2.2.2.1)) n 0 (A,W,ch,D,X,Y,gr.G)=J (A,W,ch,D++rg (c2F gr h ch C) n,X,Y):=by
 refine px (λi=>(A,W,ch,D++rg (c2F gr h ch C) i,X,Y,bef gr.G ch i)) (by rw[uj,rc];rfl) λi hi=>?_
 have hb:=Gh k (nH k) hc.2 i (by omega);refine ag (dY (by have:=c.w.1;omega)) (ag (dY (by have:=c.s.1;omega)) (ag (fb k hb.2 _) (ag (fb k hh _) (ag (iC k (bJ k _ _) (bJ k _ _)) (aG (by dsimp only;rw[bP,bn];omega) (ag (dY (by have:=hc.1;dsimp only;omega)) (aj ?_)))))));have e:ch.getD i 0=bef gr.G ch (i+1):=by unfold bef;simp
 rw[u0,e];rfl
def NV(k:ao gr){w:List Int}(hw:w.length=n/\∀z∈w,E9 gr.Q z){L:List Int}{u:Nat->Int}(hu:∀i,i<n->ix L (i:Int)=J (u i)/\E9 gr.Q (u i))(hn:n<=100){t:Int}(ht:E9 gr.Q t)(hA:A.length<=1000):aS (σ:=(List Int)) (λzl nW=>
 (ix w zl).bind λGH=>
 (ix L zl).bind λJv=>
 gd (gr.Q≠0)<|
 gd ((nW.length+1)*8<=140737488355328/\nW.length+1<=4611686018427387904)<|
 J (.go (nW++[(i64.wrap (GH+(i64.wrap (t*Jv)))).tmod gr.Q]))) (λnW=>nW) n 0 A=J (A++rg (rF gr.Q t w u) n):=by
 have hP:=k.p;have hq:=k.q;refine px (λi=>A++rg (rF gr.Q t w u) i) (by rw[uj,rc]) λi hi=>?_
 refine ag (dY (by omega)) (ag (hu i hi).1 (aG (by omega) (aG (by rw[bP,bn];omega) (aj ?_))));rw[(iF (q:=gr.Q) (by omega) (ey hw.2 (by omega)) ht (hu i hi).2).2,u0];rfl
def zzK(k:ao gr)(c:uM gr.Q n C)(hn:n<=100){y t:Int}(hy:E9 gr.Q y)(ht:E9 gr.Q t)(hA:A.length<=1000):aS (σ:=(List Int)) (λvi oK=>
 (ix C.v vi).bind λJz=>
 (ix C.a vi).bind λJK=>
 (ix C.b vi).bind λGV=>
 gd (gr.Q≠0)<|
 gd (gr.Q≠0)<|
 gd ((oK.length+1)*8<=140737488355328/\oK.length+1<=4611686018427387904)<|
 J (.go (oK++[(i64.wrap (Jz+(i64.wrap (t*((i64.wrap ((i64.wrap (y*JK))+GV)).tmod gr.Q))))).tmod gr.Q]))) (λoK=>oK) n 0 A=J (A++rg (rF gr.Q t C.v (abF gr.Q y C)) n):=by
 have hP:=k.p;have hq:=k.q;refine px (λi=>A++rg (rF gr.Q t C.v (abF gr.Q y C)) i) (by rw[uj,rc]) λi hi=>?_
 have g2:∀{l:List Int},(l.length=n/\∀z∈l,E9 gr.Q z)->E9 gr.Q (l.getD i 0):=λh=>ey h.2 (by omega)
 refine ag (dY (by have:=c.v.1;omega)) (ag (dY (by have:=c.a.1;omega)) (ag (dY (by have:=c.b.1;omega)) (aG (by omega) (aG (by omega) (aG (by rw[bP,bn];omega) (aj ?_))))));have e0:(y*C.a.getD i 0+C.b.getD i 0).tmod gr.Q=(y*C.a.getD i 0+C.b.getD i 0)%gr.Q:=je (by have:=sJ hy.1 (g2 c.a).1;have:=(g2 c.b).1;omega);rw[XS (q:=gr.Q) (by omega) hy (g2 c.a) (g2 c.b),e0,(iF (q:=gr.Q) (by omega) (g2 c.v) ht (f9 (by omega) _)).2,u0];rfl
end
def xe{α:Type}{A X R L:List α}{p q:Nat}(e:L=A++(X++R))(h1:A.length=p)(h2:p+X.length=q):(L.take q).drop p=X:=by
 rw[e,<-gU,AaJ (by simp;omega),OI h1]
def NT(key:Int)(l out:List an)(m w:List Int):zdT key l out m++w=zdT key l out (m++w):=by simp[zdT]
def zFI{q:Int}{n:Nat}{C:Pc}(c:uM q n C):C.cs.length=8*n+2/\(C.cs.take n).drop 0=C.a/\(C.cs.take (2*n)).drop n=C.b/\(C.cs.take (3*n)).drop (2*n)=C.c/\(C.cs.take (4*n)).drop (3*n)=C.w/\(C.cs.take (5*n)).drop (4*n)=C.v/\(C.cs.take (6*n)).drop (5*n)=C.s/\(C.cs.take (7*n+1)).drop (6*n+1)=C.k/\(C.cs.take (8*n+1)).drop (7*n+1)=C.m/\ix C.cs ((6*n:Nat):Int)=J C.g/\ix C.cs ((8*n+1:Nat):Int)=J C.f:=by
 have lA:=c.a.1;have lB:=c.b.1;have lC:=c.c.1;have lW:=c.w.1;have lV:=c.v.1;have lS:=c.s.1;have lK:=c.k.1;have lM:=c.m.1;refine⟨by simp[Pc.cs];omega,?_,?_,?_,?_,?_,?_,?_,?_,?_,?_⟩
 ·exact xe (A:=[]) (R:=(C.b++(C.c++(C.w++(C.v++(C.s++(C.g::(C.k++(C.m++[C.f]))))))))) (by simp[Pc.cs]) rfl (by omega)
 ·exact xe (A:=C.a) (R:=(C.c++(C.w++(C.v++(C.s++(C.g::(C.k++(C.m++[C.f])))))))) (by simp[Pc.cs]) lA (by omega)
 ·exact xe (A:=(C.a++C.b)) (R:=(C.w++(C.v++(C.s++(C.g::(C.k++(C.m++[C.f]))))))) (by simp[Pc.cs]) (by simp;omega) (by omega)
 ·exact xe (A:=(C.a++(C.b++C.c))) (R:=(C.v++(C.s++(C.g::(C.k++(C.m++[C.f])))))) (by simp[Pc.cs]) (by simp;omega) (by omega)
 ·exact xe (A:=(C.a++(C.b++(C.c++C.w)))) (R:=(C.s++(C.g::(C.k++(C.m++[C.f]))))) (by simp[Pc.cs]) (by simp;omega) (by omega)
 ·exact xe (A:=(C.a++(C.b++(C.c++(C.w++C.v))))) (R:=(C.g::(C.k++(C.m++[C.f])))) (by simp[Pc.cs]) (by simp;omega) (by omega)
 ·exact xe (A:=(C.a++(C.b++(C.c++(C.w++(C.v++(C.s++[C.g]))))))) (R:=(C.m++[C.f])) (by simp[Pc.cs]) (by simp;omega) (by omega)
 ·exact xe (A:=(C.a++(C.b++(C.c++(C.w++(C.v++(C.s++([C.g]++C.k)))))))) (R:=[C.f]) (by simp[Pc.cs]) (by simp;omega) (by omega)
 ·have e:C.cs=(C.a++(C.b++(C.c++(C.w++(C.v++C.s)))))++(C.g::(C.k++(C.m++[C.f]))):=by simp[Pc.cs]
  have h0:(C.a++(C.b++(C.c++(C.w++(C.v++C.s))))).length=6*n:=by simp;omega
  exact HU (by rw[e,fT (by omega),h0,Nat.sub_self];rfl)
 have e:C.cs=(C.a++(C.b++(C.c++(C.w++(C.v++(C.s++([C.g]++(C.k++C.m))))))))++[C.f]:=by simp[Pc.cs]
 have h0:(C.a++(C.b++(C.c++(C.w++(C.v++(C.s++([C.g]++(C.k++C.m)))))))).length=8*n+1:=by simp;omega
 exact HU (by rw[e,fT (by omega),h0,Nat.sub_self];rfl)
section
attribute [local irreducible] chG zaR zdT zaO
section
variable {gr:am}{key h:Int}{l:List an}{perm rs:List Int}{C:Pc}
def zHE(k:ao gr)(P:gT gr key h l perm rs C):yK gr key l (zaR gr key l perm rs) (gq gr h perm C l.length) (kj gr key h l perm rs C)=J (qy gr key h l perm rs C,tx gr key h l perm rs C):=by
 have hn:=P.m.n;have kM:(zaR gr key l perm rs).length=l.length:=by rw[kK,P.m.pl]
 have lP:(gq gr h perm C l.length).length=l.length:=bn _ _;have lW:(kj gr key h l perm rs C).length=l.length:=bn _ _;have a1:=MW k P;have a2:=L6 k P;unfold yK;refine bE (ag (Aa (by omega) (by omega) (by omega)) (aG (by omega) ?_));rw[NT];exact ag (pM k (s:=sY) (by decide) (by have:=a2.1;omega) a2.2).2 (ag (pM k (s:=sZ) (by decide) (by have:=a2.1;omega) a2.2).2 (aj rfl))
def zFW(k:ao gr)(P:gT gr key h l perm rs C){x y:List Int}:AB gr key l (zaR gr key l perm rs) ⟨gq gr h perm C l.length,kj gr key h l perm rs C,jn gr key h l perm rs C,⟨gE gr key h l perm rs C,x,y⟩⟩=J (ka gr key h l perm rs C):=by
 have hn:=P.m.n;have kM:(zaR gr key l perm rs).length=l.length:=by rw[kK,P.m.pl]
 have lP:(gq gr h perm C l.length).length=l.length:=bn _ _;have lW:(kj gr key h l perm rs C).length=l.length:=bn _ _;have lH:=(H5 k P).1;have lM:=(FC k P).1;have a1:=MW k P;have a2:=L6 k P;have a3:=WT k P;have a2':(zdT key l (zaR gr key l perm rs) (gq gr h perm C l.length++kj gr key h l perm rs C)).length=1+6*l.length:=a2.1;unfold AB;dsimp only;refine bE (ag (Aa (by omega) (by omega) (by omega)) (aG (by omega) ?_));rw[NT];exact aG (by omega) (aG (by rw[bP];omega) (ag (pM k (s:=sE) (by decide) (by have:=a3.1;unfold oP at this;omega) a3.2).2 (aj rfl)))
attribute [local irreducible] rg plF pwF chF uF dlF c2F rF abF eF dtN sdV vc
set_option maxHeartbeats 4000000 in
def zIa(k:ao gr)(P:gT gr key h l perm rs C):Gp gr key h l perm rs C.cs=J (i9 gr key h l perm rs C):=by
 have hp:=k.p;have hq:=k.q;have cL:0<gr.Q/\gr.Q<=2000000000:=by omega
 have hQ:gr.Q≠0:=by omega
 have hn:=P.m.n;have dL:=P.m.pl;have fm:=P.m.rl;have hk:=dV k P.m.key;have hH:=dV k P.hh;have kM:(zaR gr key l perm rs).length=l.length:=by rw[kK,P.m.pl]
 have gi:=sA k (t8 k P.m);have eY:=mJ (zaR gr key l perm rs);rw[kM]at eY;have hx:E9 gr.Q (nh gr key h l perm rs C):=mG k _ _;have hy:E9 gr.Q (qy gr key h l perm rs C):=mG k _ _;have hz:E9 gr.Q (tx gr key h l perm rs C):=mG k _ _;have ht:E9 gr.Q (ka gr key h l perm rs C):=mG k _ _;have a1:=MW k P;have a4:=FC k P;have a5:=H5 k P;have ee:∀i,E9 gr.Q (jG gr key h l perm rs C i):=λi=>KO cL.1 _ _ _
 have ue:∀i,E9 gr.Q (lY gr key h l perm rs C i):=λi=>by unfold lY uF;exact f9 cL.1 _
 have de:∀i,E9 gr.Q (dlF gr.Q (lY gr key h l perm rs C) C i):=λi=>by unfold dlF;exact f9 cL.1 _
 have lP:(gq gr h perm C l.length).length=l.length:=bn _ _;have c1:=P0 k P.m;have c2:=zGi (h:=h) k hH P.pr dL P.c.a.1 (by omega);have c3:=Aa (key:=key) (l:=l) (out:=zaR gr key l perm rs) (m:=gq gr h perm C l.length) (by omega) (by omega) (by omega);have c4:=(pM k (s:=sX) (by decide) (by omega) a1.2).2;have c5:=zEq k P.pr dL (by omega) hx;have c6:=zzV (A:=gq gr h perm C l.length) (e:=jG gr key h l perm rs C) k hH P.c.b.1 (by omega);have c7:=zHE k P;have c8:=zzv (A:=gq gr h perm C l.length) (W:=kj gr key h l perm rs C) k hH P.pr dL P.c (by omega) (x:=nh gr key h l perm rs C) hy hz;have c9:=(Xv (A:=gq gr h perm C l.length) (W:=kj gr key h l perm rs C) (H:=jn gr key h l perm rs C) (D:=[]) (X:=[]) (Y:=[]) k hH P.c.w.1 P.c.v.1 (by omega) (by simp)).trans (show _=J (gq gr h perm C l.length,kj gr key h l perm rs C,jn gr key h l perm rs C,rg (MX gr h C) l.length,[],[])from by rw[mL];rfl);have xA:=λD hD=>zyV (A:=gq gr h perm C l.length) (W:=kj gr key h l perm rs C) (D:=D) (X:=[]) (Y:=[]) k hH a5 P.c (by omega) hD
 have sx:=λD hD=>Xv (A:=gq gr h perm C l.length) (W:=kj gr key h l perm rs C) (H:=jn gr key h l perm rs C) (D:=D) (X:=[]) (Y:=[]) k hH P.c.k.1 P.c.m.1 (by omega) hD
 have Qk:=(rU (l:=zaR gr key l perm rs) (by omega)).2;have SE:=oF (m:=C.k) k gi.1 (by rw[eY.1,P.c.k.1];exact cy _);have R7:=oF (m:=C.k) k gi.2 (by rw[eY.2,P.c.k.1];exact cy _);have Py:=zFW k P (x:=[]) (y:=[]);have r1:=λA hA=>NV (A:=A) k P.c.w (L:=rg (lY gr key h l perm rs C) l.length) (u:=lY gr key h l perm rs C) (λi hi=>⟨tH _ hi,ue i⟩) (by omega) ht hA
 have r2:=λA hA=>zzK (A:=A) k P.c (by omega) hy ht hA
 have r3:=λA hA=>NV (A:=A) k P.c.s (L:=rg (dlF gr.Q (lY gr key h l perm rs C) C) l.length) (u:=dlF gr.Q (lY gr key h l perm rs C) C) (λi hi=>⟨tH _ hi,de i⟩) (by omega) ht hA
 have r4:=λA hA=>NV (A:=A) k P.c.k (L:=rg (jG gr key h l perm rs C) l.length) (u:=jG gr key h l perm rs C) (λi hi=>⟨tH _ hi,ee i⟩) (by omega) ht hA
 have r5:=λA hA=>NV (A:=A) k P.c.m (L:=C.b) (u:=λi=>C.b.getD i 0) (λi hi=>⟨dY (by rw[P.c.b.1];exact hi),ey P.c.b.2 (by rw[P.c.b.1];exact hi)⟩) (by omega) ht hA
 have Pf:=((Rq cL (l:=rs) (m:=rg (jG gr key h l perm rs C) l.length) (As P.m.re) (nb λi _=>ee i) ((bn _ _).trans fm.symm)).trans (by rw[fm]):u9 rs (rg (jG gr key h l perm rs C) l.length) gr.Q=J (dtN gr.Q rs (rg (jG gr key h l perm rs C) l.length) l.length))
 have Tg:=AA cL.1 rs (rg (jG gr key h l perm rs C) l.length) l.length;have gR:ix C.c ((l.length-1:Nat):Int)=J (C.c.getD (l.length-1) 0):=dY (by rw[P.c.c.1];omega);have QI:E9 gr.Q (C.c.getD (l.length-1) 0):=ey P.c.c.2 (by rw[P.c.c.1];omega);have x1:=(iF (q:=gr.Q) (by omega) P.c.g ht QI).2;have x2:=(iF (q:=gr.Q) (by omega) P.c.f ht Tg).2;have w1:i64.wrap ((l.length:Int)-1)=((l.length-1:Nat):Int):=cM (by omega) (by omega);have w2:i64.wrap (2*(l.length:Int))=((2*l.length:Nat):Int):=cM (by omega) (by omega);have w3:i64.wrap (3*(l.length:Int))=((3*l.length:Nat):Int):=cM (by omega) (by omega);have w4:i64.wrap (4*(l.length:Int))=((4*l.length:Nat):Int):=cM (by omega) (by omega);have w5:i64.wrap (5*(l.length:Int))=((5*l.length:Nat):Int):=cM (by omega) (by omega);have w6:i64.wrap (6*(l.length:Int))=((6*l.length:Nat):Int):=cM (by omega) (by omega);have w7:i64.wrap (7*(l.length:Int))=((7*l.length:Nat):Int):=cM (by omega) (by omega);have w8:i64.wrap (8*(l.length:Int))=((8*l.length:Nat):Int):=cM (by omega) (by omega);have w61:i64.wrap (((6*l.length:Nat):Int)+1)=((6*l.length+1:Nat):Int):=cM (by omega) (by omega);have w71:i64.wrap (((7*l.length:Nat):Int)+1)=((7*l.length+1:Nat):Int):=cM (by omega) (by omega);have w81:i64.wrap (((8*l.length:Nat):Int)+1)=((8*l.length+1:Nat):Int):=cM (by omega) (by omega);obtain⟨AbH,hA,hB,hCc,hW,hV,hS,hK,hM,hg,hf⟩:=zFI P.c;generalize C.cs=aH at*;clear eY gi;unfold Gp;simp only[w1,w2,w3,w4,w5,w6,w7,w8,w61,w71,w81,dG,hA,hB,hCc,hW,hV,hS,hK,hM,P.c.w.1,P.c.k.1];refine bE (ag c1 ?_)
 iterate 17 refine aG (by omega) ?_
 refine ag hg ?_
 iterate 6 refine aG (by omega) ?_
 refine ag hf (ag c2 (ag c3 (ag c4 (ag c5 ?_))));rw[show(rg (eF gr.Q (nh gr key h l perm rs C) perm) l.length).length=l.length from bn _ _];refine ag c6 (ag c7 (ag c8 (ag Qk (ag c9 (ag (xA _ ?_) ?_)))))
 ·rw[bn];omega
 dsimp only;refine ag (fb k hH _) (aG ?_ (ag (sx _ ?_) ?_))
 ·simp only[bP,bn];omega
 ·simp only[bP,bn,dX,ia];omega
 dsimp only;refine ag (fb k (fG k) _) (ag SE (ag (iC k (bJ k _ _) (fy k _ _)) (ag (fb k hk _) (ag R7 (ag (iC k (bJ k _ _) (fy k _ _)) (aG ?_ (ag Py ?_)))))))
 ·simp only[bP,bn,dX,ia];omega
 refine ag (r1 _ (by simp)) (ag (r2 _ ?_) (ag (r3 _ ?_) (ag gR (aG hQ (aG ?_ (ag (r4 _ ?_) (ag (r5 _ ?_) (ag Pf (aG hQ (aG ?_ (aj ?_)))))))))))
 ·simp only[bP,bn,ia];omega
 ·simp only[bP,bn,ia];omega
 ·simp only[bP,bn,ia];omega
 ·simp only[bP,bn,dX,ia];omega
 ·simp only[bP,bn,dX,ia];omega
 ·simp only[bP,bn,dX,ia];omega
 have eR:∀R1 R2 R3 R4 R5:List Int,∀a b:Int,[]++R1++R2++R3++[a]++R4++R5++[b]=R1++(R2++(R3++([a]++(R4++(R5++[b]))))):=λR1 R2 R3 R4 R5 a b=>by simp
 rw[x1,x2,eR];unfold i9 Mb;rfl
end
end
abbrev ut:cn:=⟨[],[],[],⟨[],[],[]⟩⟩
variable{q:Int}
def qp{l:List Int}{n m:Nat}(h:l.length=n+m):∃a r,l=a++r/\a.length=n/\r.length=m:=⟨l.take n,l.drop n,(De n l).symm,by simp;omega,by simp;omega⟩
def XR{n:Nat}{aH:List Int}(hl:aH.length=8*n+2)(he:∀z∈aH,E9 q z):∃C:Pc,aH=C.cs/\uM q n C:=by
 obtain⟨a,r,rfl,ha,h1⟩:=qp (l:=aH) (n:=n) (m:=7*n+2) (by omega);obtain⟨b,r,rfl,hb,h2⟩:=qp (l:=r) (n:=n) (m:=6*n+2) (by omega);obtain⟨c,r,rfl,hc,h3⟩:=qp (l:=r) (n:=n) (m:=5*n+2) (by omega);obtain⟨w,r,rfl,hw,h4⟩:=qp (l:=r) (n:=n) (m:=4*n+2) (by omega);obtain⟨v,r,rfl,hv,h5⟩:=qp (l:=r) (n:=n) (m:=3*n+2) (by omega);obtain⟨s,r,rfl,hs,h6⟩:=qp (l:=r) (n:=n) (m:=2*n+2) (by omega)
 match r,h6 with
 |g::r,h6=>
  simp only[dX]at h6;obtain⟨k,r,rfl,hk,h7⟩:=qp (l:=r) (n:=n) (m:=n+1) (by omega);obtain⟨m,r,rfl,hm,h8⟩:=qp (l:=r) (n:=n) (m:=1) (by omega)
  match r,h8 with
  |[f],_=>
   refine⟨⟨a,b,c,w,v,s,g,k,m,f⟩,rfl,⟨ha,λz hz=>he z ?_⟩,⟨hb,λz hz=>he z ?_⟩,⟨hc,λz hz=>he z ?_⟩,⟨hw,λz hz=>he z ?_⟩,⟨hv,λz hz=>he z ?_⟩,⟨hs,λz hz=>he z ?_⟩,he g ?_,⟨hk,λz hz=>he z ?_⟩,⟨hm,λz hz=>he z ?_⟩,he f ?_⟩<;>simp_all
  |[],h=>simp at h
  |_::_::_,h=>simp at h
 |[],h6=>simp at h6
structure Zf (gr:am) (key:Int) (l:List an) (perm rs aH:List Int) (p:cn):Prop where
 k:ao gr
 x:∃(B:ct) (C:Pc),aH=C.cs/\gT gr key B.H l perm rs C/\p=i9 gr key B.H l perm rs C/\kT gr 0=J (B,Z)
def BU{gr:am}(k:ao gr)(hd:okD gr=Z)(key:Int){l:List an}(hl:l.length<=13):∃B,rY gr 0=J (B,Z)/\kT gr 0=J (B,Z)/\aK gr B.H=Z/\xQ gr key l=J (if fC gr key l=Z then(B,Z)else(⟨0,[]⟩,aa)):=by
 obtain⟨Bn,_,b2,_⟩:=M0 k hd (n:=l.length) hl;obtain⟨B,c1,c2,c3⟩:=M0 k hd (n:=0) (by omega);have c2:kT gr 0=J (B,Z):=c2;refine⟨B,c1,c2,c3.h,?_⟩;unfold xQ;rw[vu k key l b2,c2];cases fC gr key l<;>rfl
def Qs{gr:am}(k:¬ao gr)(key:Int)(l:List an):xQ gr key l=J (⟨0,[]⟩,aa):=by
 unfold xQ;rw[M5 k];rfl
def zLe(gr:am)(hg:Dg gr)(key:Int){l:List an}(hl:l.length<=13)(perm rs aH:List Int):∃p t,rM gr key l perm rs aH=J (p,t)/\zT gr key l perm rs aH=J (p,t)/\(t=aa->p=ut)/\(t=Z->Zf gr key l perm rs aH p):=by
 have w8:i64.wrap (i64.wrap (8*(l.length:Int))+2)=((8*l.length+2:Nat):Int):=by
  rw[aI (n:=8*(l.length:Int)) (by omega) (by omega)];exact cM (by omega) (by omega)
 by_cases k:ao gr
 ·have hq:=k.q;have hp:=k.p;obtain⟨B,b1,b2,b3,b4⟩:=BU k (hg k) key hl;have e2:((rs.length:Int) !=(l.length:Int))= !decide (rs.length=l.length):=by by_cases h:rs.length=l.length<;>simp[h];omega
  have e3:((aH.length:Int) !=((8*l.length+2:Nat):Int))= !decide (aH.length=8*l.length+2):=by by_cases h:aH.length=8*l.length+2<;>simp[h];omega
  have I:rM gr key l perm rs aH=if(fC gr key l&&(km gr l.length perm rs&&(decide (aH.length=8*l.length+2)&&aH.all (dq gr))))=Z then(Fw gr B key l perm rs aH).bind (λz=>J (z.1,z.2))else J (ut,aa):=by
   unfold rM;rw[b4,zL k (by omega),show(decide (perm.length=l.length)&&d5 perm&&(decide (rs.length=l.length)&&rs.all (dq gr)))=km gr l.length perm rs from rfl,w8,e3,w9 (by omega) (by omega)];cases fC gr key l<;>cases km gr l.length perm rs<;>cases decide (aH.length=8*l.length+2)<;>cases aH.all (dq gr)<;>rfl
  have S:zT gr key l perm rs aH=if(fC gr key l&&(km gr l.length perm rs&&(decide (aH.length=8*l.length+2)&&aH.all (dq gr))))=Z then(Gp gr key B.H l perm rs aH).bind (λz=>J (z,Z))else J (ut,aa):=by
   unfold zT EM;rw[uS k,show(aK gr key&&(cX 1 12 l.length&&l.all (b7 gr)))=fC gr key l from rfl,P4 perm l.length (by omega),yO (l:=rs) (by omega) (by omega),yO (l:=aH) (by omega) (by omega),e2,w8,e3,b1];unfold km;cases fC gr key l<;>cases (decide (perm.length=l.length)&&d5 perm)<;>cases decide (rs.length=l.length)<;>cases rs.all (dq gr)<;>cases decide (aH.length=8*l.length+2)<;>cases aH.all (dq gr)<;>rfl
  by_cases hc:(fC gr key l&&(km gr l.length perm rs&&(decide (aH.length=8*l.length+2)&&aH.all (dq gr))))=Z
  ·rw[aB hc]at I S;obtain⟨h1,P8⟩:=A3.1 hc;obtain⟨h2,Tt⟩:=A3.1 P8;obtain⟨h3,h4⟩:=A3.1 Tt;have m:=Oj.1 (show(fC gr key l&&km gr l.length perm rs)=Z by rw[h1,h2];rfl);obtain⟨C,rfl,hC⟩:=XR (we h3) (As h4);have P:gT gr key B.H l perm rs C:=⟨m,b3,hC⟩
   rw[W6 k P]at I;rw[zIa k P]at S;exact⟨i9 gr key B.H l perm rs C,Z,I,S,λh=>(by cases h),λ_=>⟨k,B,C,rfl,P,rfl,b2⟩⟩
  rw[az hc]at I S;exact⟨ut,aa,I,S,λ_=>rfl,λh=>by cases h⟩
 refine⟨ut,aa,?_,?_,λ_=>rfl,λh=>by cases h⟩
 ·unfold rM;rw[Qs k];rfl
 unfold zT;rw[Gk k];rfl
def zCM{gr:am}{key:Int}{l:List an}(hl:l.length<=13){perm rs aH:List Int}{p:cn}(h:Zf gr key l perm rs aH p):p.bQ.length<=1000/\p.bK.length<=1000/\p.aF.length<=1000/\p.Pi.aC.length<=1000/\p.Pi.aV.length<=1000/\p.Pi.aE.length<=1000:=by
 obtain⟨k,B,C,_,P,rfl,_⟩:=h;have h4:=(FC k P).1;refine⟨?_,?_,?_,?_,by simp[i9],by simp[i9,Mb,bn];omega⟩
 ·show(rg _ l.length).length<=_;rw[bn];omega
 ·show(rg _ l.length).length<=_;rw[bn];omega
 ·show(rg _ l.length).length<=_;rw[bn];omega
 show(gE gr key B.H l perm rs C).length<=_;omega
def rG(gr:am)(n:Nat)(p:cn):Bool:=decide (p.bQ.length=n)&&(decide (p.bK.length=n)&&(decide (p.aF.length=n)&&(decide (p.Pi.aC.length=3*n+3)&&(decide (p.Pi.aV.length=1)&&(decide (p.Pi.aE.length=5*n+2)&&(p.bQ.all (aK gr)&&(p.bK.all (aK gr)&&(p.aF.all (aK gr)&&(p.Pi.aC.all (aK gr)&&p.Pi.aE.all (dq gr))))))))))
def zAE{gr:am}(k:ao gr){n:Nat}(hn:n<=1000)(p:cn):G2 gr p (n:Int)=J (rG gr n p):=by
 have hq:=k.q;have hp:=k.p
 have e1:i64.wrap (i64.wrap (3*(n:Int))+3)=((3*n+3:Nat):Int):=by
  rw[aI (n:=3*(n:Int)) (by omega) (by omega)];exact cM (by omega) (by omega)
 have e2:i64.wrap (i64.wrap (5*(n:Int))+2)=((5*n+2:Nat):Int):=by
  rw[aI (n:=5*(n:Int)) (by omega) (by omega)];exact cM (by omega) (by omega)
 have e3:((p.Pi.aV.length:Int)==1)=decide (p.Pi.aV.length=1):=iJ _ 1;unfold G2;rw[e1,e2,iJ,iJ,iJ,iJ,iJ,e3,Cc k,Cc k,Cc k,Cc k,w9 (by omega) (by omega)];unfold rG;generalize decide (p.bQ.length=n)=a1;generalize decide (p.bK.length=n)=a2;generalize decide (p.aF.length=n)=a3;generalize decide (p.Pi.aC.length=3*n+3)=a4;generalize decide (p.Pi.aV.length=1)=a5;generalize decide (p.Pi.aE.length=5*n+2)=a6;generalize p.bQ.all (aK gr)=a7;generalize p.bK.all (aK gr)=a8;generalize p.aF.all (aK gr)=a9;generalize p.Pi.aC.all (aK gr)=J3;generalize p.Pi.aE.all (dq gr)=a11;cases a1
 ·rfl
 cases a2
 ·rfl
 cases a3
 ·rfl
 cases a4
 ·rfl
 cases a5
 ·rfl
 cases a6
 ·rfl
 cases a7
 ·rfl
 cases a8
 ·rfl
 cases a9
 ·rfl
 cases J3<;>rfl
def V9{gr:am}(k:ao gr){n:Nat}(hn:n<=1000)(p:cn):Jg gr (n:Int) p=J (rG gr n p):=by
 have hq:=k.q;have hp:=k.p
 have e1:i64.wrap (i64.wrap (3*(n:Int))+3)=((3*n+3:Nat):Int):=by
  rw[aI (n:=3*(n:Int)) (by omega) (by omega)];exact cM (by omega) (by omega)
 have e2:i64.wrap (i64.wrap (5*(n:Int))+2)=((5*n+2:Nat):Int):=by
  rw[aI (n:=5*(n:Int)) (by omega) (by omega)];exact cM (by omega) (by omega)
 have e3:((p.Pi.aV.length:Int)==1)=decide (p.Pi.aV.length=1):=iJ _ 1;unfold Jg;rw[e1,e2,iJ,iJ,iJ,iJ,iJ,e3,xW k,xW k,xW k,xW k,yO (by omega) (by omega)];unfold rG;generalize decide (p.bQ.length=n)=a1;generalize decide (p.bK.length=n)=a2;generalize decide (p.aF.length=n)=a3;generalize decide (p.Pi.aC.length=3*n+3)=a4;generalize decide (p.Pi.aV.length=1)=a5;generalize decide (p.Pi.aE.length=5*n+2)=a6;generalize p.bQ.all (aK gr)=a7;generalize p.bK.all (aK gr)=a8;generalize p.aF.all (aK gr)=a9;generalize p.Pi.aC.all (aK gr)=J3;generalize p.Pi.aE.all (dq gr)=a11;cases a1
 ·rfl
 cases a2
 ·rfl
 cases a3
 ·rfl
 cases a4
 ·rfl
 cases a5
 ·rfl
 cases a6
 ·rfl
 cases a7
 ·rfl
 cases a8
 ·rfl
 cases a9
 ·rfl
 cases J3<;>rfl
def ke(q x:Int):Nat->Int
 |0=>1
 |i+1=>(ke q x i*x)%q
def tgN(q x y z:Int):Nat->Int
 |0=>1
 |i+1=>(tgN q x y z i*((y*((i:Int)+1)+ke q x (i+1)-z)%q))%q
theorem Za(hq:1<q)(x:Int):∀i,E9 q (ke q x i)
 |0=>⟨by show(0:Int)<=1;omega,hq⟩
 |i+1=>f9 (by omega) _
theorem Qx(hq:1<q)(x y z:Int):∀i,E9 q (tgN q x y z i)
 |0=>⟨by show(0:Int)<=1;omega,hq⟩
 |i+1=>f9 (by omega) _
def zDC(hq:0<q/\q<=2000000000)(a:Int):At a q=J (a%q):=Rf hq.1 hq.2
def zGv(hq:1<q/\q<=2000000000){n:Nat}(hn:n<=100){x y z:Int}(hx:E9 q x)(hy:E9 q y)(hz:E9 q z):Hn q (n:Int) x y z=J (tgN q x y z n):=by
 have cL:0<q/\q<=2000000000:=by omega
 have hQ:q≠0:=by omega
 unfold Hn;refine bE (ay (ψ:=(· =tgN q x y z n)) (kv n (λi s=>s=(tgN q x y z i,ke q x i,(i:Int)+1)/\i<=n) ⟨rfl,by omega⟩ ?_ ?_) λv hv=>aj hv)
 ·rintro i s hi ⟨rfl,_⟩;have uo:=Za hq.1 x i;have S8:=Qx hq.1 x y z i;have m1:=(ve (q:=q) hq.2 uo hx).2;have h1:0<=y*((i:Int)+1):=sJ hy.1 (by omega);have h2:y*((i:Int)+1)<=2000000000*101:=wg (by have:=hy.2;omega) (by omega) (by omega) (by omega);have b1:=f9 cL.1 (y*((i:Int)+1));have b2:=f9 cL.1 (ke q x i*x);refine fY (by simp;omega) (aG hQ (aG hQ ?_));dsimp only;rw[m1,aI (n:=y*((i:Int)+1)) (by omega) (by omega),je h1,aI (n:=y*((i:Int)+1)%q+ke q x i*x%q) (by have:=b1.1;have:=b2.1;omega) (by have:=b1.2;have:=b2.2;omega),aI (by have:=b1.1;have:=b2.1;have:=hz.2;omega) (by have:=b1.2;have:=b2.2;have:=hz.1;omega)];refine ag (zDC cL _) (aG hQ (aj ?_))
  have e:(y*((i:Int)+1)%q+ke q x i*x%q-z)%q=(y*((i:Int)+1)+ke q x (i+1)-z)%q:=by
   show _=(y*((i:Int)+1)+ke q x i*x%q-z)%q;rw[sH,o8,eM,eM,sH (y*((i:Int)+1)+_),o8 (y*((i:Int)+1)),eM]
  rw[e,(ve (q:=q) hq.2 S8 (f9 cL.1 _)).2,aI (n:=(i:Int)+1+1) (by omega) (by omega)];refine⟨?_,by omega⟩;show _=(tgN q x y z (i+1),ke q x (i+1),((i+1:Nat):Int)+1);rfl
 rintro s ⟨rfl,_⟩;exact bt (by simp;omega) (aj rfl)
def zGM(hq:1<q/\q<=2000000000){n:Nat}(hn:n<=100){x y z:Int}(hx:E9 q x)(hy:E9 q y)(hz:E9 q z):Jo q (n:Int) x y z=J (tgN q x y z n):=by
 have cL:0<q/\q<=2000000000:=by omega
 have hQ:q≠0:=by omega
 unfold Jo;refine bE (aG hQ (ay (ψ:=(· =tgN q x y z n)) (kv n (λi s=>s=(tgN q x y z i,ke q x i,(i:Int)+1)/\i<=n) ⟨?_,by omega⟩ ?_ ?_) λv hv=>aj hv))
 ·have e:(1:Int).tmod q=1:=by rw[je (by omega),qe (by omega) (by omega)]
  rw[e];rfl
 ·rintro i s hi ⟨rfl,_⟩;have uo:=Za hq.1 x i;have S8:=Qx hq.1 x y z i;have m1:=(ve (q:=q) hq.2 uo hx).2;have b0:=f9 cL.1 ((i:Int)+1);have h1:0<=y*(((i:Int)+1)%q):=sJ hy.1 b0.1;have h2:y*(((i:Int)+1)%q)<=2000000000*2000000000:=wg (by have:=hy.2;omega) (by have:=b0.2;omega) b0.1 (by omega);have b2:=f9 cL.1 (ke q x i*x);refine fY (by simp;omega) (aG hQ (aG hQ ?_));dsimp only;rw[m1,je (a:=(i:Int)+1) (by omega),aI (n:=y*(((i:Int)+1)%q)) (by omega) (by omega),aI (n:=y*(((i:Int)+1)%q)+ke q x i*x%q) (by have:=b2.1;omega) (by have:=b2.2;omega),aI (by have:=b2.1;have:=hz.2;omega) (by have:=b2.2;have:=hz.1;omega)];refine ag (BX cL.1 cL.2) (aG hQ (aj ?_))
  have e:(y*(((i:Int)+1)%q)+ke q x i*x%q-z)%q=(y*((i:Int)+1)+ke q x (i+1)-z)%q:=by
   show _=(y*((i:Int)+1)+ke q x i*x%q-z)%q;rw[sH,o8,mO,eM,<-mO,<-o8,<-sH]
  rw[e,(ve (q:=q) hq.2 S8 (f9 cL.1 _)).2,aI (n:=(i:Int)+1+1) (by omega) (by omega)];exact⟨rfl,by omega⟩
 rintro s ⟨rfl,_⟩;exact bt (by simp;omega) (aj rfl)
def ig(q x:Int)(i:Nat):Int:=((x.toNat^(i+1)%q.toNat:Nat):Int)
def zAo{gr:am}(k:ao gr){x:Int}(hx:E9 gr.Q x){i:Nat}(hi:i<=100):nC x (i64.wrap ((i:Int)+1)) gr.Q=J (ig gr.Q x i)/\lw x ((i:Int)+1) gr.Q=J (ig gr.Q x i):=by
 have h:=PQ k hx (p:=(i:Int)) (by omega);have e:((i:Int)+1).toNat=i+1:=by omega
 have w:i64.wrap ((i:Int)+1)=(i:Int)+1:=aI (by omega) (by omega);rw[e]at h;exact⟨h.1,by rw[w]at h;exact h.2⟩
def zEy{gr:am}(k:ao gr){n:Nat}(hn:n<=100){x:Int}(hx:E9 gr.Q x):Er gr (n:Int) x=J (rg (ig gr.Q x) n):=by
 unfold Er;refine bE (ay (ψ:=(· =rg (ig gr.Q x) n)) (kv n (λi s=>s=(rg (ig gr.Q x) i,(i:Int)+1)/\i<=n) ⟨rfl,by omega⟩ ?_ ?_) λv hv=>aj hv)
 ·rintro i s hi ⟨rfl,_⟩;refine fY (by simp;omega) (ag (zAo k hx (by omega)).2 (aG (by dsimp only;rw[bn];omega) (aj ⟨?_,by omega⟩)));dsimp only;rw[aI (n:=(i:Int)+1+1) (by omega) (by omega),oE];rfl
 rintro s ⟨rfl,_⟩;exact bt (by simp;omega) (aj rfl)
def EJ{gr:am}(k:ao gr){x y w z:Int}(b:Bool)(hx:R9 x)(hy:R9 y):qu x y w b gr.P gr.Q gr.G z=J (b&&(aP gr [x,av gr y z]==w)):=by
 unfold qu;cases b
 ·rfl
 show(cQ gr y z).bind _=_;rw[fh k hy,aR];show(en gr _).bind _=_;rw[jT k hx (bJ k _ _),aR];rfl
structure Rp where
 s1:List Int
 s2:List Int
 s3:List Int
 g:Int
 kk:List Int
 mm:List Int
 f:Int
def Rp.cs(R:Rp):List Int:=R.s1++(R.s2++(R.s3++(R.g::(R.kk++(R.mm++[R.f])))))
structure Bp (n:Nat) (R:Rp):Prop where
 s1:R.s1.length=n
 s2:R.s2.length=n
 s3:R.s3.length=n
 kk:R.kk.length=n
 mm:R.mm.length=n
def zFE{n:Nat}{r:List Int}(hl:r.length=5*n+2):∃R:Rp,r=R.cs/\Bp n R:=by
 obtain⟨a,r,rfl,ha,h1⟩:=qp (l:=r) (n:=n) (m:=4*n+2) (by omega);obtain⟨b,r,rfl,hb,h2⟩:=qp (l:=r) (n:=n) (m:=3*n+2) (by omega);obtain⟨c,r,rfl,hc,h3⟩:=qp (l:=r) (n:=n) (m:=2*n+2) (by omega)
 match r,h3 with
 |g::r,h3=>
  simp only[dX]at h3;obtain⟨k,r,rfl,hk,h7⟩:=qp (l:=r) (n:=n) (m:=n+1) (by omega);obtain⟨m,r,rfl,hm,h8⟩:=qp (l:=r) (n:=n) (m:=1) (by omega)
  match r,h8 with
  |[f],_=>exact⟨⟨a,b,c,g,k,m,f⟩,rfl,ha,hb,hc,hk,hm⟩
  |[],h=>simp at h
  |_::_::_,h=>simp at h
 |[],h3=>simp at h3
def alB(f:Nat->Bool):Nat->Bool
 |0=>Z
 |i+1=>alB f i&&f i
def q1(gr:am)(h y z T:Int)(p:cn)(R:Rp)(i:Nat):Bool:=aP gr [p.Pi.aC.getD i 0,av gr (aP gr [av gr (p.bQ.getD i 0) y,p.bK.getD i 0,av gr gr.G (i64.wrap (0-z))]) T]==vc gr h (R.s1.getD i 0) (R.s2.getD i 0)
def q2(gr:am)(h T:Int)(p:cn)(R:Rp)(n i:Nat):Bool:=aP gr [p.Pi.aC.getD (n+i) 0,av gr (p.aF.getD i 0) T]==aP gr [av gr (bef gr.G p.aF i) (R.s1.getD i 0),av gr h (R.s3.getD i 0)]
def q4(gr:am)(h T:Int)(p:cn)(R:Rp)(n i:Nat):Bool:=aP gr [p.Pi.aC.getD (2*n+1+i) 0,av gr (p.bK.getD i 0) T]==vc gr h (R.kk.getD i 0) (R.mm.getD i 0)
section
variable {gr:am}{p:cn}{R:Rp}{n:Nat}
def Pw(k:ao gr){x y z:Int}(hx:R9 x)(hy:R9 y)(hz:R9 z):R9 (aP gr [x,y,z])/\en gr [x,y,z]=J (aP gr [x,y,z])/\eg gr [x,y,z]=J (aP gr [x,y,z]):=by
 have h:∀v∈[x,y,z],0<=v/\v<=2000000000:=by
  intro v hv;simp only[fK,jf,jg]at hv;rcases hv with rfl|rfl|rfl<;>assumption
 exact⟨Fy k h,Ap k h,HH k h⟩
def zBG(k:ao gr){B:ct}(hh:R9 B.H)(hn:n<=12)(hp:p.bQ.length=n/\∀z∈p.bQ,aK gr z=Z)(hw:p.bK.length=n/\∀z∈p.bK,aK gr z=Z)(hc:p.aF.length=n/\∀z∈p.aF,aK gr z=Z)(hm:p.Pi.aC.length=3*n+3/\∀z∈p.Pi.aC,aK gr z=Z)(hr:Bp n R){x y z T:Int}(hx:E9 gr.Q x):aS (σ:=(List Int)×Bool) (λgf lh=>
 (nC x (i64.wrap (gf+1)) gr.Q).bind λo0=>
 gd ((lh.1.length+1)*8<=140737488355328/\lh.1.length+1<=4611686018427387904)<|
 (ix p.Pi.aC gf).bind λN1=>
 (ix p.bQ gf).bind λMy=>
 (ix p.bK gf).bind λF7=>
 (ix R.s1 gf).bind λxB=>
 (ix R.s2 gf).bind λkg=>
 (cQ gr My y).bind λB3=>
 (cQ gr gr.G (i64.wrap (0-z))).bind λB1=>
 (en gr [B3,F7,B1]).bind λt7=>
 (ou gr B xB kg).bind λmX=>
 (qu N1 t7 mX lh.2 gr.P gr.Q gr.G T).bind λBO=>
 (ix p.Pi.aC (i64.wrap ((n:Int)+gf))).bind λMk=>
 (ix p.aF gf).bind λBJ=>
 (ix ([gr.G]++p.aF) gf).bind λDV=>
 (ix R.s3 gf).bind λpz=>
 (cQ gr DV xB).bind λyf=>
 (cQ gr B.H pz).bind λoR=>
 (en gr [yf,oR]).bind λBb=>
 (qu Mk BJ Bb BO gr.P gr.Q gr.G T).bind λOi=>
 (ix p.Pi.aC (i64.wrap ((i64.wrap ((i64.wrap (2*(n:Int)))+1))+gf))).bind λmh=>
 (ix R.kk gf).bind λiV=>
 (ix R.mm gf).bind λjt=>
 (ou gr B iV jt).bind λoW=>
 (qu mh F7 oW Oi gr.P gr.Q gr.G T).bind λOn=>
 J (.go (lh.1++[o0],On))) (λlh=>(lh.1,lh.2)) n 0 ([],Z)=J (rg (ig gr.Q x) n,alB (λi=>q1 gr B.H y z T p R i&&q2 gr B.H T p R n i&&q4 gr B.H T p R n i) n):=by
 refine px (λi=>(rg (ig gr.Q x) i,alB (λi=>q1 gr B.H y z T p R i&&q2 gr B.H T p R n i&&q4 gr B.H T p R n i) i)) rfl λi hi=>?_
 have w1:i64.wrap ((n:Int)+(i:Int))=((n+i:Nat):Int):=cM (by omega) (by omega)
 have w2:i64.wrap (i64.wrap (i64.wrap (2*(n:Int))+1)+(i:Int))=((2*n+1+i:Nat):Int):=by
  rw[aI (n:=2*(n:Int)) (by omega) (by omega),aI (n:=2*(n:Int)+1) (by omega) (by omega)];exact cM (by omega) (by omega)
 have g0:∀{l:List Int},l.length=n->ix l (i:Int)=J (l.getD i 0):=λh=>dY (by omega)
 have gc:∀j,j<3*n+3->ix p.Pi.aC (j:Int)=J (p.Pi.aC.getD j 0)/\R9 (p.Pi.aC.getD j 0):=λj hj=>⟨dY (by omega),dV k (ey hm.2 (by omega))⟩
 have a1:=dV k (ey hp.2 (i:=i) (by omega));have a2:=dV k (ey hw.2 (i:=i) (by omega));have a3:=dV k (ey hc.2 (i:=i) (by omega));have hb:=Gh k (nH k) hc.2 i (by omega);have m3:=Pw k (bJ k (p.bQ.getD i 0) y) a2 (bJ k gr.G (i64.wrap (0-z)));rw[w1,w2];refine ag (zAo k hx (by omega)).1 (aG (by rw[bn];omega) (ag (gc i (by omega)).1 (ag (g0 hp.1) (ag (g0 hw.1) (ag (g0 hr.s1) (ag (g0 hr.s2) (ag (fh k a1 _) (ag (fh k (fG k) _) (ag m3.2.1 (ag (A9 k hh _ _) (ag (EJ k _ (gc i (by omega)).2 m3.1) ?_)))))))))));refine ag (gc (n+i) (by omega)).1 (ag (g0 hc.1) (ag hb.1 (ag (g0 hr.s3) (ag (fh k hb.2 _) (ag (fh k hh _) (ag (jT k (bJ k _ _) (bJ k _ _)) (ag (EJ k _ (gc (n+i) (by omega)).2 a3) ?_)))))));refine ag (gc (2*n+1+i) (by omega)).1 (ag (g0 hr.kk) (ag (g0 hr.mm) (ag (A9 k hh _ _) (ag (EJ k _ (gc (2*n+1+i) (by omega)).2 a2) (aj ?_)))));rw[oE];show fg.go (_,_)=fg.go (_,alB _ i&&_);unfold q1 q2 q4;simp only[KG]
end
section
attribute [local irreducible] chG zdT zaO
def mc(key:Int)(l out:List an)(p:cn):List Int:=zdT key l out (p.bQ++p.bK)
def vpX(gr:am)(key:Int)(l out:List an)(p:cn):Int:=chG gr sX (zdT key l out p.bQ)
def vpY(gr:am)(key:Int)(l out:List an)(p:cn):Int:=chG gr sY (mc key l out p)
def vpZ(gr:am)(key:Int)(l out:List an)(p:cn):Int:=chG gr sZ (mc key l out p)
def vpT(gr:am)(key:Int)(l out:List an)(p:cn):Int:=chG gr sE (mc key l out p++p.aF++p.Pi.aC)
def q3(gr:am)(h tg T:Int)(p:cn)(R:Rp)(n:Nat):Bool:=aP gr [p.Pi.aC.getD (2*n) 0,av gr (aP gr [p.aF.getD (n-1) 0,av gr (av gr gr.G tg) (-1)]) T]==av gr h R.g
def qE(gr:am)(T c base:Int)(CE EI y8:List Int)(R:Rp):Bool:=aP gr [c,av gr (zaO gr EI CE 1) T]==aP gr [av gr base (i64.wrap (0-R.f)),zaO gr y8 R.kk 1]
def BA(gr:am)(key h:Int)(l out:List an)(p:cn)(R:Rp)(x y z T:Int)(n:Nat):Bool:=
 (((alB (λi=>q1 gr h y z T p R i&&q2 gr h T p R n i&&q4 gr h T p R n i) n&&q3 gr h (tgN gr.Q x y z n) T p R n)&&qE gr T (p.Pi.aC.getD (3*n+1) 0) gr.G (rg (ig gr.Q x) n) (sdV l).1 (sdV out).1 R)&&qE gr T (p.Pi.aC.getD (3*n+2) 0) key (rg (ig gr.Q x) n) (sdV l).2 (sdV out).2 R)
structure xi (gr:am) (key h:Int) (l out:List an) (p:cn) (R:Rp):Prop where
 key:aK gr key=Z
 n:1<=l.length/\l.length<=12
 lc:∀c∈l,b7 gr c=Z
 oc:∀c∈out,b7 gr c=Z
 ol:out.length=l.length
 hh:aK gr h=Z
 pl:p.bQ.length=l.length/\∀z∈p.bQ,aK gr z=Z
 pw:p.bK.length=l.length/\∀z∈p.bK,aK gr z=Z
 ch:p.aF.length=l.length/\∀z∈p.aF,aK gr z=Z
 cm:p.Pi.aC.length=3*l.length+3/\∀z∈p.Pi.aC,aK gr z=Z
 cl:p.Pi.aV.length=1
 rs:p.Pi.aE=R.cs
 r:Bp l.length R
section
variable {gr:am}{key h:Int}{l out:List an}{p:cn}{R:Rp}
def zGJ(hk:aK gr key=Z)(hn:1<=l.length/\l.length<=12)(lc:∀c∈l,b7 gr c=Z)(oc:∀c∈out,b7 gr c=Z)(hh:aK gr h=Z)(ho:out.length=l.length)(hs:rG gr l.length p=Z):∃R,xi gr key h l out p R:=by
 simp only[rG,bI,eC]at hs;obtain⟨a1,a2,a3,a4,a5,a6,a7,a8,a9,J3,_⟩:=hs;obtain⟨R,r1,r2⟩:=zFE a6;exact⟨R,hk,hn,lc,oc,ho,hh,⟨a1,bm.1 a7⟩,⟨a2,bm.1 a8⟩,⟨a3,bm.1 a9⟩,⟨a4,bm.1 J3⟩,a5,r1,r2⟩
def N6(k:ao gr)(V:xi gr key h l out p R):(zdT key l out p.bQ).length=1+5*l.length/\(zdT key l out p.bQ).all cC=Z:=by
 have h1:=V.pl.1;have h2:=V.ol;exact⟨by rw[Gg];omega,DX k V.key V.lc V.oc (oa k (bm.2 V.pl.2))⟩
def KX(k:ao gr)(V:xi gr key h l out p R):(mc key l out p).length=1+6*l.length/\(mc key l out p).all cC=Z:=by
 have h1:=V.pl.1;have h2:=V.ol;have h3:=V.pw.1;unfold mc;exact⟨by rw[Gg,bP];omega,DX k V.key V.lc V.oc (oa k (bm.2 (jA V.pl.2 V.pw.2)))⟩
def Vw(k:ao gr)(V:xi gr key h l out p R):(mc key l out p++p.aF++p.Pi.aC).length=4+10*l.length/\(mc key l out p++p.aF++p.Pi.aC).all cC=Z:=by
 have h1:=KX k V;have h2:=V.ch.1;have h3:=V.cm.1;refine⟨by rw[bP,bP,h1.1,h2,h3];omega,?_⟩;rw[kq,kq,h1.2,oa k (bm.2 V.ch.2),oa k (bm.2 V.cm.2)];rfl
attribute [local irreducible] rg sdV vc vpX vpY vpZ vpT tgN alB q1 q2 q4
set_option maxHeartbeats 2000000 in
def Vf(k:ao gr){B:ct}(V:xi gr key B.H l out p R)(hs:rG gr l.length p=Z):AS gr B key l out p=J ((p.Pi.aV.getD 0 0==vpT gr key l out p)&&BA gr key B.H l out p R (vpX gr key l out p) (vpY gr key l out p) (vpZ gr key l out p) (vpT gr key l out p) l.length):=by
 have hp:=k.p;have hq:=k.q;have hn:=V.n;have hol:=V.ol;have hH:=dV k V.hh;have hK:=dV k V.key;have lP:=V.pl.1;have lW:=V.pw.1;have lH:=V.ch.1;have lM:=V.cm.1;have l1:=N6 k V;have l2:=KX k V;have l3:=Vw k V;have hx:E9 gr.Q (vpX gr key l out p):=by unfold vpX;exact mG k _ _
 have hy:E9 gr.Q (vpY gr key l out p):=by unfold vpY;exact mG k _ _
 have hz:E9 gr.Q (vpZ gr key l out p):=by unfold vpZ;exact mG k _ _
 have c1:=Dp (key:=key) (l:=l) (out:=out) (m:=p.bQ) (by omega) (by omega) (by omega);have c2:mg gr sX (zdT key l out p.bQ)=J (vpX gr key l out p,Z):=by unfold vpX;exact(pM k (by decide) (by omega) l1.2).1
 have c3:qG key l out (p.bQ++p.bK)=J (mc key l out p):=Dp (by omega) (by omega) (by rw[bP];omega);have c4:Bf gr (mc key l out p)=J (vpY gr key l out p,vpZ gr key l out p,Z):=by unfold vpY vpZ;exact XZ k (by omega) l2.2
 have c5:pS [mc key l out p,p.aF,p.Pi.aC]=J (mc key l out p++p.aF++p.Pi.aC):=by
  have e:[mc key l out p,p.aF,p.Pi.aC].flatten=mc key l out p++p.aF++p.Pi.aC:=by simp
  rw[Fk _ (by rw[e,l3.1];omega),e]
 have c6:mg gr sE (mc key l out p++p.aF++p.Pi.aC)=J (vpT gr key l out p,Z):=by unfold vpT;exact(pM k (by decide) (by omega) l3.2).1
 have c7:=zBG (B:=B) (y:=vpY gr key l out p) (z:=vpZ gr key l out p) (T:=vpT gr key l out p) k hH hn.2 V.pl V.pw V.ch V.cm V.r hx;have c8:=zGv (q:=gr.Q) (by omega) (n:=l.length) (by omega) hx hy hz;have c9:=(rU (l:=l) (by omega)).1;have xA:=(rU (l:=out) (by omega)).1;have eY:=sA k V.lc;have k7:=sA k V.oc;have rX:=mJ l;have hlo:=mJ out;have u1:=oV k (m:=rg (ig gr.Q (vpX gr key l out p)) l.length) eY.1 (by rw[bn,rX.1];exact cy _);have u2:=oV k (m:=rg (ig gr.Q (vpX gr key l out p)) l.length) eY.2 (by rw[bn,rX.2];exact cy _);have u3:=oV k (m:=R.kk) k7.1 (by rw[hlo.1,V.r.kk];omega);have u4:=oV k (m:=R.kk) k7.2 (by rw[hlo.2,V.r.kk];omega);have w1:i64.wrap ((l.length:Int)-1)=((l.length-1:Nat):Int):=cM (by omega) (by omega);have w2:i64.wrap (2*(l.length:Int))=((2*l.length:Nat):Int):=cM (by omega) (by omega);have w3:i64.wrap (3*(l.length:Int))=((3*l.length:Nat):Int):=cM (by omega) (by omega);have RG:i64.wrap (((3*l.length:Nat):Int)+1)=((3*l.length+1:Nat):Int):=cM (by omega) (by omega);have w32:i64.wrap (((3*l.length:Nat):Int)+2)=((3*l.length+2:Nat):Int):=cM (by omega) (by omega);have gc:∀j,j<3*l.length+3->ix p.Pi.aC (j:Int)=J (p.Pi.aC.getD j 0)/\R9 (p.Pi.aC.getD j 0):=λj hj=>⟨dY (by omega),dV k (ey V.cm.2 (by omega))⟩
 have gh:ix p.aF ((l.length-1:Nat):Int)=J (p.aF.getD (l.length-1) 0):=dY (by omega);have rh:=dV k (ey V.ch.2 (i:=l.length-1) (by omega));have rp:=bJ k gr.G (tgN gr.Q (vpX gr key l out p) (vpY gr key l out p) (vpZ gr key l out p) l.length);have ov:=OJ k (b:=p.aF.getD (l.length-1) 0) (x:=av gr gr.G (tgN gr.Q (vpX gr key l out p) (vpY gr key l out p) (vpZ gr key l out p) l.length)) rh.1 rh.2 rp.1 rp.2;have ho:((out.length:Int) !=(l.length:Int))=aa:=by rw[hol];simp
 have kh:0<p.Pi.aV.length:=by rw[V.cl];omega
 unfold AS;refine bE (ay (ψ:=(· =aa)) (bt ho (ag (zAE k (by omega) p) (aj (by rw[hs];rfl)))) ?_);rintro _ rfl;refine bt rfl (ag c1 (ag c2 (ag (Zn (by omega)) (aG (by omega) (ag c3 (ag c4 (ag c5 (ag c6 (ay (ψ:=(· =(p.Pi.aV.getD 0 0 !=vpT gr key l out p))) (bt rfl (bt rfl (bt rfl (ag (dY (i:=0) kh) (aj rfl))))) ?_)))))))));rintro _ rfl;refine aZ (λg=>aj ?_) λg=>?_
 ·have:(p.Pi.aV.getD 0 0==vpT gr key l out p)=aa:=by simpa[bne]using g
  rw[this];rfl
 have g2:(p.Pi.aV.getD 0 0==vpT gr key l out p)=Z:=by simpa[bne]using g
 rw[g2,gV,V.rs];unfold Rp.cs;refine ag (mD V.r.s1) (ag (mD V.r.s2) (ag (mD V.r.s3) (ag (yH _ _) (ag (mD V.r.kk) (ag (mD V.r.mm) (ag (yH _ _) ?_))))));dsimp only;refine aG (by simp;omega) (ag rfl (ag c7 ?_));rw[w1,w2,w3,RG,w32];refine ag (gc (2*l.length) (by omega)).1 (ag gh (ag c8 (ag (fh k (fG k) _) (ag ov (ag (fh k hH _) (ag (EJ k _ (gc (2*l.length) (by omega)).2 (nO k rh (bJ k _ _))) (ag c9 (ag xA ?_))))))));refine ag (gc (3*l.length+1) (by omega)).1 (ag u1 (ag (fh k (fG k) _) (ag u3 (ag (jT k (bJ k _ _) (fy k _ _)) (ag (EJ k _ (gc (3*l.length+1) (by omega)).2 (fy k _ _)) ?_)))));exact ag (gc (3*l.length+2) (by omega)).1 (ag u2 (ag (fh k hK _) (ag u4 (ag (jT k (bJ k _ _) (fy k _ _)) (ag (EJ k _ (gc (3*l.length+2) (by omega)).2 (fy k _ _)) (aj rfl))))))
end
end
def EQ{A X Y:List Int}{a i:Nat}(ha:A.length=a)(hi:i<X.length):ix (A++(X++Y)) ((a+i:Nat):Int)=J (X.getD i 0):=by
 refine HU ?_;rw[fT (by omega),ha,UB,fw hi,cE hi,bS hi]
def LK{n:Nat}{R:Rp}(r:Bp n R):(∀i,i<n->ix R.cs (i:Int)=J (R.s1.getD i 0)/\ix R.cs ((n+i:Nat):Int)=J (R.s2.getD i 0)/\ix R.cs ((2*n+i:Nat):Int)=J (R.s3.getD i 0)/\ix R.cs ((4*n+1+i:Nat):Int)=J (R.mm.getD i 0))/\ix R.cs ((3*n:Nat):Int)=J R.g/\ix R.cs ((5*n+1:Nat):Int)=J R.f/\(R.cs.take (4*n+1)).drop (3*n+1)=R.kk:=by
 have h1:=r.s1;have h2:=r.s2;have h3:=r.s3;have h4:=r.kk;have h5:=r.mm;refine⟨λi hi=>⟨?_,?_,?_,?_⟩,?_,?_,?_⟩
 ·have:=EQ (A:=[]) (X:=R.s1) (Y:=R.s2++(R.s3++(R.g::(R.kk++(R.mm++[R.f]))))) (a:=0) (i:=i) rfl (by omega)
  rwa [gk]at this
 ·exact EQ (A:=R.s1) (X:=R.s2) h1 (by omega)
 ·have:=EQ (A:=R.s1++R.s2) (X:=R.s3) (Y:=R.g::(R.kk++(R.mm++[R.f]))) (a:=2*n) (i:=i) (by rw[bP];omega) (by omega);rw[gU]at this;exact this
 ·have:=EQ (A:=R.s1++(R.s2++(R.s3++(R.g::R.kk)))) (X:=R.mm) (Y:=[R.f]) (a:=4*n+1) (i:=i) (by simp;omega) (by omega);have e:R.s1++(R.s2++(R.s3++(R.g::R.kk)))++(R.mm++[R.f])=R.cs:=by simp[Rp.cs]
  rwa [e]at this
 ·have:=EQ (A:=R.s1++(R.s2++R.s3)) (X:=[R.g]) (Y:=R.kk++(R.mm++[R.f])) (a:=3*n) (i:=0) (by simp;omega) (by simp);have e:R.s1++(R.s2++R.s3)++([R.g]++(R.kk++(R.mm++[R.f])))=R.cs:=by simp[Rp.cs]
  rw[e]at this;exact this
 ·have:=EQ (A:=R.s1++(R.s2++(R.s3++(R.g::(R.kk++R.mm))))) (X:=[R.f]) (Y:=[]) (a:=5*n+1) (i:=0) (by simp;omega) (by simp);have e:R.s1++(R.s2++(R.s3++(R.g::(R.kk++R.mm))))++([R.f]++[])=R.cs:=by simp[Rp.cs]
  rw[e]at this;exact this
 exact xe (A:=R.s1++(R.s2++(R.s3++[R.g]))) (R:=R.mm++[R.f]) (by simp[Rp.cs]) (by simp;omega) (by omega)
def HL(gr:am)(y z:Int)(p:cn)(i:Nat):Int:=aP gr [av gr (p.bQ.getD i 0) y,p.bK.getD i 0,av gr gr.G (i64.wrap (0-z))]
def Ja(gr:am)(h:Int)(R:Rp)(i:Nat):Int:=vc gr h (R.s1.getD i 0) (R.s2.getD i 0)
def JA(gr:am)(h:Int)(p:cn)(R:Rp)(i:Nat):Int:=aP gr [av gr (bef gr.G p.aF i) (R.s1.getD i 0),av gr h (R.s3.getD i 0)]
def Kb(gr:am)(h:Int)(R:Rp)(i:Nat):Int:=vc gr h (R.kk.getD i 0) (R.mm.getD i 0)
section
variable {gr:am}{p:cn}{R:Rp}{n:Nat}{h:Int}
def zBO(k:ao gr)(hh:R9 h)(hn:n<=12)(hp:p.bQ.length=n/\∀z∈p.bQ,aK gr z=Z)(hw:p.bK.length=n/\∀z∈p.bK,aK gr z=Z)(hr:Bp n R){y z:Int}:dI (σ:=(List Int)×List Int×Int) (β:=(List Int)×List Int) (λfi=>
 if decide (fi.2.2<(n:Int))=Z then(
 (ix p.bQ fi.2.2).bind λBE=>
 (ix p.bK fi.2.2).bind λqx=>
 (cD gr BE y).bind λiQ=>
 (cD gr gr.G (i64.wrap (0-z))).bind λnk=>
 (eg gr [iQ,qx,nk]).bind λfO=>
 gd ((fi.1.length+1)*8<=140737488355328/\fi.1.length+1<=4611686018427387904)<|
 (ix R.cs fi.2.2).bind λj5=>
 (ix R.cs (i64.wrap ((n:Int)+fi.2.2))).bind λDZ=>
 (nR gr h j5 DZ).bind λgy=>
 gd ((fi.2.1.length+1)*8<=140737488355328/\fi.2.1.length+1<=4611686018427387904)<|
 J (.go (fi.1++[fO],fi.2.1++[gy],i64.wrap (fi.2.2+1))))else(
 J (.out (fi.1,fi.2.1)))) ([],[],0)=J (rg (HL gr y z p) n,rg (Ja gr h R) n):=by
 refine bE (kv n (λi s=>s=(rg (HL gr y z p) i,rg (Ja gr h R) i,(i:Int))/\i<=n) ⟨rfl,by omega⟩ ?_ ?_)
 ·rintro i s hi ⟨rfl,_⟩;have g0:∀{l:List Int},l.length=n->ix l (i:Int)=J (l.getD i 0):=λh=>dY (by omega)
  have a1:=dV k (ey hp.2 (i:=i) (by omega));have a2:=dV k (ey hw.2 (i:=i) (by omega));have m3:=Pw k (bJ k (p.bQ.getD i 0) y) a2 (bJ k gr.G (i64.wrap (0-z)));have rx:=(LK hr).1 i hi;have w1:i64.wrap ((n:Int)+(i:Int))=((n+i:Nat):Int):=cM (by omega) (by omega);refine fY (by simp;omega) ?_;dsimp only;rw[w1];refine ag (g0 hp.1) (ag (g0 hw.1) (ag (fb k a1 _) (ag (fb k (fG k) _) (ag m3.2.2 (aG (by rw[bn];omega) (ag rx.1 (ag rx.2.1 (ag (DN k hh _ _) (aG (by rw[bn];omega) (aj ⟨?_,by omega⟩))))))))));rw[aI (n:=(i:Int)+1) (by omega) (by omega),oE,oE];rfl
 rintro s ⟨rfl,_⟩;exact bt (by simp) (aj rfl)
def zBu(k:ao gr)(hh:R9 h)(hn:n<=12)(hc:p.aF.length=n/\∀z∈p.aF,aK gr z=Z)(hr:Bp n R){A D:List Int}(hA:A.length<=1000)(hD:D.length<=1000):dI (σ:=(List Int)×List Int×Int×Int) (β:=(List Int)×List Int) (λfc=>
 if decide (fc.2.2.2<(n:Int))=Z then(
 (ix p.aF fc.2.2.2).bind λu7=>
 gd ((fc.1.length+1)*8<=140737488355328/\fc.1.length+1<=4611686018427387904)<|
 (ix R.cs fc.2.2.2).bind λB5=>
 (ix R.cs (i64.wrap ((i64.wrap (2*(n:Int)))+fc.2.2.2))).bind λCp=>
 (cD gr fc.2.2.1 B5).bind λFI=>
 (cD gr h Cp).bind λFf=>
 (eg gr [FI,Ff]).bind λDn=>
 gd ((fc.2.1.length+1)*8<=140737488355328/\fc.2.1.length+1<=4611686018427387904)<|
 J (.go (fc.1++[u7],fc.2.1++[Dn],u7,i64.wrap (fc.2.2.2+1))))else(
 J (.out (fc.1,fc.2.1)))) (A,D,gr.G,0)=J (A++rg (λi=>p.aF.getD i 0) n,D++rg (JA gr h p R) n):=by
 refine bE (kv n (λi s=>s=(A++rg (λi=>p.aF.getD i 0) i,D++rg (JA gr h p R) i,bef gr.G p.aF i,(i:Int))/\i<=n) ⟨by rw[uj,uj,rc,rc];rfl,by omega⟩ ?_ ?_)
 ·rintro i s hi ⟨rfl,_⟩;have hb:=Gh k (nH k) hc.2 i (by omega);have rx:=(LK hr).1 i hi
  have w1:i64.wrap (i64.wrap (2*(n:Int))+(i:Int))=((2*n+i:Nat):Int):=by
   rw[aI (n:=2*(n:Int)) (by omega) (by omega)];exact cM (by omega) (by omega)
  refine fY (by simp;omega) ?_;dsimp only;rw[w1];refine ag (dY (by omega)) (aG (by rw[bP,bn];omega) (ag rx.1 (ag rx.2.2.1 (ag (fb k hb.2 _) (ag (fb k hh _) (ag (iC k (bJ k _ _) (bJ k _ _)) (aG (by rw[bP,bn];omega) (aj ⟨?_,by omega⟩))))))));have e:p.aF.getD i 0=bef gr.G p.aF (i+1):=by unfold bef;simp
  rw[aI (n:=(i:Int)+1) (by omega) (by omega),u0,u0,<-e];rfl
 rintro s ⟨rfl,_⟩;exact bt (by simp) (aj rfl)
def zBB(k:ao gr)(hh:R9 h)(hn:n<=12)(hw:p.bK.length=n)(hr:Bp n R){A D:List Int}(hA:A.length<=1000)(hD:D.length<=1000):dI (σ:=(List Int)×List Int×Int) (β:=(List Int)×List Int) (λfN=>
 if decide (fN.2.2<(n:Int))=Z then(
 (ix p.bK fN.2.2).bind λqj=>
 gd ((fN.1.length+1)*8<=140737488355328/\fN.1.length+1<=4611686018427387904)<|
 (ix R.kk fN.2.2).bind λMv=>
 (ix R.cs (i64.wrap ((i64.wrap ((i64.wrap (4*(n:Int)))+1))+fN.2.2))).bind λHR=>
 (nR gr h Mv HR).bind λqS=>
 gd ((fN.2.1.length+1)*8<=140737488355328/\fN.2.1.length+1<=4611686018427387904)<|
 J (.go (fN.1++[qj],fN.2.1++[qS],i64.wrap (fN.2.2+1))))else(
 J (.out (fN.1,fN.2.1)))) (A,D,0)=J (A++rg (λi=>p.bK.getD i 0) n,D++rg (Kb gr h R) n):=by
 refine bE (kv n (λi s=>s=(A++rg (λi=>p.bK.getD i 0) i,D++rg (Kb gr h R) i,(i:Int))/\i<=n) ⟨by rw[uj,uj,rc,rc];rfl,by omega⟩ ?_ ?_)
 ·rintro i s hi ⟨rfl,_⟩;have rx:=(LK hr).1 i hi
  have w1:i64.wrap (i64.wrap (i64.wrap (4*(n:Int))+1)+(i:Int))=((4*n+1+i:Nat):Int):=by
   rw[aI (n:=4*(n:Int)) (by omega) (by omega),aI (n:=4*(n:Int)+1) (by omega) (by omega)];exact cM (by omega) (by omega)
  refine fY (by simp;omega) ?_;dsimp only;rw[w1];refine ag (dY (by omega)) (aG (by rw[bP,bn];omega) (ag (dY (by rw[hr.kk];exact hi)) (ag rx.2.2.2 (ag (DN k hh _ _) (aG (by rw[bP,bn];omega) (aj ⟨?_,by omega⟩))))));rw[aI (n:=(i:Int)+1) (by omega) (by omega),u0,u0];rfl
 rintro s ⟨rfl,_⟩;exact bt (by simp) (aj rfl)
end
theorem LA(f:Nat->Bool):∀n,alB f n=(List.range n).all f
 |0=>rfl
 |n+1=>by
  unfold alB;rw[LA f n,mN,kq];simp
def Ik(f:Nat->Bool)(a b:Nat):(List.range (a+b)).all f=((List.range a).all f&&(List.range b).all λi=>f (a+i)):=by
 rw[Aam,kq,Uj];rfl
theorem W9(f g h:Nat->Bool):∀n,((List.range n).all λi=>f i&&g i&&h i)=((List.range n).all f&&(List.range n).all g&&(List.range n).all h)
 |0=>rfl
 |n+1=>by
  simp only[mN,kq,yB,KE,A2];rw[W9 f g h n];cases (List.range n).all f<;>cases (List.range n).all g<;>cases (List.range n).all h<;>cases f n<;>cases g n<;>cases h n<;>rfl
theorem Io{f g:Nat->Bool}:∀{n:Nat},(∀i,i<n->f i=g i)->(List.range n).all f=(List.range n).all g
 |0,_=>rfl
 |n+1,h=>by
  simp only[mN,kq,yB,KE,A2];rw[Io λi hi=>h i (by omega),h n (by omega)]
def F9{A B:List Int}{i:Nat}(h:i<A.length):(A++B).getD i 0=A.getD i 0:=by
 rw[nv,nv,fw h]
def zS{A B:List Int}{a i:Nat}(h:A.length=a):(A++B).getD (a+i) 0=B.getD i 0:=by
 rw[nv,nv,fT (by omega),h,UB]
def zzo(E:Nat->Int->Int->Bool){n:Nat}{a1 a2 a4 b1 b2 b4:List Int}{a3 a5 a6 b3 b5 b6:Int}(h1:a1.length=n)(h2:a2.length=n)(h4:a4.length=n)(g1:b1.length=n)(g2:b2.length=n)(g4:b4.length=n):
 ((List.range (3*n+3)).all λi=>E i ((a1++(a2++(a3::(a4++[a5,a6])))).getD i 0) ((b1++(b2++(b3::(b4++[b5,b6])))).getD i 0))=
 ((((alB (λi=>E i (a1.getD i 0) (b1.getD i 0)&&E (n+i) (a2.getD i 0) (b2.getD i 0)&&E (2*n+1+i) (a4.getD i 0) (b4.getD i 0)) n&&E (2*n) a3 b3)&&E (3*n+1) a5 b5)&&E (3*n+2) a6 b6)):=by
 have e:3*n+3=n+(n+(1+(n+(1+1)))):=by omega
 rw[LA,W9,e,Ik,Ik,Ik,Ik,Ik]
 have p1:=Io (n:=n) (f:=λi=>E i ((a1++(a2++(a3::(a4++[a5,a6])))).getD i 0) ((b1++(b2++(b3::(b4++[b5,b6])))).getD i 0)) (g:=λi=>E i (a1.getD i 0) (b1.getD i 0)) λi hi=>by
  simp only[F9 (A:=a1) (show i<a1.length by omega),F9 (A:=b1) (show i<b1.length by omega)]
 have p2:=Io (n:=n) (f:=λi=>E (n+i) ((a1++(a2++(a3::(a4++[a5,a6])))).getD (n+i) 0) ((b1++(b2++(b3::(b4++[b5,b6])))).getD (n+i) 0)) (g:=λi=>E (n+i) (a2.getD i 0) (b2.getD i 0)) λi hi=>by
  simp only[zS h1,zS g1,F9 (A:=a2) (show i<a2.length by omega),F9 (A:=b2) (show i<b2.length by omega)]
 have s3:∀j,(a1++(a2++(a3::(a4++[a5,a6])))).getD (n+(n+j)) 0=(a3::(a4++[a5,a6])).getD j 0:=λj=>by rw[zS h1,zS h2]
 have t3:∀j,(b1++(b2++(b3::(b4++[b5,b6])))).getD (n+(n+j)) 0=(b3::(b4++[b5,b6])).getD j 0:=λj=>by rw[zS g1,zS g2]
 have s4:∀j,(a3::(a4++[a5,a6])).getD (1+j) 0=(a4++[a5,a6]).getD j 0:=λj=>by rw[Oq];rfl
 have t4:∀j,(b3::(b4++[b5,b6])).getD (1+j) 0=(b4++[b5,b6]).getD j 0:=λj=>by rw[Oq];rfl
 have p4:=Io (n:=n) (f:=λi=>E (n+(n+(1+i))) ((a1++(a2++(a3::(a4++[a5,a6])))).getD (n+(n+(1+i))) 0) ((b1++(b2++(b3::(b4++[b5,b6])))).getD (n+(n+(1+i))) 0)) (g:=λi=>E (2*n+1+i) (a4.getD i 0) (b4.getD i 0)) λi hi=>by
  simp only[s3,t3,s4,t4,F9 (A:=a4) (show i<a4.length by omega),F9 (A:=b4) (show i<b4.length by omega)];congr 1;omega
 rw[p1,p2,p4];have r1:List.range 1=[0]:=rfl;simp only[r1,yB,KE,A2,s3,t3,s4,t4,zS h4,zS g4];have i1:n+(n+0)=2*n:=by omega
 have i2:n+(n+(1+(n+0)))=3*n+1:=by omega
 have i3:n+(n+(1+(n+(1+0))))=3*n+2:=by omega
 simp only[i1,i2,i3];show(_&&(_&&(E (2*n) a3 b3&&(_&&(E (3*n+1) a5 b5&&E (3*n+2) a6 b6)))))=_;generalize (List.range n).all (λi=>E i (a1.getD i 0) (b1.getD i 0))=x1;generalize (List.range n).all (λi=>E (n+i) (a2.getD i 0) (b2.getD i 0))=x2;generalize (List.range n).all (λi=>E (2*n+1+i) (a4.getD i 0) (b4.getD i 0))=x4;cases x1<;>cases x2<;>cases x4<;>simp[KG]
def tF(gr:am)(T:Int)(c:List Int)(i:Nat)(a b:Int):Bool:=aP gr [c.getD i 0,av gr a T]==b
def zzu{gr:am}(k:ao gr){T:Int}{c L Q:List Int}(hc:∀z∈c,aK gr z=Z)(hL:L.length=c.length/\∀z∈L,R9 z)(hQ:Q.length=c.length):Rn (aS (σ:=(List Int)×List Int) (β:=Unit ⊕ Bool) (λuV n5=>
 (ix c uV).bind λFi=>
 (ix n5.1 uV).bind λQz=>
 (ix n5.2 uV).bind λSn=>
 (cD gr Qz T).bind λF0=>
 (eg gr [Fi,F0]).bind λTQ=>
 if(TQ !=Sn)=Z then(
 J (.out (.inr aa)))else(
 J (.go (n5.1,n5.2)))) (λn5=>.inl ()) c.length 0 (L,Q)) (λv=>(v=.inl ()/\(List.range c.length).all (λi=>tF gr T c i (L.getD i 0) (Q.getD i 0))=Z)\/(v=.inr aa/\(List.range c.length).all (λi=>tF gr T c i (L.getD i 0) (Q.getD i 0))=aa)):=by
 refine d9 (λi s=>s=(L,Q)/\i<=c.length/\(List.range i).all (λi=>tF gr T c i (L.getD i 0) (Q.getD i 0))=Z) ⟨rfl,by omega,rfl⟩ ?_ ?_
 ·rintro i s hi ⟨rfl,_,hI⟩;have hr:=ey hL.2 (i:=i) (by omega);have hcr:=dV k (ey hc hi);refine ag (dY hi) (ag (dY (by dsimp only;omega)) (ag (dY (by dsimp only;omega)) (ag (fb k hr _) (ag (iC k hcr (bJ k _ _)) (aZ (λg=>aj (.inr ⟨rfl,?_⟩)) λg=>aj ⟨rfl,by omega,?_⟩)))))
  ·rw[yC];exact⟨i,kp.2 hi,by unfold tF;simpa[bne]using g⟩
  rw[mN,kq,hI];have:tF gr T c i (L.getD i 0) (Q.getD i 0)=Z:=by unfold tF;simpa[bne]using g
  rw[yB,KE,this];rfl
 rintro s ⟨rfl,_,hI⟩;exact .inl ⟨rfl,hI⟩
section
attribute [local irreducible] chG zdT zaO
section
variable {gr:am}{key h:Int}{l out:List an}{p:cn}{R:Rp}
def zDc(k:ao gr)(V:xi gr key h l out p R):yK gr key l out p.bQ p.bK=J (vpY gr key l out p,vpZ gr key l out p):=by
 have hn:=V.n;have hol:=V.ol;have lP:=V.pl.1;have lW:=V.pw.1;have a1:=N6 k V;have a2:=KX k V;unfold yK;refine bE (ag (Aa (by omega) (by omega) (by omega)) (aG (by omega) ?_));rw[NT];exact ag (pM k (s:=sY) (by decide) (by have:=a2.1;unfold mc at this;omega) a2.2).2 (ag (pM k (s:=sZ) (by decide) (by have:=a2.1;unfold mc at this;omega) a2.2).2 (aj rfl))
def zCC(k:ao gr)(V:xi gr key h l out p R):AB gr key l out p=J (vpT gr key l out p):=by
 have hn:=V.n;have hol:=V.ol;have lP:=V.pl.1;have lW:=V.pw.1;have lH:=V.ch.1;have lM:=V.cm.1;have a1:=N6 k V;have a2:=KX k V;have a3:=Vw k V;have a2':(zdT key l out (p.bQ++p.bK)).length=1+6*l.length:=a2.1;unfold AB;refine bE (ag (Aa (by omega) (by omega) (by omega)) (aG (by omega) ?_));rw[NT];exact aG (by omega) (aG (by rw[bP];omega) (ag (pM k (s:=sE) (by decide) (by have:=a3.1;unfold mc at this;omega) a3.2).2 (aj rfl)))
end
end
section
attribute [local irreducible] chG zdT zaO
section
variable {gr:am}{key h:Int}{l out:List an}{p:cn}{R:Rp}
attribute [local irreducible] rg sdV vc vpX vpY vpZ vpT tgN alB
set_option maxHeartbeats 2000000 in
def zHK(k:ao gr)(V:xi gr key h l out p R)(hs:rG gr l.length p=Z):BV gr key h l out p=J ((p.Pi.aV.getD 0 0==vpT gr key l out p)&&BA gr key h l out p R (vpX gr key l out p) (vpY gr key l out p) (vpZ gr key l out p) (vpT gr key l out p) l.length):=by
 have hp:=k.p;have hq:=k.q;have hn:=V.n;have hol:=V.ol;have hH:=dV k V.hh;have hK:=dV k V.key;have lP:=V.pl.1;have lW:=V.pw.1;have lH:=V.ch.1;have lM:=V.cm.1;have l1:=N6 k V;have hx:E9 gr.Q (vpX gr key l out p):=by unfold vpX;exact mG k _ _
 have hy:E9 gr.Q (vpY gr key l out p):=by unfold vpY;exact mG k _ _
 have hz:E9 gr.Q (vpZ gr key l out p):=by unfold vpZ;exact mG k _ _
 have c1:=Aa (key:=key) (l:=l) (out:=out) (m:=p.bQ) (by omega) (by omega) (by omega);have c2:pU gr sX (zdT key l out p.bQ)=J (vpX gr key l out p):=by unfold vpX;exact(pM k (by decide) (by omega) l1.2).2
 have c3:=zDc k V;have c4:=zCC k V;have c5:=zBO (y:=vpY gr key l out p) (z:=vpZ gr key l out p) k hH hn.2 V.pl V.pw V.r;have c6:=λA D hA hD=>zBu (A:=A) (D:=D) k hH hn.2 V.ch V.r hA hD
 have c7:=λA D hA hD=>zBB (A:=A) (D:=D) k hH hn.2 V.pw.1 V.r hA hD
 have c8:=zGM (q:=gr.Q) (by omega) (n:=l.length) (by omega) hx hy hz;have tb:=Qx (show 1<gr.Q by omega) (vpX gr key l out p) (vpY gr key l out p) (vpZ gr key l out p) l.length;have c9:=(rU (l:=l) (by omega)).2;have xA:=(rU (l:=out) (by omega)).2;have sx:=zEy k (n:=l.length) (by omega) hx;have eY:=sA k V.lc;have k7:=sA k V.oc;have rX:=mJ l;have hlo:=mJ out;have u1:=oF k (m:=rg (ig gr.Q (vpX gr key l out p)) l.length) eY.1 (by rw[bn,rX.1];exact cy _);have u2:=oF k (m:=rg (ig gr.Q (vpX gr key l out p)) l.length) eY.2 (by rw[bn,rX.2];exact cy _);have u3:=oF k (m:=R.kk) k7.1 (by rw[hlo.1,V.r.kk];omega);have u4:=oF k (m:=R.kk) k7.2 (by rw[hlo.2,V.r.kk];omega);obtain⟨_,r2,r3,r4⟩:=LK V.r;have w1:i64.wrap ((l.length:Int)-1)=((l.length-1:Nat):Int):=cM (by omega) (by omega);have w3:i64.wrap (3*(l.length:Int))=((3*l.length:Nat):Int):=cM (by omega) (by omega);have w4:i64.wrap (4*(l.length:Int))=((4*l.length:Nat):Int):=cM (by omega) (by omega);have w5:i64.wrap (5*(l.length:Int))=((5*l.length:Nat):Int):=cM (by omega) (by omega);have RG:i64.wrap (((3*l.length:Nat):Int)+1)=((3*l.length+1:Nat):Int):=cM (by omega) (by omega);have w41:i64.wrap (((4*l.length:Nat):Int)+1)=((4*l.length+1:Nat):Int):=cM (by omega) (by omega);have w51:i64.wrap (((5*l.length:Nat):Int)+1)=((5*l.length+1:Nat):Int):=cM (by omega) (by omega);have wt:i64.wrap (0-tgN gr.Q (vpX gr key l out p) (vpY gr key l out p) (vpZ gr key l out p) l.length)=0-tgN gr.Q (vpX gr key l out p) (vpY gr key l out p) (vpZ gr key l out p) l.length:=aI (by have:=tb.1;have:=tb.2;omega) (by have:=tb.1;omega);have gh:ix p.aF ((l.length-1:Nat):Int)=J (p.aF.getD (l.length-1) 0):=dY (by omega);have rh:=dV k (ey V.ch.2 (i:=l.length-1) (by omega));have ho:((out.length:Int) !=(l.length:Int))=aa:=by rw[hol];simp
 have kh:0<p.Pi.aV.length:=by rw[V.cl];omega
 have Vq:R.cs.length=5*l.length+2:=by have:=V.r.s1;have:=V.r.s2;have:=V.r.s3;have:=V.r.kk;have:=V.r.mm;simp[Rp.cs];omega
 have hpn:=U1 k (nH k) tb.1;have c7:∀A D:List Int,A.length<=1000->D.length<=1000->_:=c7;simp only[w4,w41]at c7;unfold BV;refine bE (ay (ψ:=(· =(p.Pi.aV.getD 0 0 !=vpT gr key l out p))) (bt ho (ag (V9 k (by omega) p) (bt (by rw[hs];rfl) (ag (dY (i:=0) kh) (ag c4 (aj rfl)))))) ?_);rintro _ rfl;refine aZ (λg=>aj ?_) λg=>?_
 ·have:(p.Pi.aV.getD 0 0==vpT gr key l out p)=aa:=by simpa[bne]using g
  rw[this];rfl
 have g2:(p.Pi.aV.getD 0 0==vpT gr key l out p)=Z:=by simpa[bne]using g
 have g3:p.Pi.aV.getD 0 0=vpT gr key l out p:=eq_of_beq g2;rw[g2,gV,V.rs];refine ag (dY (i:=0) kh) ?_;rw[g3,w1,w3,w4,w5,RG,w41,w51,dG,dG,r4];refine ag c1 (ag c2 (ag c3 (aG (by omega) (aG (by omega) (aG (by omega) (ag r3 (ag c5 (ag (c6 _ _ (by rw[bn];omega) (by rw[bn];omega)) (ag gh (ag c8 ?_))))))))));rw[wt];refine ag (fb k (fG k) _) (ag (iC k rh (bJ k _ _)) (aG ?_ (ag r2 (ag (fb k hH _) (aG ?_ (ag (c7 _ _ ?_ ?_) (ag c9 (ag xA ?_))))))))
 ·simp only[bP,bn];omega
 ·simp only[bP,bn];omega
 ·simp only[bP,bn,dX,ia];omega
 ·simp only[bP,bn,dX,ia];omega
 refine ag sx (ag u1 (ag sx (ag u2 (aG ?_ (ag (fb k (fG k) _) (ag u3 (ag (iC k (bJ k _ _) (fy k _ _)) (ag (fb k hK _) (ag u4 (ag (iC k (bJ k _ _) (fy k _ _)) (aG ?_ ?_)))))))))))
 ·simp only[bP,bn,dX,ia];omega
 ·simp only[bP,bn,dX,ia];omega
 dsimp only;refine ay (zzu k V.cm.2 ⟨?_,?_⟩ ?_) λv hv=>?_
 ·simp only[bP,bn,dX,ia];omega
 ·refine jA (jA (jA (jA (nb λi hi=>?_) (nb λi hi=>?_)) ?_) (nb λi hi=>?_)) ?_
  ·exact(Pw k (bJ k _ _) (dV k (ey V.pw.2 (by omega))) (bJ k _ _)).1
  ·exact dV k (ey V.ch.2 (by omega))
  ·intro x hx;rw[gB]at hx;rw[hx];exact nO k rh (bJ k _ _)
  ·exact dV k (ey V.pw.2 (by omega))
  intro x hx;simp only[fK,jf,jg]at hx;rcases hx with rfl|rfl<;>exact fy k _ _
 ·simp only[bP,bn,dX,ia];omega
 have AaR:=zzo (tF gr (vpT gr key l out p) p.Pi.aC) (n:=l.length) (a1:=rg (HL gr (vpY gr key l out p) (vpZ gr key l out p) p) l.length) (a2:=rg (λi=>p.aF.getD i 0) l.length) (a4:=rg (λi=>p.bK.getD i 0) l.length) (b1:=rg (Ja gr h R) l.length) (b2:=rg (JA gr h p R) l.length) (b4:=rg (Kb gr h R) l.length)
  (a3:=aP gr [p.aF.getD (l.length-1) 0,av gr gr.G (0-tgN gr.Q (vpX gr key l out p) (vpY gr key l out p) (vpZ gr key l out p) l.length)]) (b3:=av gr h R.g) (a5:=zaO gr (sdV l).1 (rg (ig gr.Q (vpX gr key l out p)) l.length) 1) (a6:=zaO gr (sdV l).2 (rg (ig gr.Q (vpX gr key l out p)) l.length) 1)
  (b5:=aP gr [av gr gr.G (i64.wrap (0-R.f)),zaO gr (sdV out).1 R.kk 1]) (b6:=aP gr [av gr key (i64.wrap (0-R.f)),zaO gr (sdV out).2 R.kk 1]) (bn _ _) (bn _ _) (bn _ _) (bn _ _) (bn _ _) (bn _ _)
 have hB:BA gr key h l out p R (vpX gr key l out p) (vpY gr key l out p) (vpZ gr key l out p) (vpT gr key l out p) l.length=(List.range p.Pi.aC.length).all (λi=>tF gr (vpT gr key l out p) p.Pi.aC i ((rg (HL gr (vpY gr key l out p) (vpZ gr key l out p) p) l.length++rg (λi=>p.aF.getD i 0) l.length++[aP gr [p.aF.getD (l.length-1) 0,av gr gr.G (0-tgN gr.Q (vpX gr key l out p) (vpY gr key l out p) (vpZ gr key l out p) l.length)]]++rg (λi=>p.bK.getD i 0) l.length++[zaO gr (sdV l).1 (rg (ig gr.Q (vpX gr key l out p)) l.length) 1,zaO gr (sdV l).2 (rg (ig gr.Q (vpX gr key l out p)) l.length) 1]).getD i 0) ((rg (Ja gr h R) l.length++rg (JA gr h p R) l.length++[av gr h R.g]++rg (Kb gr h R) l.length++[aP gr [av gr gr.G (i64.wrap (0-R.f)),zaO gr (sdV out).1 R.kk 1],aP gr [av gr key (i64.wrap (0-R.f)),zaO gr (sdV out).2 R.kk 1]]).getD i 0)):=by
  rw[lM];simp only[gU,tZ,mL];rw[AaR,LA];unfold BA q3 qE;rw[LA,hpn]
  have e:=Io (n:=l.length) (f:=λi=>q1 gr h (vpY gr key l out p) (vpZ gr key l out p) (vpT gr key l out p) p R i&&q2 gr h (vpT gr key l out p) p R l.length i&&q4 gr h (vpT gr key l out p) p R l.length i) (g:=λi=>tF gr (vpT gr key l out p) p.Pi.aC i ((rg (HL gr (vpY gr key l out p) (vpZ gr key l out p) p) l.length).getD i 0) ((rg (Ja gr h R) l.length).getD i 0)&&tF gr (vpT gr key l out p) p.Pi.aC (l.length+i) ((rg (λi=>p.aF.getD i 0) l.length).getD i 0) ((rg (JA gr h p R) l.length).getD i 0)&&tF gr (vpT gr key l out p) p.Pi.aC (2*l.length+1+i) ((rg (λi=>p.bK.getD i 0) l.length).getD i 0) ((rg (Kb gr h R) l.length).getD i 0)) λi hi=>by
   simp only[kI _ hi];rfl
  rw[e];rfl
 rw[hB];rcases hv with⟨rfl,hv⟩|⟨rfl,hv⟩
 ·exact aj hv.symm
 exact aj hv.symm
end
end
def zG5{gr:am}(k:ao gr){key h:Int}{B:ct}{l out:List an}{p:cn}(hn:l.length<=12)(hf:(decide (out.length=l.length)&&rG gr l.length p)=aa):AS gr B key l out p=J aa/\BV gr key h l out p=J aa:=by
 have e:((out.length:Int) !=(l.length:Int))= !decide (out.length=l.length):=by rw[bne,iJ]
 unfold AS BV;rw[e,zAE k (by omega),V9 k (by omega)];cases h1:decide (out.length=l.length)
 ·exact⟨rfl,rfl⟩
 rw[h1,gV]at hf;rw[hf];exact⟨rfl,rfl⟩
def zMu(gr:am)(hg:Dg gr)(key:Int){l:List an}(hl:l.length<=13)(out:List an)(p:cn):∃v t,tR gr key l out p=J (v,t)/\Di gr key l out p=J (v,t):=by
 by_cases k:ao gr
 ·obtain⟨B,b1,b2,b3,b4⟩:=BU k (hg k) key hl;unfold tR Di EM;rw[b4,uS k,uS k,yp k,b1,show(aK gr key&&(cX 1 12 l.length&&l.all (b7 gr)))=fC gr key l from rfl];cases h1:fC gr key l
  ·exact⟨aa,aa,rfl,rfl⟩
  have jN:=h1;simp only[fC,cX,bI,eC]at jN;obtain⟨c1,c2,c3⟩:=jN;rw[c1];cases h2:(cX 1 12 out.length&&out.all (b7 gr))
  ·exact⟨aa,aa,rfl,rfl⟩
  simp only[bI]at h2;cases h3:(decide (out.length=l.length)&&rG gr l.length p)
  ·obtain⟨e1,e2⟩:=zG5 (key:=key) (h:=B.H) (B:=B) k (by omega) h3;refine⟨aa,Z,?_,?_⟩
   ·simp[e1]
   simp[e2]
  obtain⟨g1,g2⟩:=A3.1 h3;obtain⟨R,V⟩:=zGJ (h:=B.H) c1 (l:=l) (by omega) (bm.1 c3) (bm.1 h2.2) b3 (we g1) g2;have e1:=Vf k V g2;have e2:=zHK k V g2;generalize ((p.Pi.aV.getD 0 0==vpT gr key l out p)&&BA gr key B.H l out p R (vpX gr key l out p) (vpY gr key l out p) (vpZ gr key l out p) (vpT gr key l out p) l.length)=v at e1 e2;refine⟨v,Z,?_,?_⟩
  ·simp[e1]
  simp[e2]
 refine⟨aa,aa,?_,?_⟩
 ·unfold tR;rw[Qs k];rfl
 unfold Di;rw[Gk k];rfl
def vw(q x y z:Int)(a j:Int):Int:=a*((y*(j+1)+ke q x (j.toNat+1)-z)%q)%q
def zIk(q x y z a i j:Int):vw q x y z (vw q x y z a i) j=vw q x y z (vw q x y z a j) i:=by
 unfold vw;generalize (y*(i+1)+ke q x (i.toNat+1)-z)%q=u;generalize (y*(j+1)+ke q x (j.toNat+1)-z)%q=v;rw[mO (a*u%q),eM,<-mO,mO (a*v%q),eM,<-mO];congr 1;rw[KF,AaH u v,KF]
def zBz(q x y z:Int)(n:Nat):((List.range n).map λ(i:Nat)=>(i:Int)).foldl (vw q x y z) 1=tgN q x y z n:=by
 induction n with
 |zero=>rfl
 |succ n ih=>
  rw[mN,l8,GA,ih];rfl
def TN{l:List Int}(h:d5 l=Z):l.Perm ((List.range l.length).map λ(i:Nat)=>(i:Int)):=by
 have h':=h;simp only[d5,bI,oH,eC,bm,cX]at h'
 have hnd:((List.range l.length).map λ(i:Nat)=>(i:Int)).Nodup:=by
  refine Ux.2 ?_;exact List.Pairwise.imp (λh e=>h (by exact_mod_cast e)) (List.nodup_range (n:=l.length))
 refine(List.perm_ext_iff_of_nodup h'.2 hnd).2 λa=>⟨λha=>?_,λha=>?_⟩
 ·have:=h'.1 a ha;simp only[jE,kp];exact⟨a.toNat,by omega,by omega⟩
 simp only[jE,kp]at ha;obtain⟨i,hi,rfl⟩:=ha;exact PA h ⟨by omega,by omega⟩
def zA9{l:List Int}(h:d5 l=Z)(q x y z:Int):l.foldl (vw q x y z) 1=tgN q x y z l.length:=by
 rw[(TN h).foldl_eq' (λi _ j _ a=>zIk q x y z a i j),zBz]
def Nr{l:List Int}{f:Int->Int->Int}{a:Int}{i:Nat}(hi:i<l.length):(l.take (i+1)).foldl f a=f ((l.take i).foldl f a) (l.getD i 0):=by
 rw[iO hi,GA,bS hi];rfl
def pg(gr:am)(a:Int):Int:=av gr gr.G a
section
variable {gr:am}
variable{q:Int}
def Kh{a b:Int}(h:a%gr.Q=b%gr.Q):pg gr a=pg gr b:=by unfold pg av;rw[h]
def AR{a b:Int}(K:Int)(h:a=b+gr.Q*K):pg gr a=pg gr b:=Kh (by rw[h,GC])
def zMM{x a b:Int}(h:a%gr.Q=b%gr.Q):av gr x a=av gr x b:=by unfold av;rw[h]
def OK(a:Int):pg gr (a%gr.Q)=pg gr a:=Kh (eM _ _)
def mw(a q:Int):∃m,a%q=a-q*m:=⟨a/q,Int.emod_def a q⟩
def gL(k:ao gr)(a b:Int):aP gr [pg gr a,pg gr b]=pg gr (a+b):=by
 have hq:=k.q;rw[<-OK a,<-OK b];unfold pg;rw[zy3 k (nV _ (by omega)) (nV _ (by omega))];exact Kh (o8 a b gr.Q).symm
def hZ(k:ao gr)(a e:Int):av gr (pg gr a) e=pg gr (a*e):=by
 have hq:=k.q;rw[<-OK a,zMM (b:=e%gr.Q) (eM _ _).symm];unfold pg;rw[U6 k (nH k) (nV _ (by omega)) (nV _ (by omega))];exact Kh (mO a e gr.Q).symm
def OY(k:ao gr):pg gr 0=1:=zxY k
def EZ(k:ao gr)(a:Int):aK gr (pg gr a)=Z:=kx k (nH k) a
def X1(k:ao gr)(a:Int):0<=pg gr a/\pg gr a<gr.P:=by
 have:=AK k gr.G a;exact⟨this.1,by unfold pg;omega⟩
def RV(k:ao gr)(a b:Int):pg gr a*pg gr b%gr.P=pg gr (a+b):=by
 rw[<-gL k,HF k (X1 k a) (X1 k b).1]
def Rw(k:ao gr):pg gr 1=gr.G:=by
 have hq:=k.q;have hp:=k.p;have hg:=k.g;unfold pg av;rw[qe (by omega) (by omega)];show((gr.G.toNat^1%gr.P.toNat:Nat):Int)=gr.G;rw[Nat.pow_one,nT (by omega)];omega
def zAN(k:ao gr)(a b c:Int):aP gr [pg gr a,pg gr b,pg gr c]=pg gr (a+b+c):=by
 have h:aP gr [pg gr a,pg gr b,pg gr c]=aP gr [pg gr a,pg gr b]*pg gr c%gr.P:=rfl;rw[h,gL k,RV k]
open Classical in
noncomputable def dl(gr:am)(x:Int):Int:=if h:∃a,x=pg gr a then Classical.choose h else 0
def kf(k:ao gr){x:Int}(h:aK gr x=Z):x=pg gr (dl gr x):=by
 have hg:=k.g;have hq:=k.q
 have he:∃a,x=pg gr a:=by
  obtain⟨s,hs⟩:=zC1 k (nH k) (show gr.G≠1 by omega) h;have hx:=(DS h).1;refine⟨s,?_⟩;unfold pg av;obtain⟨n,hn⟩:=fJ (show 0<=gr.Q by omega);have h3:=(DS (nH k)).2.2;rw[hn]at h3⊢;rw[dG]at h3;rw[<-o6,dG,Hi h3,hs];omega
 unfold dl;rw[dif_pos he];exact Acn he
theorem Hw(a b:Nat->Int)(T:Int):∀n,cb (λi=>a i+T*b i) n=cb a n+T*cb b n
 |0=>by simp[cb]
 |n+1=>by
  show cb (λi=>a i+T*b i) n+(a n+T*b n)=(cb a n+a n)+T*(cb b n+b n);rw[Hw a b T n];grind
def zDx(a b:Nat->Int)(n:Nat):cb (λi=>a i+b i) n=cb a n+cb b n:=by
 have:=Hw a b 1 n;simpa using this
theorem ZJ(f:Int->Int)(l:List Int):∀n,n<=l.length->(l.take n).foldl (λa j=>a+f j) 0=cb (λi=>f (l.getD i 0)) n
 |0,_=>rfl
 |n+1,h=>by
  rw[Nr (by omega),ZJ f l n (by omega)];rfl
theorem ztS(f:Int->Int):∀n,((List.range n).map λ(i:Nat)=>(i:Int)).foldl (λa j=>a+f j) 0=cb (λi=>f (i:Nat)) n
 |0=>rfl
 |n+1=>by
  rw[mN,l8,GA,ztS f n];rfl
def Yg{l:List Int}(h:d5 l=Z)(f:Int->Int):cb (λi=>f (l.getD i 0)) l.length=cb (λi=>f (i:Nat)) l.length:=by
 have h1:=ZJ f l l.length (cy _);rw[f6]at h1;rw[<-h1,(TN h).foldl_eq' (λi _ j _ a=>by omega),ztS]
def tt(k:ao gr){l m:List Int}{f:Nat->Int}(hl:l.length=m.length)(hf:∀i,i<l.length->l.getD i 0=pg gr (f i)):zaO gr l m 1=pg gr (cb (λi=>f i*m.getD i 0) l.length):=by
 have key:∀n,n<=l.length->zaO gr (l.take n) (m.take n) 1=pg gr (cb (λi=>f i*m.getD i 0) n):=by
  intro n;induction n with
  |zero=>intro _;exact(OY k).symm
  |succ n ih=>
   intro hn;have h1:n<l.length:=by omega
   have h2:n<m.length:=by omega
   rw[iO h1,iO h2,Nf gr _ _ _ _ _ (by simp;omega),ih (by omega),<-bS h1,<-bS h2,hf n h1,hZ k,RV k];rfl
 have:=key l.length (cy _);rw[f6,hl,f6]at this;rw[this,hl]
def UY(k:ao gr){l:List Int}{f:Nat->Int}(hf:∀i,i<l.length->l.getD i 0=pg gr (f i)):aP gr l=pg gr (cb f l.length):=by
 have key:∀n,n<=l.length->(l.take n).foldl (λo x=>o*x%gr.P) 1=pg gr (cb f n):=by
  intro n;induction n with
  |zero=>intro _;exact(OY k).symm
  |succ n ih=>
   intro hn;have h1:n<l.length:=by omega
   rw[Nr h1,ih (by omega),hf n h1,RV k];rfl
 have:=key l.length (cy _);rw[f6]at this;exact this
theorem Nh{q:Int}(hq:0<q)(l m:List Int):∀n,dtN q l m n%q=cb (λi=>l.getD i 0*m.getD i 0) n%q
 |0=>rfl
 |n+1=>by
  show(dtN q l m n+l.getD n 0*m.getD n 0)%q%q=(cb _ n+l.getD n 0*m.getD n 0)%q;rw[eM,o8,Nh hq l m n,<-o8]
theorem ZN{q:Int}(hq:0<q)(l:List Int):∀n,smN q l n%q=cb (λi=>l.getD i 0) n%q
 |0=>rfl
 |n+1=>by
  show(smN q l n+l.getD n 0)%q%q=(cb _ n+l.getD n 0)%q;rw[eM,o8,ZN hq l n,<-o8]
def zFY{S0 S1 S2 S3 T b0 f F D m1 m2 m3 m4 m5 m6:Int}(e1:S0-q*m1=S1+T*(S2+b0*S3)-q*m2)(e2:F-q*m3=f+T*D-q*m4)(e3:D-q*m5=S3-q*m6):
 (b0*(0-f)+S1)+S2*T=(b0*(0-F)+S0)+q*(m2-m1+b0*(m3-m4)+T*b0*(m5-m6)):=by
 have a1:S0=S1+T*(S2+b0*S3)-q*m2+q*m1:=by rw[<-e1];grind
 have a2:D=S3-q*m6+q*m5:=by rw[<-e3];grind
 have a3:F=f+T*D-q*m4+q*m3:=by rw[<-e2];grind
 rw[a3,a1,a2];grind
def zEK{perm:List Int}(hp:d5 perm=Z){al U o rs kk K:Nat->Int}{b0 f F D T:Int}(ho:∀i,i<perm.length->o i=al (perm.getD i 0).toNat+b0*rs i)
(hK:∀i,i<perm.length->K i%q=(kk i+T*U (perm.getD i 0).toNat)%q)(hF:F%q=(f+T*D)%q)(hD:D%q=cb (λi=>rs i*U (perm.getD i 0).toNat) perm.length%q):
 ((b0*(0-f)+cb (λi=>o i*kk i) perm.length)+cb (λj=>al j*U j) perm.length*T)%q=(b0*(0-F)+cb (λi=>o i*K i) perm.length)%q:=by
 have e1:cb (λi=>o i*K i) perm.length%q=cb (λi=>o i*kk i+T*(o i*U (perm.getD i 0).toNat)) perm.length%q:=P5 _ λi hi=>by
  rw[mO,hK i hi,<-mO,show o i*(kk i+T*U (perm.getD i 0).toNat)=o i*kk i+T*(o i*U (perm.getD i 0).toNat)by grind]
 rw[Hw]at e1;have e2:cb (λi=>o i*U (perm.getD i 0).toNat) perm.length=cb (λi=>al (perm.getD i 0).toNat*U (perm.getD i 0).toNat+b0*(rs i*U (perm.getD i 0).toNat)) perm.length:=CC _ λi hi=>by rw[ho i hi];grind
 rw[Hw]at e2;have e3:=Yg hp (λj=>al j.toNat*U j.toNat);have e4:cb (λi:Nat=>al (i:Int).toNat*U (i:Int).toNat) perm.length=cb (λj=>al j*U j) perm.length:=rfl;rw[e4]at e3;rw[e2,e3]at e1;generalize cb (λi=>o i*K i) perm.length=S0 at e1⊢;generalize cb (λi=>o i*kk i) perm.length=S1 at e1⊢;generalize cb (λj=>al j*U j) perm.length=S2 at e1⊢;generalize cb (λi=>rs i*U (perm.getD i 0).toNat) perm.length=S3 at e1 hD;obtain⟨m1,h1⟩:=mw S0 q;obtain⟨m2,h2⟩:=mw (S1+T*(S2+b0*S3)) q;obtain⟨m3,h3⟩:=mw F q;obtain⟨m4,h4⟩:=mw (f+T*D) q;obtain⟨m5,h5⟩:=mw D q;obtain⟨m6,h6⟩:=mw S3 q;rw[h1,h2]at e1;rw[h3,h4]at hF;rw[h5,h6]at hD;rw[zFY e1 hF hD,GC]
end
section
variable {gr:am}
variable{i:Nat}
def ek{a b q:Int}(h:a%q=b%q):∃m,a=b+q*m:=by
 obtain⟨m,hm⟩:=mw a q;obtain⟨n,hn⟩:=mw b q;rw[hm,hn]at h;exact⟨m-n,by rw[Int.mul_sub];omega⟩
def vv(k:ao gr){h eta:Int}(hh:h=pg gr eta)(x r:Int):vc gr h x r=pg gr (x+eta*r):=by
 rw[hh];unfold vc;rw[hZ k];exact gL k x (eta*r)
def sN{α:Type}{a b:List α}{d:α}(h:i<a.length):(a++b).getD i d=a.getD i d:=by
 rw[nv,nv,fw h]
def tn{α:Type}{a b:List α}{j:Nat}{d:α}(h:i=a.length+j):(a++b).getD i d=b.getD j d:=by
 rw[nv,nv,fT (by omega),h,UB]
def zNa{q w v T y p e z u ab a b eta n1 n2 n3 n4 s1 s2:Int}(h1:u=y*p+e-z+q*n1)(h2:s1=w+T*u+q*n2)(h3:ab=y*a+b+q*n3)(h4:s2=v+T*ab+q*n4):
 (w+eta*v)+((p+eta*a)*y+(e+eta*b)+(0-z))*T=(s1+eta*s2)+q*(0-(T*n1+n2+eta*T*n3+eta*n4)):=by
 rw[h4,h3,h2,h1];grind
def zLq(k:ao gr){h eta w v T y p e z u ab a b s1 s2:Int}(hh:h=pg gr eta)(h1:u%gr.Q=(y*p+e-z)%gr.Q)(h2:s1%gr.Q=(w+T*u)%gr.Q)(h3:ab%gr.Q=(y*a+b)%gr.Q)(h4:s2%gr.Q=(v+T*ab)%gr.Q)(hz:i64.wrap (0-z)=0-z):
 aP gr [vc gr h w v,av gr (aP gr [av gr (vc gr h p a) y,vc gr h e b,av gr gr.G (i64.wrap (0-z))]) T]=vc gr h s1 s2:=by
 obtain⟨n1,h1⟩:=ek h1;obtain⟨n2,h2⟩:=ek h2;obtain⟨n3,h3⟩:=ek h3;obtain⟨n4,h4⟩:=ek h4;rw[vv k hh,vv k hh,vv k hh,vv k hh,hZ k,hz,show av gr gr.G (0-z)=pg gr (0-z)from rfl,zAN k,hZ k,gL k];exact AR _ (zNa h1 h2 h3 h4)
def zLa{q pr ls eta w s T wF c u s1 s3 d n1 n2 n3 n4:Int}(h1:wF=pr*u+q*n1)(h2:s1=w+T*u+q*n2)(h3:d=c-ls*u+q*n3)(h4:s3=s+T*d+q*n4):
 ((pr+eta*ls)*w+eta*s)+(wF+eta*c)*T=((pr+eta*ls)*s1+eta*s3)+q*(T*n1-(pr+eta*ls)*n2-eta*T*n3-eta*n4):=by
 rw[h4,h3,h2,h1];grind
def zMt(k:ao gr){h eta bf pr ls w s T wF c u s1 s3 d:Int}(hh:h=pg gr eta)(hb:bf=pg gr (pr+eta*ls))(h1:wF%gr.Q=(pr*u)%gr.Q)(h2:s1%gr.Q=(w+T*u)%gr.Q)(h3:d%gr.Q=(c-ls*u)%gr.Q)(h4:s3%gr.Q=(s+T*d)%gr.Q):
 aP gr [aP gr [av gr bf w,av gr h s],av gr (vc gr h wF c) T]=aP gr [av gr bf s1,av gr h s3]:=by
 obtain⟨n1,h1⟩:=ek h1;obtain⟨n2,h2⟩:=ek h2;obtain⟨n3,h3⟩:=ek h3;obtain⟨n4,h4⟩:=ek h4;rw[vv k hh,hb,hh,hZ k,hZ k,hZ k,hZ k,hZ k,gL k,gL k,gL k];exact AR _ (zLa h1 h2 h3 h4)
def zKC{q kk m e b T K M eta n1 n2:Int}(h1:K=kk+T*e+q*n1)(h2:M=m+T*b+q*n2):(kk+eta*m)+(e+eta*b)*T=(K+eta*M)+q*(0-(n1+eta*n2)):=by
 rw[h1,h2];grind
def zJ3(k:ao gr){h eta kk m e b T K M:Int}(hh:h=pg gr eta)(h1:K%gr.Q=(kk+T*e)%gr.Q)(h2:M%gr.Q=(m+T*b)%gr.Q):aP gr [vc gr h kk m,av gr (vc gr h e b) T]=vc gr h K M:=by
 obtain⟨n1,h1⟩:=ek h1;obtain⟨n2,h2⟩:=ek h2;rw[vv k hh,vv k hh,vv k hh,hZ k,gL k];exact AR _ (zKC h1 h2)
def zJ5{q g pn c tg T G eta n1 n2:Int}(h1:pn=tg+q*n1)(h2:G=g+T*c+q*n2):eta*g+(pn+eta*c+tg*(-1))*T=eta*G+q*(T*n1-eta*n2):=by
 rw[h1,h2];grind
def zJ9(k:ao gr){h eta g pn c tg T G:Int}(hh:h=pg gr eta)(h1:pn%gr.Q=tg%gr.Q)(h2:G%gr.Q=(g+T*c)%gr.Q):aP gr [av gr h g,av gr (aP gr [vc gr h pn c,av gr (av gr gr.G tg) (-1)]) T]=av gr h G:=by
 obtain⟨n1,h1⟩:=ek h1;obtain⟨n2,h2⟩:=ek h2;rw[vv k hh,hh,show av gr gr.G tg=pg gr tg from rfl,hZ k,hZ k,hZ k,gL k,hZ k,gL k];exact AR _ (zJ5 h1 h2)
def LR(k:ao gr){b0 f F D T base:Int}{EI y8 CE ks Ks perm:List Int}{al U o rs:Nat->Int}(hb:base=pg gr b0)(hp:d5 perm=Z)(li:EI.length=perm.length)(lo:y8.length=perm.length)(lu:CE.length=perm.length)(lk:ks.length=perm.length)(lK:Ks.length=perm.length)
(hi:∀j,j<perm.length->EI.getD j 0=pg gr (al j))(hu:∀j,j<perm.length->CE.getD j 0=U j)(ho:∀i,i<perm.length->y8.getD i 0=pg gr (o i))(E6:∀i,i<perm.length->o i=al (perm.getD i 0).toNat+b0*rs i)
(hK:∀i,i<perm.length->Ks.getD i 0%gr.Q=(ks.getD i 0+T*U (perm.getD i 0).toNat)%gr.Q)(hF:F%gr.Q=(f+T*D)%gr.Q)(hD:D%gr.Q=cb (λi=>rs i*U (perm.getD i 0).toNat) perm.length%gr.Q)
(hf:i64.wrap (0-f)=0-f)(hF2:i64.wrap (0-F)=0-F):
 aP gr [aP gr [av gr base (i64.wrap (0-f)),zaO gr y8 ks 1],av gr (zaO gr EI CE 1) T]=aP gr [av gr base (i64.wrap (0-F)),zaO gr y8 Ks 1]:=by
 have e1:cb (λi=>al i*CE.getD i 0) perm.length=cb (λi=>al i*U i) perm.length:=CC _ λi hi=>by rw[hu i hi]
 rw[hf,hF2,hb,hZ k,hZ k,tt k (l:=y8) (m:=ks) (f:=o) (by omega) (by rw[lo];exact ho),tt k (l:=y8) (m:=Ks) (f:=o) (by omega) (by rw[lo];exact ho),tt k (l:=EI) (m:=CE) (f:=al) (by omega) (by rw[li];exact hi),lo,li,e1,gL k,gL k,hZ k,gL k];exact Kh (zEK hp E6 hK hF hD)
theorem VQ{q x:Int}(hq:1<q)(hx:0<=x):∀i,ke q x i=((x.toNat^i%q.toNat:Nat):Int)
 |0=>by
  show(1:Int)=_;rw[Un,nT (by omega)];rfl
 |i+1=>by
  obtain⟨n,rfl⟩:=fJ hx;obtain⟨m,rfl⟩:=fJ (show 0<=q by omega);show ke _ _ i*_%_=_;rw[VQ hq hx i,dG,dG,<-C8,<-o6,Nat.pow_succ,t6,OE,<-t6]
def RJ{q x:Int}{perm:List Int}(h:0<=perm.getD i 0):eF q x perm i=ig q x (perm.getD i 0).toNat:=by
 unfold eF ig;rw[show(perm.getD i 0+1).toNat=(perm.getD i 0).toNat+1 by omega]
def zGt{q x y z:Int}(hq:1<q)(hx:0<=x){perm:List Int}(hp:∀j∈perm,0<=j/\j<=1000)(hb:d5 perm=Z):r8 q (uF q y z (eF q x perm) perm) perm.length=tgN q x y z perm.length:=by
 have key:∀n,n<=perm.length->r8 q (uF q y z (eF q x perm) perm) n=(perm.take n).foldl (vw q x y z) 1:=by
  intro n;induction n with
  |zero=>intro _;rfl
  |succ n ih=>
   intro hn;rw[Nr (by omega),<-ih (by omega)];show r8 q _ n*uF q y z _ perm n%q=vw q x y z _ _;have hj:=(ey hp (show n<perm.length by omega)).1;unfold vw uF;rw[VQ hq hx,RJ hj];rfl
 rw[key _ (cy _),f6,zA9 hb]
theorem WC{f:Nat->Bool}:∀{n},(∀i,i<n->f i=Z)->alB f n=Z
 |0,_=>rfl
 |n+1,h=>by
  show(alB f n&&f n)=Z;rw[WC λi hi=>h i (by omega),h n (by omega)];rfl
end
section
variable {gr:am}{key h:Int}{l:List an}{perm rs:List Int}{C:Pc}
abbrev c0:an:=⟨0,0⟩
variable{ch:List Int}
def Ih{l:List an}{j:Nat}(hj:j<l.length):(sdV l).1.getD j 0=(l.getD j c0).A/\(sdV l).2.getD j 0=(l.getD j c0).B:=by
 simp[sdV,List.getD,hj]
def JZ(hl:∀c∈l,b7 gr c=Z){j:Nat}(hj:j<l.length):aK gr (l.getD j c0).A=Z/\aK gr (l.getD j c0).B=Z:=by
 have h:=hl _ (e9 hj);have e:l.getD j c0=l[j]:=by simp[List.getD,hj]
 rw[e];simpa only[b7,bI]using h
def zGu{i:Nat}(hi:i<perm.length):(zaR gr key l perm rs).getD i c0=zf gr key (l.getD (perm.getD i 0).toNat c0) (rs.getD i 0):=by
 simp[zaR,List.getD,hi]
def zH(k:ao gr)(m:m9 gr key l perm rs){i:Nat}(hi:i<perm.length):(sdV (zaR gr key l perm rs)).1.getD i 0=pg gr (dl gr (l.getD (perm.getD i 0).toNat c0).A+1*rs.getD i 0)/\(sdV (zaR gr key l perm rs)).2.getD i 0=pg gr (dl gr (l.getD (perm.getD i 0).toNat c0).B+dl gr key*rs.getD i 0):=by
 have hj:=ey m.pr hi;have hc:=JZ m.c (show(perm.getD i 0).toNat<l.length by omega);have hs:=Ih (l:=zaR gr key l perm rs) (j:=i) (by rw[kK];exact hi);rw[hs.1,hs.2,zGu hi];unfold zf;generalize l.getD (perm.getD i 0).toNat c0=c at hc;have e1:=kf k hc.1;have e2:=kf k hc.2;have e3:=kf k m.key;generalize dl gr c.A=a at e1;generalize dl gr c.B=b at e2;generalize dl gr key=kk at e3;dsimp only;rw[e1,e2,e3,hZ k];refine⟨by rw[show av gr gr.G (rs.getD i 0)=pg gr (rs.getD i 0)from rfl,gL k,UA],?_⟩;rw[<-OY k,gL k,gL k,KB]
def YB(k:ao gr){eta:Int}(hh:h=pg gr eta){u:Nat->Int}{n i:Nat}(hi:i<n):bef gr.G (rg (chF gr h u C) n) i=pg gr (r8 gr.Q u i+eta*zX C i):=by
 unfold bef;cases i with
 |zero=>
  show gr.G=pg gr (1+eta*0);rw[Int.mul_zero,Int.add_zero,Rw k]
 |succ i=>
  rw[tn (a:=[gr.G]) (j:=i) (by simp;omega),kI _ (by omega)];exact vv k hh _ _
def Kl{gr:am}(k:ao gr){z:Int}(hz:E9 gr.Q z):i64.wrap (0-z)=0-z:=by
 have h1:=hz.1;have h2:=hz.2;have hq:=k.q;have hp:=k.p;exact aI (by omega) (by omega)
def zME{out:List an}{n i:Nat}(hi:i<n):(oT gr key h out ch C n).getD i 0=MX gr h C i:=by
 unfold oT;rw[sN (by simp[bn];omega),sN (by simp[bn];omega),sN (by simp[bn];omega),sN (by simp[bn];omega),kI _ hi]
def zNG{out:List an}{n i:Nat}(hi:i<n):(oT gr key h out ch C n).getD (n+i) 0=c2F gr h ch C i:=by
 unfold oT;rw[sN (by simp[bn];omega),sN (by simp[bn];omega),sN (by simp[bn];omega),tn (j:=i) (by simp[bn]),kI _ hi]
def zJZ{out:List an}{n:Nat}:(oT gr key h out ch C n).getD (2*n) 0=av gr h C.g:=by
 unfold oT;rw[sN (by simp[bn];omega),sN (by simp[bn];omega),tn (j:=0) (by simp[bn];omega)];rfl
def zMj{out:List an}{n i:Nat}(hi:i<n):(oT gr key h out ch C n).getD (2*n+1+i) 0=W1 gr h C i:=by
 unfold oT;rw[sN (by simp[bn];omega),tn (j:=i) (by simp[bn];omega),kI _ hi]
def UN{out:List an}{n:Nat}:(oT gr key h out ch C n).getD (3*n+1) 0=aP gr [av gr gr.G (i64.wrap (0-C.f)),zaO gr (sdV out).1 C.k 1]/\(oT gr key h out ch C n).getD (3*n+2) 0=aP gr [av gr key (i64.wrap (0-C.f)),zaO gr (sdV out).2 C.k 1]:=by
 unfold oT;rw[tn (i:=3*n+1) (j:=0) (by simp[bn];omega),tn (i:=3*n+2) (j:=1) (by simp[bn];omega)];exact⟨rfl,rfl⟩
def g8(gr:am)(key h:Int)(l:List an)(perm rs:List Int)(C:Pc):Rp:=
 let q:=gr.Q;let t:=ka gr key h l perm rs C;let u:=lY gr key h l perm rs C;let e:=jG gr key h l perm rs C;let n:=l.length
 ⟨rg (rF q t C.w u) n,rg (rF q t C.v (abF q (qy gr key h l perm rs C) C)) n,rg (rF q t C.s (dlF q u C)) n,(C.g+t*C.c.getD (n-1) 0)%q,rg (rF q t C.k e) n,rg (rF q t C.m (λi=>C.b.getD i 0)) n,(C.f+t*dtN q rs (rg e n) n)%q⟩
def zCr(k:ao gr)(P:gT gr key h l perm rs C):∀z∈gE gr key h l perm rs C,aK gr z=Z:=by
 have hh:=kf k P.hh;have dL:=P.m.pl;have Ll:=P.c.k.1;have kM:(zaR gr key l perm rs).length=l.length:=by rw[kK,P.m.pl]
 have eY:=mJ (zaR gr key l perm rs)
 have d1:aK gr (zaO gr (sdV (zaR gr key l perm rs)).1 C.k 1)=Z:=by
  rw[tt k (f:=λi=>dl gr (l.getD (perm.getD i 0).toNat c0).A+1*rs.getD i 0) (by omega) λi hi=>(zH k P.m (by omega)).1];exact EZ k _
 have d2:aK gr (zaO gr (sdV (zaR gr key l perm rs)).2 C.k 1)=Z:=by
  rw[tt k (f:=λi=>dl gr (l.getD (perm.getD i 0).toNat c0).B+dl gr key*rs.getD i 0) (by omega) λi hi=>(zH k P.m (by omega)).2];exact EZ k _
 unfold gE oT;refine jA (jA (jA (jA (nb λi _=>In k P.hh _ _) (nb λi hi=>?_)) ?_) (nb λi _=>In k P.hh _ _)) ?_
 ·unfold c2F;refine qk k (kx k ?_ _) (kx k P.hh _);unfold jn;rw[YB k hh hi];exact EZ k _
 ·intro x hx;rw[gB]at hx;rw[hx];exact kx k P.hh _
 intro x hx;simp only[fK,jf,jg]at hx;rcases hx with rfl|rfl
 ·exact qk k (kx k (nH k) _) d1
 exact qk k (kx k P.m.key _) d2
def zE1(k:ao gr)(P:gT gr key h l perm rs C):∀z∈(g8 gr key h l perm rs C).cs,E9 gr.Q z:=by
 have hq:=k.q;have cL:0<gr.Q:=by omega
 have hr:∀(t:Int) (w:List Int) (u:Nat->Int) (n:Nat),∀z∈rg (rF gr.Q t w u) n,E9 gr.Q z:=λt w u n=>nb λi _=>by unfold rF;exact f9 cL _
 have h1:∀x:Int,∀z∈[x%gr.Q],E9 gr.Q z:=λx z hz=>by rw[gB]at hz;rw[hz];exact f9 cL _
 exact jA (hr _ _ _ _) (jA (hr _ _ _ _) (jA (hr _ _ _ _) (jA (h1 _) (jA (hr _ _ _ _) (jA (hr _ _ _ _) (h1 _))))))
def W4(k:ao gr)(P:gT gr key h l perm rs C):xi gr key h l (zaR gr key l perm rs) (i9 gr key h l perm rs C) (g8 gr key h l perm rs C):=
 ⟨P.m.key,P.m.n,P.m.c,t8 k P.m,by rw[kK,P.m.pl],P.hh,⟨bn _ _,SL k P⟩,⟨bn _ _,V3 k P⟩,H5 k P,⟨(FC k P).1,zCr k P⟩,rfl,rfl,⟨bn _ _,bn _ _,bn _ _,bn _ _,bn _ _⟩⟩
def zHJ(k:ao gr)(P:gT gr key h l perm rs C):rG gr l.length (i9 gr key h l perm rs C)=Z:=by
 have V:=W4 k P;have e1:=V.rs
 have hl:(i9 gr key h l perm rs C).Pi.aE.length=5*l.length+2:=by
  rw[e1];have r:=V.r;simp only[Rp.cs,bP,dX,ia,r.s1,r.s2,r.s3,r.kk,r.mm];omega
 simp only[rG,bI,eC];exact⟨V.pl.1,V.pw.1,V.ch.1,V.cm.1,V.cl,hl,bm.2 V.pl.2,bm.2 V.pw.2,bm.2 V.ch.2,bm.2 V.cm.2,by rw[e1];exact Vj (zE1 k P)⟩
end
section
variable {gr:am}{key h:Int}{l:List an}{perm rs:List Int}{C:Pc}
variable{i:Nat}
def zGO(k:ao gr)(P:gT gr key h l perm rs C)(hi:i<l.length):q1 gr h (qy gr key h l perm rs C) (tx gr key h l perm rs C) (ka gr key h l perm rs C) (i9 gr key h l perm rs C) (g8 gr key h l perm rs C) i=Z:=by
 have hz:E9 gr.Q (tx gr key h l perm rs C):=mG k _ _;show(aP gr [(gE gr key h l perm rs C).getD i 0,av gr (aP gr [av gr ((gq gr h perm C l.length).getD i 0) (qy gr key h l perm rs C),(kj gr key h l perm rs C).getD i 0,av gr gr.G (i64.wrap (0-tx gr key h l perm rs C))]) (ka gr key h l perm rs C)]==vc gr h ((g8 gr key h l perm rs C).s1.getD i 0) ((g8 gr key h l perm rs C).s2.getD i 0))=Z;unfold gE gq kj g8;dsimp only;rw[zME hi,kI _ hi,kI _ hi,kI _ hi,kI _ hi];exact beq_iff_eq.2 (zLq k (kf k P.hh) (u:=lY gr key h l perm rs C i) (ab:=abF gr.Q (qy gr key h l perm rs C) C i) (eM _ _) (eM _ _) (eM _ _) (eM _ _) (Kl k hz))
def zHF(k:ao gr)(P:gT gr key h l perm rs C)(hi:i<l.length):q2 gr h (ka gr key h l perm rs C) (i9 gr key h l perm rs C) (g8 gr key h l perm rs C) l.length i=Z:=by
 show(aP gr [(gE gr key h l perm rs C).getD (l.length+i) 0,av gr ((jn gr key h l perm rs C).getD i 0) (ka gr key h l perm rs C)]==aP gr [av gr (bef gr.G (jn gr key h l perm rs C) i) ((g8 gr key h l perm rs C).s1.getD i 0),av gr h ((g8 gr key h l perm rs C).s3.getD i 0)])=Z;unfold gE g8;dsimp only;rw[zNG hi,kI _ hi,kI _ hi];unfold c2F;have hb:bef gr.G (jn gr key h l perm rs C) i=pg gr (r8 gr.Q (lY gr key h l perm rs C) i+dl gr h*zX C i):=YB k (kf k P.hh) hi;have hc:(jn gr key h l perm rs C).getD i 0=vc gr h (r8 gr.Q (lY gr key h l perm rs C) (i+1)) (C.c.getD i 0):=kI _ hi;rw[hc];exact beq_iff_eq.2 (zMt k (kf k P.hh) hb (u:=lY gr key h l perm rs C i) (d:=dlF gr.Q (lY gr key h l perm rs C) C i) (eM _ _) (eM _ _) (eM _ _) (eM _ _))
def zGh(k:ao gr)(P:gT gr key h l perm rs C)(hi:i<l.length):q4 gr h (ka gr key h l perm rs C) (i9 gr key h l perm rs C) (g8 gr key h l perm rs C) l.length i=Z:=by
 show(aP gr [(gE gr key h l perm rs C).getD (2*l.length+1+i) 0,av gr ((kj gr key h l perm rs C).getD i 0) (ka gr key h l perm rs C)]==vc gr h ((g8 gr key h l perm rs C).kk.getD i 0) ((g8 gr key h l perm rs C).mm.getD i 0))=Z;unfold gE g8 kj;dsimp only;rw[zMj hi,kI _ hi,kI _ hi,kI _ hi];exact beq_iff_eq.2 (zJ3 k (kf k P.hh) (eM _ _) (eM _ _))
def zHG(k:ao gr)(P:gT gr key h l perm rs C):q3 gr h (tgN gr.Q (nh gr key h l perm rs C) (qy gr key h l perm rs C) (tx gr key h l perm rs C) l.length) (ka gr key h l perm rs C) (i9 gr key h l perm rs C) (g8 gr key h l perm rs C) l.length=Z:=by
 have hn:=P.m.n;have hq:=k.q;have hx:E9 gr.Q (nh gr key h l perm rs C):=mG k _ _;have ht:=zGt (q:=gr.Q) (y:=qy gr key h l perm rs C) (z:=tx gr key h l perm rs C) (by omega) hx.1 P.pr P.m.pb;rw[P.m.pl]at ht;have hc:(jn gr key h l perm rs C).getD (l.length-1) 0=vc gr h (r8 gr.Q (lY gr key h l perm rs C) (l.length-1+1)) (C.c.getD (l.length-1) 0):=kI _ (by omega);rw[show l.length-1+1=l.length by omega]at hc;show(aP gr [(gE gr key h l perm rs C).getD (2*l.length) 0,av gr (aP gr [(jn gr key h l perm rs C).getD (l.length-1) 0,av gr (av gr gr.G (tgN gr.Q _ _ _ l.length)) (-1)]) (ka gr key h l perm rs C)]==av gr h (g8 gr key h l perm rs C).g)=Z;rw[hc];unfold gE g8;dsimp only;rw[zJZ];exact beq_iff_eq.2 (zJ9 k (kf k P.hh) (gn (· %gr.Q) ht) (eM _ _))
def V6(k:ao gr)(P:gT gr key h l perm rs C):dtN gr.Q rs (rg (jG gr key h l perm rs C) l.length) l.length%gr.Q=cb (λi=>rs.getD i 0*ig gr.Q (nh gr key h l perm rs C) (perm.getD i 0).toNat) perm.length%gr.Q:=by
 have hq:=k.q;rw[Nh (by omega),P.m.pl];refine gn (· %gr.Q) (CC _ λi hi=>?_);rw[kI _ hi];unfold jG;rw[RJ (ey P.pr (by rw[P.m.pl];exact hi)).1]
def zGW(k:ao gr)(P:gT gr key h l perm rs C):qE gr (ka gr key h l perm rs C) ((gE gr key h l perm rs C).getD (3*l.length+1) 0) gr.G (rg (ig gr.Q (nh gr key h l perm rs C)) l.length) (sdV l).1 (sdV (zaR gr key l perm rs)).1 (g8 gr key h l perm rs C)=Z/\
 qE gr (ka gr key h l perm rs C) ((gE gr key h l perm rs C).getD (3*l.length+2) 0) key (rg (ig gr.Q (nh gr key h l perm rs C)) l.length) (sdV l).2 (sdV (zaR gr key l perm rs)).2 (g8 gr key h l perm rs C)=Z:=by
 have hq:=k.q;have dL:=P.m.pl;have eY:=mJ l;have k7:=mJ (zaR gr key l perm rs);rw[kK]at k7;have hk:=P.c.k.1;have hf:=Kl k P.c.f;have hF:i64.wrap (0-(g8 gr key h l perm rs C).f)=0-(g8 gr key h l perm rs C).f:=Kl k (f9 (by omega) _)
 have hK:∀i,i<perm.length->(g8 gr key h l perm rs C).kk.getD i 0%gr.Q=(C.k.getD i 0+ka gr key h l perm rs C*ig gr.Q (nh gr key h l perm rs C) (perm.getD i 0).toNat)%gr.Q:=λi hi=>by
  unfold g8;dsimp only;rw[kI _ (by omega)];unfold rF;rw[eM];unfold jG;rw[RJ (ey P.pr hi).1]
 have hl:(g8 gr key h l perm rs C).kk.length=perm.length:=by unfold g8;dsimp only;rw[bn,dL]
 have lu:(rg (ig gr.Q (nh gr key h l perm rs C)) l.length).length=perm.length:=by rw[bn,dL]
 have hu:∀j,j<perm.length->(rg (ig gr.Q (nh gr key h l perm rs C)) l.length).getD j 0=ig gr.Q (nh gr key h l perm rs C) j:=λj hj=>kI _ (by omega)
 have XE:(g8 gr key h l perm rs C).f%gr.Q=(C.f+ka gr key h l perm rs C*dtN gr.Q rs (rg (jG gr key h l perm rs C) l.length) l.length)%gr.Q:=eM _ _;unfold qE gE;rw[UN.1,UN.2];refine⟨beq_iff_eq.2 (LR k (perm:=perm) (b0:=1) (Rw k).symm P.m.pb (by omega) k7.1 lu (by omega) hl (al:=λj=>dl gr (l.getD j c0).A) (o:=λi=>dl gr (l.getD (perm.getD i 0).toNat c0).A+1*rs.getD i 0) (rs:=λi=>rs.getD i 0) (λj hj=>?_) hu (λi hi=>(zH k P.m hi).1) (λ_ _=>rfl) hK XE (V6 k P) hf hF),beq_iff_eq.2 (LR k (perm:=perm) (b0:=dl gr key) (kf k P.m.key) P.m.pb (by omega) k7.2 lu (by omega) hl (al:=λj=>dl gr (l.getD j c0).B) (o:=λi=>dl gr (l.getD (perm.getD i 0).toNat c0).B+dl gr key*rs.getD i 0) (rs:=λi=>rs.getD i 0) (λj hj=>?_) hu (λi hi=>(zH k P.m hi).2) (λ_ _=>rfl) hK XE (V6 k P) hf hF)⟩
 ·rw[(Ih (by omega)).1];exact kf k (JZ P.m.c (by omega)).1
 rw[(Ih (by omega)).2];exact kf k (JZ P.m.c (by omega)).2
def zGF(k:ao gr)(P:gT gr key h l perm rs C):BA gr key h l (zaR gr key l perm rs) (i9 gr key h l perm rs C) (g8 gr key h l perm rs C) (nh gr key h l perm rs C) (qy gr key h l perm rs C) (tx gr key h l perm rs C) (ka gr key h l perm rs C) l.length=Z:=by
 unfold BA;rw[WC λi hi=>by rw[zGO k P hi,zHF k P hi,zGh k P hi];rfl,zHG k P];have h1:=zGW k P;have e:(i9 gr key h l perm rs C).Pi.aC=gE gr key h l perm rs C:=rfl;rw[e,h1.1,h1.2];rfl
def zBW(k:ao gr){B:ct}(P:gT gr key B.H l perm rs C):AS gr B key l (zaR gr key l perm rs) (i9 gr key B.H l perm rs C)=J Z:=by
 rw[Vf k (W4 k P) (zHJ k P)];have h1:=zGF k P;have e1:vpX gr key l (zaR gr key l perm rs) (i9 gr key B.H l perm rs C)=nh gr key B.H l perm rs C:=rfl;have e2:vpY gr key l (zaR gr key l perm rs) (i9 gr key B.H l perm rs C)=qy gr key B.H l perm rs C:=rfl;have e3:vpZ gr key l (zaR gr key l perm rs) (i9 gr key B.H l perm rs C)=tx gr key B.H l perm rs C:=rfl;have e4:vpT gr key l (zaR gr key l perm rs) (i9 gr key B.H l perm rs C)=ka gr key B.H l perm rs C:=rfl;have e5:(i9 gr key B.H l perm rs C).Pi.aV.getD 0 0=ka gr key B.H l perm rs C:=rfl;rw[e1,e2,e3,e4,e5,h1,AaI];rfl
end
section
variable {gr:am}{key:Int}{B:ct}{l:List an}{perm rs s t w x:List Int}{a b d f:Int}
variable{i:Nat}
def Wo(h:d5 perm=Z){j:Nat}(hi:i<perm.length)(hj:j<perm.length)(e:perm.getD i 0=perm.getD j 0):i=j:=by
 simp only[d5,bI,oH,eC]at h;rw[bS hi,bS hj]at e;exact(List.getElem_inj h.2).1 e
def zDy{Hs ss:List Int}(hp:d5 perm=Z)(hr:∀x∈perm,0<=x/\x<perm.length)(hi:i<perm.length):(zez gr Hs perm ss).getD (perm.getD i 0).toNat 0=aP gr [av gr gr.G (ss.getD (perm.getD i 0).toNat 0),Hs.getD i 0]:=by
 have h:=MR (f:=tP gr Hs perm ss) (I:=λm s=>s.length=perm.length/\∀i,i<m->i<perm.length->s.getD (perm.getD i 0).toNat 0=aP gr [av gr gr.G (ss.getD (perm.getD i 0).toNat 0),Hs.getD i 0]) (s0:=List.replicate perm.length 0) (m:=perm.length) ⟨by simp,λi hi=>by omega⟩ (λm s hm ⟨h1,h2⟩=>by
  refine⟨by simp[tP,h1],λi hi cF=>?_⟩;unfold tP;have hx:=ey hr cF;have hy:=ey hr hm;by_cases e:m=i
  ·subst e;rw[nv,Acl (by omega),v8]
  ·have hne:(perm.getD m 0).toNat≠(perm.getD i 0).toNat:=λe2=>e (Wo hp hm cF (by omega))
   rw[nv,Acm hne,<-nv]
   exact h2 i (by omega) cF) perm.length (cy _)
 exact h.2 i hi hi
def zBE(h:d5 perm=Z):∃kR:Nat->Nat,∀j,j<perm.length->kR j<perm.length/\perm.getD (kR j) 0=(j:Int):=by
 have key:∀j:Nat,∃i,j<perm.length->i<perm.length/\perm.getD i 0=(j:Int):=by
  intro j;by_cases hj:j<perm.length
  ·obtain⟨i,hi,e⟩:=Ou (PA h (j:=(j:Int)) ⟨by omega,by omega⟩);exact⟨i,λ_=>⟨hi,by rw[bS hi,e]⟩⟩
  ·exact⟨0,λhh=>absurd hh hj⟩
 exact⟨λj=>Classical.choose (key j),λj hj=>Acn (key j) hj⟩
def zN1(q u v a:Int):a*u%q*v%q=a*v%q*u%q:=by
 rw[mO (a*u%q),eM,<-mO,mO (a*v%q),eM,<-mO];congr 1;rw[KF,AaH u v,KF]
theorem VF(q:Int)(e:List Int):∀n,((List.range n).map λ(i:Nat)=>(i:Int)).foldl (λa j=>a*e.getD j.toNat 0%q) 1=alN q e n
 |0=>rfl
 |n+1=>by
  rw[mN,l8,GA,VF q e n];rfl
theorem UZ(q:Int)(e:List Int):∀n,n<=perm.length->alN q (pX e perm) n=(perm.take n).foldl (λa j=>a*e.getD j.toNat 0%q) 1
 |0,_=>rfl
 |n+1,h=>by
  rw[Nr (by omega),<-UZ q e n (by omega)];show alN q _ n*(pX e perm).getD n 0%q=_;have:(pX e perm).getD n 0=e.getD (perm.getD n 0).toNat 0:=by simp[pX,List.getD,show n<perm.length by omega]
  rw[this]
def zBN(h:d5 perm=Z)(q:Int)(e:List Int):alN q (pX e perm) perm.length=alN q e perm.length:=by
 rw[UZ q e _ (cy _),f6,(TN h).foldl_eq' (λi _ j _ a=>zN1 q _ _ a),VF]
def UW{e:List Int}(hi:i<perm.length):(pX e perm).getD i 0=e.getD (perm.getD i 0).toNat 0:=by simp[pX,List.getD,hi]
def KN(eta:Int)(own t:List Int):Nat->Int
 |0=>eta
 |i+1=>t.getD i 0+KN eta own t i*own.getD i 0
theorem Nv(k:ao gr){h eta:Int}(hh:h=pg gr eta)(own t:List Int):∀i,hN gr h own t i=pg gr (KN eta own t i)
 |0=>hh
 |i+1=>by
  show aP gr [av gr gr.G (t.getD i 0),av gr (hN gr h own t i) (own.getD i 0)]=_;rw[Nv k hh own t i,hZ k];exact gL k _ _
theorem XM{q:Int}(eta:Int)(own t:List Int):∀n,KN eta own t n%q=(yN q own t n+eta*alN q own n)%q
 |0=>by
  show eta%q=(0+eta*1)%q;rw[Uu,KB]
 |n+1=>by
  obtain⟨m1,h1⟩:=ek (XM (q:=q) eta own t n);obtain⟨m2,h2⟩:=mw (t.getD n 0+own.getD n 0*yN q own t n) q;obtain⟨m3,h3⟩:=mw (alN q own n*own.getD n 0) q;show(t.getD n 0+KN eta own t n*own.getD n 0)%q=((t.getD n 0+own.getD n 0*yN q own t n)%q+eta*(alN q own n*own.getD n 0%q))%q;rw[h1,h2,h3];generalize t.getD n 0=a;generalize own.getD n 0=c;generalize yN q own t n=y;generalize alN q own n=p;have e:a+(y+eta*p+q*m1)*c=(a+c*y-q*m2+eta*(p*c-q*m3))+q*(m1*c+m2+eta*m3):=by grind
  rw[e,GC]
end
section
variable {gr:am}{key:Int}{B:ct}{l:List an}{perm rs s t w x:List Int}{a b d f:Int}
def YO(k:ao gr){Hs ss:List Int}(hp:d5 perm=Z)(hr:∀x∈perm,0<=x/\x<perm.length)(hl:Hs.length=perm.length)(hH:∀x∈Hs,aK gr x=Z):∃cx:Nat->Int,(∀j,j<perm.length->(zez gr Hs perm ss).getD j 0=pg gr (cx j))/\
 ∀U:Nat->Int,cb (λj=>cx j*U j) perm.length=cb (λj=>ss.getD j 0*U j) perm.length+cb (λi=>dl gr (Hs.getD i 0)*U (perm.getD i 0).toNat) perm.length:=by
 obtain⟨kR,hi⟩:=zBE hp;refine⟨λj=>ss.getD j 0+dl gr (Hs.getD (kR j) 0),λj hj=>?_,λU=>?_⟩
 ·obtain⟨h1,h2⟩:=hi j hj;have:=zDy (gr:=gr) (Hs:=Hs) (ss:=ss) hp hr h1;rw[h2,dG]at this;rw[this];have e:=kf k (ey hH (show kR j<Hs.length by omega));show _=pg gr (ss.getD j 0+dl gr (Hs.getD (kR j) 0));generalize Hs.getD (kR j) 0=v at e;rw[<-gL k,<-e];rfl
 have e1:cb (λj=>(ss.getD j 0+dl gr (Hs.getD (kR j) 0))*U j) perm.length=cb (λj=>ss.getD j 0*U j+dl gr (Hs.getD (kR j) 0)*U j) perm.length:=CC _ λj _=>Int.add_mul _ _ _
 have e2:=Yg hp (λj=>dl gr (Hs.getD (kR j.toNat) 0)*U j.toNat)
 have e3:cb (λi=>dl gr (Hs.getD (kR (perm.getD i 0).toNat) 0)*U (perm.getD i 0).toNat) perm.length=cb (λi=>dl gr (Hs.getD i 0)*U (perm.getD i 0).toNat) perm.length:=CC _ λi hlt=>by
  have hx:=ey hr hlt;obtain⟨h1,h2⟩:=hi (perm.getD i 0).toNat (by omega);rw[Wo hp h1 hlt (by omega)]
 have e4:cb (λi:Nat=>dl gr (Hs.getD (kR (i:Int).toNat) 0)*U (i:Int).toNat) perm.length=cb (λj=>dl gr (Hs.getD (kR j) 0)*U j) perm.length:=rfl;rw[e1,zDx,<-e4,<-e2,e3]
def zGr{q z:Int}{eta xr xx oo:Nat->Int}{n:Nat}(h:∀i,i<n->xr i%q=(xx i+z*oo i)%q):cb (λi=>eta i*xr i) n%q=(cb (λi=>eta i*xx i) n+z*cb (λi=>eta i*oo i) n)%q:=by
 rw[<-Hw]
 exact P5 _ λi hi=>by
  rw[mO,h i hi,<-mO,show eta i*(xx i+z*oo i)=eta i*xx i+z*(eta i*oo i)by grind]
def zE6{q a Sc Ss Se z r0 sm n1 n2:Int}(h1:Sc=Ss+Se)(h2:r0=a+z*sm+q*n1)(h3:sm=Ss+q*n2):a+(Sc+Se*(-1))*z=r0+q*(0-(n1+z*n2)):=by
 rw[h2,h3,h1];grind
def zMr(k:ao gr){a z r0 sm:Int}{fM Hs:List Int}{cx ex:Nat->Int}{Ss:Int}(hc:∀j,j<fM.length->fM.getD j 0=pg gr (cx j))(hH:∀j,j<Hs.length->Hs.getD j 0=pg gr (ex j))(h1:cb cx fM.length=Ss+cb ex Hs.length)(h2:r0%gr.Q=(a+z*sm)%gr.Q)(h3:sm%gr.Q=Ss%gr.Q):
 aP gr [av gr gr.G a,av gr (aP gr [aP gr fM,av gr (aP gr Hs) (-1)]) z]=av gr gr.G r0:=by
 obtain⟨n1,h2⟩:=ek h2;obtain⟨n2,h3⟩:=ek h3;rw[UY k hc,UY k hH,hZ k,gL k,hZ k,show av gr gr.G a=pg gr a from rfl,show av gr gr.G r0=pg gr r0 from rfl,gL k];exact AR _ (zE6 h1 h2 h3)
def zId{q b Sx Sc z r1 D SsU SeU Sr n1 n2 n3:Int}(h1:Sc=SsU+SeU)(h2:r1=b+z*D+q*n1)(h3:D=SsU+q*n2)(h4:Sr=Sx+z*SeU+q*n3):(b+Sx)+Sc*z=(r1+Sr)+q*(0-(n1+z*n2+n3)):=by
 rw[h2,h3,h1,h4];grind
def zMD(k:ao gr){b z r1 D SsU SeU:Int}{fM Hs e x xr:List Int}{cx ex:Nat->Int}(hc:∀j,j<fM.length->fM.getD j 0=pg gr (cx j))(hH:∀j,j<Hs.length->Hs.getD j 0=pg gr (ex j))(le:fM.length=e.length)(lx:Hs.length=x.length)(lr:Hs.length=xr.length)
(h1:cb (λj=>cx j*e.getD j 0) fM.length=SsU+SeU)(h2:r1%gr.Q=(b+z*D)%gr.Q)(h3:D%gr.Q=SsU%gr.Q)(h4:cb (λi=>ex i*xr.getD i 0) Hs.length%gr.Q=(cb (λi=>ex i*x.getD i 0) Hs.length+z*SeU)%gr.Q):
 aP gr [aP gr [av gr gr.G b,zaO gr Hs x 1],av gr (zaO gr fM e 1) z]=aP gr [av gr gr.G r1,zaO gr Hs xr 1]:=by
 obtain⟨n1,h2⟩:=ek h2;obtain⟨n2,h3⟩:=ek h3;obtain⟨n3,h4⟩:=ek h4;rw[tt k (l:=fM) (m:=e) le hc,tt k (l:=Hs) (m:=x) lx hH,tt k (l:=Hs) (m:=xr) lr hH,show av gr gr.G b=pg gr b from rfl,show av gr gr.G r1=pg gr r1 from rfl,hZ k,gL k,gL k,gL k];exact AR _ (zId h1 h2 h3 h4)
def zGX{q d gm eta al y z r2 n1 n2:Int}(h1:gm=y+eta*al+q*n1)(h2:r2=d+z*y+q*n2):d+(gm+eta*(0-al))*z=r2+q*(z*n1-n2):=by
 rw[h1,h2];grind
def zLn(k:ao gr){d z r2 gm eta al y h last:Int}(hh:h=pg gr eta)(hl:last=pg gr gm)(h1:gm%gr.Q=(y+eta*al)%gr.Q)(h2:r2%gr.Q=(d+z*y)%gr.Q):
 aP gr [av gr gr.G d,av gr (aP gr [last,av gr h (0-al)]) z]=av gr gr.G r2:=by
 obtain⟨n1,h1⟩:=ek h1;obtain⟨n2,h2⟩:=ek h2;rw[hh,hl,show av gr gr.G d=pg gr d from rfl,show av gr gr.G r2=pg gr r2 from rfl,hZ k,gL k,hZ k,gL k];exact AR _ (zGX h1 h2)
def zHU{q w gm x t own z Cr xr n1 n2:Int}(h1:Cr=w+z*t+q*n1)(h2:xr=x+z*own+q*n2):(w+gm*x)+(t+gm*own)*z=(Cr+gm*xr)+q*(0-(n1+gm*n2)):=by
 rw[h1,h2];grind
def zNJ(k:ao gr){w gm x t own z Cr xr c0 c1:Int}(h0:c0=pg gr gm)(h1:c1=pg gr (t+gm*own))(h2:Cr%gr.Q=(w+z*t)%gr.Q)(h3:xr%gr.Q=(x+z*own)%gr.Q):
 aP gr [aP gr [av gr gr.G w,av gr c0 x],av gr c1 z]=aP gr [av gr gr.G Cr,av gr c0 xr]:=by
 obtain⟨n1,h2⟩:=ek h2;obtain⟨n2,h3⟩:=ek h3;rw[h0,h1,show av gr gr.G w=pg gr w from rfl,show av gr gr.G Cr=pg gr Cr from rfl,hZ k,hZ k,hZ k,gL k,gL k,gL k];exact AR _ (zHU h2 h3)
end
section
variable {gr:am}{key:Int}{B:ct}{l:List an}{perm rs s t w x:List Int}{a b d f:Int}
variable{i:Nat}{z:Int}
def Dz{F:Nat->Int}{n:Nat}(hi:i<n):((List.range n).map F).getD i 0=F i:=kI F hi
def zIl{n:Nat}{e own:List Int}(hi:i<n):(uq gr z n e own rs s t w x a b d f).getD (4+i) 0=(w.getD i 0+z*t.getD i 0)%gr.Q:=by
 unfold uq;rw[sN (by simp;omega),tn (i:=4+i) (j:=i) rfl,Dz hi];rfl
def zHr{n:Nat}{e own:List Int}:(uq gr z n e own rs s t w x a b d f).drop (n+4)=(List.range n).map (rsF gr.Q z x own):=by
 unfold uq;exact OI (by simp)
def PD{h:Int}{es ts:List Int}(hi:i<es.length):(zcp gr h es ts).getD i 0=hN gr h es ts (i+1):=Dz hi
def zA8{h:Int}{es ts:List Int}(hi:i<=es.length):bef h (zcp gr h es ts) i=hN gr h es ts i:=by
 unfold bef;cases i with
 |zero=>rfl
 |succ i=>rw[tn (a:=[h]) (j:=i) (by simp;omega),PD (by omega)]
def zFJ(k:ao gr)(P:dP gr key B l perm rs s t w x a b d f)(z:Int):aP gr [av gr gr.G a,av gr (aP gr [aP gr (zez gr B.Hs perm s),av gr (aP gr B.Hs) (-1)]) z]=av gr gr.G ((a+z*smN gr.Q s l.length)%gr.Q):=by
 have hq:=k.q;have dL:=P.m.pl;have ME:=P.bs.l;have gR:=(P.fM k).1;obtain⟨cx,c1,c2⟩:=YO k (ss:=s) P.m.pb P.Lw (by omega) P.bs.s;have c3:=c2 (λ_=>1);simp only[Uu]at c3;refine zMr k (cx:=cx) (ex:=λi=>dl gr (B.Hs.getD i 0)) (Ss:=cb (λj=>s.getD j 0) perm.length) (λj hj=>c1 j (by omega)) (λj hj=>kf k (ey P.bs.s hj)) ?_ (eM _ _) ?_
 ·rw[gR,ME,<-dL];exact c3
 rw[<-dL];exact ZN (by omega) s _
def Tc(P:dP gr key B l perm rs s t w x a b d f)(hi:i<perm.length):((List.range l.length).map (rsF gr.Q z x (pmO gr key B l perm rs s))).getD i 0%gr.Q=(x.getD i 0+z*(pmE gr key B l perm rs s).getD (perm.getD i 0).toNat 0)%gr.Q:=by
 have dL:=P.m.pl;rw[Dz (by omega)];unfold rsF pmO;rw[eM,UW hi]
def zHu(k:ao gr)(P:dP gr key B l perm rs s t w x a b d f)(z:Int):aP gr [aP gr [av gr gr.G b,zaO gr B.Hs x 1],av gr (zaO gr (zez gr B.Hs perm s) (pmE gr key B l perm rs s) 1) z]=aP gr [av gr gr.G ((b+z*dtN gr.Q s (pmE gr key B l perm rs s) l.length)%gr.Q),zaO gr B.Hs ((List.range l.length).map (rsF gr.Q z x (pmO gr key B l perm rs s))) 1]:=by
 have hq:=k.q;have dL:=P.m.pl;have ME:=P.bs.l;have gR:=(P.fM k).1;have sk:=(P.e k).1;have g9:=P.c.x.1;obtain⟨cx,c1,c2⟩:=YO k (ss:=s) P.m.pb P.Lw (by omega) P.bs.s;have c3:=c2 (λj=>(pmE gr key B l perm rs s).getD j 0);refine zMD k (cx:=cx) (ex:=λi=>dl gr (B.Hs.getD i 0)) (D:=dtN gr.Q s (pmE gr key B l perm rs s) l.length) (λj hj=>c1 j (by omega)) (λj hj=>kf k (ey P.bs.s hj)) (by omega) (by omega) (by simp;omega) (SsU:=cb (λj=>s.getD j 0*(pmE gr key B l perm rs s).getD j 0) perm.length) (SeU:=cb (λi=>dl gr (B.Hs.getD i 0)*(pmE gr key B l perm rs s).getD (perm.getD i 0).toNat 0) perm.length) ?_ (eM _ _) ?_ ?_
 ·rw[gR,<-dL];exact c3
 ·rw[<-dL];exact Nh (by omega) _ _ _
 rw[ME,<-dL];exact zGr λi hi=>by rw[dL];exact Tc P hi
def zET(k:ao gr)(P:dP gr key B l perm rs s t w x a b d f)(z:Int):aP gr [av gr gr.G d,av gr (aP gr [(zcp gr B.H (pmO gr key B l perm rs s) t).getD (l.length-1) 0,av gr B.H (0-alN gr.Q (pmE gr key B l perm rs s) (pmE gr key B l perm rs s).length)]) z]=av gr gr.G ((d+z*yN gr.Q (pmO gr key B l perm rs s) t l.length)%gr.Q):=by
 have hn:=P.m.n;have dL:=P.m.pl;have sk:=(P.e k).1;have hol:=(P.o k).1;have hH:=kf k P.bs.h;have Cy:=zBN P.m.pb gr.Q (pmE gr key B l perm rs s);rw[PD (by omega),show l.length-1+1=l.length by omega,sk];refine zLn k hH (Nv k hH _ _ _) ?_ (eM _ _);have:=XM (q:=gr.Q) (dl gr B.H) (pmO gr key B l perm rs s) t l.length;rw[this];unfold pmO;rw[<-dL,Cy]
def ZW(k:ao gr)(P:dP gr key B l perm rs s t w x a b d f):dtN gr.Q rs (pmO gr key B l perm rs s) l.length%gr.Q=cb (λi=>rs.getD i 0*(pmE gr key B l perm rs s).getD (perm.getD i 0).toNat 0) perm.length%gr.Q:=by
 have hq:=k.q;rw[Nh (by omega),<-P.m.pl];refine gn (· %gr.Q) (CC _ λi hi=>?_);unfold pmO;rw[UW hi]
def ZC(k:ao gr)(P:dP gr key B l perm rs s t w x a b d f)(z:Int):
 aP gr [aP gr [av gr gr.G (i64.wrap (0-f)),zaO gr (sdV (zaR gr key l perm rs)).1 x 1],av gr (zaO gr (sdV l).1 (pmE gr key B l perm rs s) 1) z]=aP gr [av gr gr.G (i64.wrap (0-(f+z*dtN gr.Q rs (pmO gr key B l perm rs s) l.length)%gr.Q)),zaO gr (sdV (zaR gr key l perm rs)).1 ((List.range l.length).map (rsF gr.Q z x (pmO gr key B l perm rs s))) 1]/\
 aP gr [aP gr [av gr key (i64.wrap (0-f)),zaO gr (sdV (zaR gr key l perm rs)).2 x 1],av gr (zaO gr (sdV l).2 (pmE gr key B l perm rs s) 1) z]=aP gr [av gr key (i64.wrap (0-(f+z*dtN gr.Q rs (pmO gr key B l perm rs s) l.length)%gr.Q)),zaO gr (sdV (zaR gr key l perm rs)).2 ((List.range l.length).map (rsF gr.Q z x (pmO gr key B l perm rs s))) 1]:=by
 have hq:=k.q;have dL:=P.m.pl;have sk:=(P.e k).1;have g9:=P.c.x.1;have eY:=mJ l;have k7:=mJ (zaR gr key l perm rs);rw[kK]at k7;have hf:=Kl k P.c.f;have hF:i64.wrap (0-(f+z*dtN gr.Q rs (pmO gr key B l perm rs s) l.length)%gr.Q)=0-(f+z*dtN gr.Q rs (pmO gr key B l perm rs s) l.length)%gr.Q:=Kl k (f9 (by omega) _);refine⟨LR k (perm:=perm) (b0:=1) (Rw k).symm P.m.pb (by omega) k7.1 (by omega) (by omega) (by simp;omega) (al:=λj=>dl gr (l.getD j c0).A) (U:=λj=>(pmE gr key B l perm rs s).getD j 0) (o:=λi=>dl gr (l.getD (perm.getD i 0).toNat c0).A+1*rs.getD i 0) (rs:=λi=>rs.getD i 0) (λj hj=>?_) (λ_ _=>rfl) (λi hi=>(zH k P.m hi).1) (λ_ _=>rfl) (λi hi=>Tc P hi) (eM _ _) (ZW k P) hf hF,LR k (perm:=perm) (b0:=dl gr key) (kf k P.m.key) P.m.pb (by omega) k7.2 (by omega) (by omega) (by simp;omega) (al:=λj=>dl gr (l.getD j c0).B) (U:=λj=>(pmE gr key B l perm rs s).getD j 0) (o:=λi=>dl gr (l.getD (perm.getD i 0).toNat c0).B+dl gr key*rs.getD i 0) (rs:=λi=>rs.getD i 0) (λj hj=>?_) (λ_ _=>rfl) (λi hi=>(zH k P.m hi).2) (λ_ _=>rfl) (λi hi=>Tc P hi) (eM _ _) (ZW k P) hf hF⟩
 ·rw[(Ih (by omega)).1];exact kf k (JZ P.m.c (by omega)).1
 rw[(Ih (by omega)).2];exact kf k (JZ P.m.c (by omega)).2
def zFn(k:ao gr)(P:dP gr key B l perm rs s t w x a b d f)(z:Int)(hi:i<l.length):aP gr [zj5 gr B.H (pmO gr key B l perm rs s) t w x i,av gr ((zcp gr B.H (pmO gr key B l perm rs s) t).getD i 0) z]=aP gr [av gr gr.G ((w.getD i 0+z*t.getD i 0)%gr.Q),av gr (bef B.H (zcp gr B.H (pmO gr key B l perm rs s) t) i) (((List.range l.length).map (rsF gr.Q z x (pmO gr key B l perm rs s))).getD i 0)]:=by
 have hol:=(P.o k).1;have hH:=kf k P.bs.h;rw[PD (by omega),zA8 (by omega),Dz hi];exact zNJ k (Nv k hH _ _ _) (Nv k hH _ _ (i+1)) (eM _ _) (eM _ _)
def zDP(k:ao gr)(P:dP gr key B l perm rs s t w x a b d f):∀z∈pmC gr key B l perm rs s t w x a b d f,aK gr z=Z:=by
 have dL:=P.m.pl;have g9:=P.c.x.1;have ME:=P.bs.l;have kM:(zaR gr key l perm rs).length=l.length:=by rw[kK,P.m.pl]
 have eY:=mJ (zaR gr key l perm rs)
 have d1:aK gr (zaO gr (sdV (zaR gr key l perm rs)).1 x 1)=Z:=by
  rw[tt k (f:=λi=>dl gr (l.getD (perm.getD i 0).toNat c0).A+1*rs.getD i 0) (by omega) λi hi=>(zH k P.m (by omega)).1];exact EZ k _
 have d2:aK gr (zaO gr (sdV (zaR gr key l perm rs)).2 x 1)=Z:=by
  rw[tt k (f:=λi=>dl gr (l.getD (perm.getD i 0).toNat c0).B+dl gr key*rs.getD i 0) (by omega) λi hi=>(zH k P.m (by omega)).2];exact EZ k _
 have d3:aK gr (zaO gr B.Hs x 1)=Z:=by
  rw[tt k (f:=λi=>dl gr (B.Hs.getD i 0)) (by omega) λi hi=>kf k (ey P.bs.s hi)];exact EZ k _
 have g:=nH k;unfold pmC xv;refine jA (Yt (kx k g _) (qk k (kx k g _) d3) (kx k g _) (qk k (kx k g _) d1) (qk k (kx k P.m.key _) d2)) (nb λi hi=>?_);exact qk k (kx k g _) (kx k (Rh k P.bs.h _ _ _) _)
def zE7(k:ao gr)(P:dP gr key B l perm rs s t w x a b d f):oq gr l.length (j6 gr key B l perm rs s t w x a b d f)=Z:=by
 have hq:=k.q;have cL:0<gr.Q:=by omega
 have hr:∀(z:Int) (w t:List Int) (n:Nat),∀y∈(List.range n).map (rsF gr.Q z w t),E9 gr.Q y:=λz w t n=>nb λi _=>by unfold rsF;exact f9 cL _
 have h4:∀y∈(j6 gr key B l perm rs s t w x a b d f).Pi.aE,E9 gr.Q y:=by
  refine jA (jA (λy hy=>?_) (hr _ _ _ _)) (hr _ _ _ _);simp only[fK,jf,jg]at hy;rcases hy with rfl|rfl|rfl|rfl<;>exact f9 cL _
 simp only[oq,bI,eC];exact⟨(P.fM k).1,(P.mA k).1,(P.oX k).1,rfl,by simp[j6,uq];omega,bm.2 (P.fM k).2,bm.2 (P.mA k).2,bm.2 (zDP k P),Vj h4⟩
def zEN(k:ao gr)(P:dP gr key B l perm rs s t w x a b d f):tT gr key B l (zaR gr key l perm rs) (j6 gr key B l perm rs s t w x a b d f)=Z:=by
 have kM:(zaR gr key l perm rs).length=l.length:=by rw[kK,P.m.pl]
 have e1:wvE gr key l (zaR gr key l perm rs) (j6 gr key B l perm rs s t w x a b d f)=pmE gr key B l perm rs s:=rfl;have e2:wvZ gr key l (zaR gr key l perm rs) (j6 gr key B l perm rs s t w x a b d f)=pmZ gr key B l perm rs s t w x a b d f:=rfl;have e3:(j6 gr key B l perm rs s t w x a b d f).Pi.aV.getD 0 0=pmZ gr key B l perm rs s t w x a b d f:=rfl;unfold tT;rw[t5 kM,zE7 k P,e1,e2,e3,AaI,gV,gV,gV];have hr:(j6 gr key B l perm rs s t w x a b d f).Pi.aE=uq gr (pmZ gr key B l perm rs s t w x a b d f) l.length (pmE gr key B l perm rs s) (pmO gr key B l perm rs s) rs s t w x a b d f:=rfl;have CN:(j6 gr key B l perm rs s t w x a b d f).Pi.aC=xv gr key B.Hs (zaR gr key l perm rs) x a b d f++(List.range l.length).map (zj5 gr B.H (pmO gr key B l perm rs s) t w x):=rfl;unfold mF np;rw[hr,CN,zHr];generalize pmZ gr key B l perm rs s t w x a b d f=z;have gR:(j6 gr key B l perm rs s t w x a b d f).cq=zez gr B.Hs perm s:=rfl;have Bu:(j6 gr key B l perm rs s t w x a b d f).aF=zcp gr B.H (pmO gr key B l perm rs s) t:=rfl;rw[gR,Bu];refine bm.2 λi hi=>?_
 have hi:=kp.1 hi;unfold pJ hlB;rw[v9];rcases i with _|_|_|_|_|j
 ·exact zFJ k P z
 ·exact zHu k P z
 ·exact zET k P z
 ·exact(ZC k P z).1
 ·exact(ZC k P z).2
 have hj:j<l.length:=by omega
 rw[tn (i:=j+1+1+1+1+1) (j:=j) (by simp[xv];omega),tn (i:=j+1+1+1+1+1) (j:=j) (by simp[Jt];omega),tn (i:=j+1+1+1+1+1) (j:=j) (by simp[Dx];omega),Dz hj,Dz hj];unfold zjH;rw[zIl hj];exact zFn k P z hj
def zA6(k:ao gr)(P:dP gr key B l perm rs s t w x a b d f):F4 gr B key l (zaR gr key l perm rs) (j6 gr key B l perm rs s t w x a b d f)=J Z:=by
 rw[Xn k P.m.key P.m.n P.m.c (t8 k P.m) P.bs,zEN k P]
end
section
variable {gr:am}{key:Int}{l:List an}{perm rs:List Int}
def MH(m:m9 gr key l perm rs):fC gr key l=Z/\km gr l.length perm rs=Z:=A3.1 (Oj.2 m)
def Pu(k:ao gr)(m:m9 gr key l perm rs):(cX 1 12 (zaR gr key l perm rs).length&&(zaR gr key l perm rs).all (b7 gr))=Z:=by
 have hn:=m.n;rw[kK,m.pl,bI];exact⟨by simp[cX];omega,bm.2 (t8 k m)⟩
def zIh(k:ao gr){B:ct}(hB:kT gr (l.length:Int)=J (B,Z))(bs:th gr l.length B)(m:m9 gr key l perm rs){aH:List Int}(hl:aH.length=4*l.length+4)(he:aH.all (dq gr)=Z):∃p,pN gr key l perm rs aH=J (p,Z)/\tS gr key l (zaR gr key l perm rs) p=J (Z,Z):=by
 have hq:=k.q;have hp:=k.p;have hn:=m.n;obtain⟨h1,h2⟩:=MH m
 have w4:i64.wrap (i64.wrap (4*(l.length:Int))+4)=((4*l.length+4:Nat):Int):=by
  rw[aI (n:=4*(l.length:Int)) (by omega) (by omega)];exact cM (by omega) (by omega)
 have e3:((aH.length:Int) !=((4*l.length+4:Nat):Int))=aa:=by rw[hl];simp
 have qg:=w9 (gr:=gr) (by omega) (by omega) aH;rw[he]at qg;obtain⟨s,t,w,x,a,b,d,f,rfl,hC⟩:=Yu hl he;have P:dP gr key B l perm rs s t w x a b d f:=⟨m,bs,hC⟩
 refine⟨j6 gr key B l perm rs s t w x a b d f,?_,?_⟩
 ·unfold pN;rw[vu k key l hB,h1,zL k (by omega),show(decide (perm.length=l.length)&&d5 perm&&(decide (rs.length=l.length)&&rs.all (dq gr)))=km gr l.length perm rs from rfl,h2,w4,e3,qg];exact bE (ag rfl (ay (ψ:=(· =aa)) (bt rfl (ag rfl (bt rfl (bt rfl (ag rfl (aj rfl)))))) λb hb=>by subst hb;exact bt rfl (ag (zAp k P) (aj rfl))))
 unfold tS;rw[vu k key l hB,h1,yp k,Pu k m];exact bE (ag rfl (ay (ψ:=(· =aa)) (bt rfl (ag rfl (aj rfl))) λb hb=>by subst hb;exact bt rfl (ag (zA6 k P) (aj rfl))))
def zFT(k:ao gr)(hd:okD gr=Z)(m:m9 gr key l perm rs){aH:List Int}(hl:aH.length=8*l.length+2)(he:aH.all (dq gr)=Z):∃p,rM gr key l perm rs aH=J (p,Z)/\tR gr key l (zaR gr key l perm rs) p=J (Z,Z):=by
 have hq:=k.q;have hp:=k.p;have hn:=m.n;obtain⟨h1,h2⟩:=MH m;obtain⟨B,b1,b2,b3,b4⟩:=BU k hd key (l:=l) (by omega)
 have w8:i64.wrap (i64.wrap (8*(l.length:Int))+2)=((8*l.length+2:Nat):Int):=by
  rw[aI (n:=8*(l.length:Int)) (by omega) (by omega)];exact cM (by omega) (by omega)
 have e3:((aH.length:Int) !=((8*l.length+2:Nat):Int))=aa:=by rw[hl];simp
 have qg:=w9 (gr:=gr) (by omega) (by omega) aH;rw[he]at qg;obtain⟨C,rfl,hC⟩:=XR (q:=gr.Q) hl (As he);have P:gT gr key B.H l perm rs C:=⟨m,b3,hC⟩
 refine⟨i9 gr key B.H l perm rs C,?_,?_⟩
 ·unfold rM;rw[b4,h1,zL k (by omega),show(decide (perm.length=l.length)&&d5 perm&&(decide (rs.length=l.length)&&rs.all (dq gr)))=km gr l.length perm rs from rfl,h2,w8,e3,qg];exact bE (ag rfl (ay (ψ:=(· =aa)) (bt rfl (ag rfl (bt rfl (bt rfl (ag rfl (aj rfl)))))) λb hb=>by subst hb;exact bt rfl (ag (W6 k P) (aj rfl))))
 unfold tR;rw[b4,h1,yp k,Pu k m];exact bE (ag rfl (ay (ψ:=(· =aa)) (bt rfl (ag rfl (aj rfl))) λb hb=>by subst hb;exact bt rfl (ag (zBW k P) (aj rfl))))
end
def jb(l:List an):List Int:=(l.length:Int)::l.flatMap λc=>[c.A,c.B]
def fS(L:List (List Int)):List Int:=(L.length:Int)::L.flatMap db
def zAG(l:List an):(l.flatMap λc=>[c.A,c.B]).length=2*l.length:=by
 induction l with
 |nil=>rfl
 |cons e l ih=>show([e.A,e.B]++l.flatMap λc=>[c.A,c.B]).length=_;rw[bP,ih];simp;omega
def zBh(l:List an):(jb l).length=2*l.length+1:=by unfold jb;rw[dX,zAG]
def PW(L:List (List Int))(i:Nat):((L.take i).flatMap db).length<=(L.flatMap db).length:=by
 have h:(L.take i).flatMap db++(L.drop i).flatMap db=L.flatMap db:=by rw[<-KH,De]
 rw[<-h,bP];omega
def XD{L:List (List Int)}{i:Nat}(hi:i<L.length):L[i].length+1<=(L.flatMap db).length:=by
 have h:=PW L (i+1);rw[iO hi,KH,bP]at h;have e:([L[i]].flatMap db).length=L[i].length+1:=by simp[db]
 omega
def zB2{L:List (List Int)}(h:(fS L).length<=400)(hd:(fS L).all cC=Z):Ao L=J (fS L,Z):=by
 have hn:(L.flatMap db).length+1<=400:=by simpa[fS]using h
 unfold Ao
 have e:aS (σ:=(List Int)) (β:=(List Int) ⊕ (List Int×Bool)) (λi5 s4=>(ix L i5).bind λaU=>(yd aU).bind λbH=>
  gd ((s4.length+bH.length)*8<=140737488355328/\s4.length+bH.length<=4611686018427387904)<|
  if decide (400<((s4++bH).length:Int))=Z then(J (.out (.inr ([],aa))))else(J (.go (s4++bH)))) (λs4=>.inl s4) (L.length) 0 [(L.length:Int)]=J (.inl (fS L)):=by
  refine bE (d9 (λi s=>s=(L.length:Int)::(L.take i).flatMap db/\i<=L.length) ⟨rfl,by omega⟩ ?_ λs h=>by rw[h.1,f6];rfl);rintro i s hi ⟨rfl,_⟩;have h1:=PW L (i+1);have h2:=XD hi
  have e1:(L.length:Int)::(L.take i).flatMap db++db L[i]=(L.length:Int)::(L.take (i+1)).flatMap db:=by
   rw[iO hi,KH];simp
  have e2:=gn List.length e1;rw[bP,dX,dX]at e2;refine bD hi (ag (HY (by omega)) (aG (by rw[dX];omega) (bt ?_ (aj ⟨e1,by omega⟩))));rw[bP,dX];exact Dd (by omega)
 have hr:eO (fS L)=Z:=by unfold eO;rw[hd,t5 (by omega)];rfl
 have AaW:AE (fS L)=J (fS L,Z):=by rw[NP,aB hr]
 rw[e,aR,Sum.elim_inl,AaW,aR]
def zBo(p:bZ):(iB p).length=p.aC.length+p.aV.length+p.aE.length+3:=by simp[iB,db];omega
def JD(p:bZ):Bool:=((p.aC.length:Int)==0)&&(((p.aV.length:Int)==0)&&((p.aE.length:Int)==0))
section
variable {gr:am}
def Xw(p:bZ):Fx p=J (JD p):=by
 unfold Fx;rw[Sh,Sh];rfl
def zvb{p:bZ}(h1:p.aC.length<=1048576)(h2:p.aV.length<=1048576)(h3:p.aE.length<=1048576):EO p=J (JD p):=by
 unfold EO JD;rw[aI (n:=(p.aC.length:Int)+(p.aV.length:Int)) (by omega) (by omega),aI (n:=(p.aC.length:Int)+(p.aV.length:Int)+(p.aE.length:Int)) (by omega) (by omega)];congr 1;rw[UC];simp only[bI,v9];omega
end
variable{L:List (List Int)}
def D5(a:Int)(R:List Int)(b:Bool):uG (a::R) b=J (a,(R,b)):=by
 unfold uG;rw[az (by simp;omega)];refine bE (ag (a:=a) rfl (aG (by simp) (aj ?_)));rw[f6];rfl
def Lq{p R:List Int}(hp:p.length<=1000)(hR:R.length<=1000):sR (db p++R) Z=J (p,(R,Z)):=by
 unfold sR;have e:db p++R=(p.length:Int)::(p++R):=rfl;rw[e,D5,aR,tX];have hl:(p++R).length=p.length+R.length:=bP;have h1:(decide (0<=(p.length:Int))&&decide ((p.length:Int)<=((p++R).length:Int)))=Z:=by simp;omega
 dsimp only;rw[h1];refine bE (ag rfl (bt rfl (aG (by omega) (aG (by rw[dG];omega) (ag (a:=p) ?_ (aG (by omega) (aG (by rw[dG];omega) (aj ?_))))))))
 ·unfold uh;rw[dG,OA,List.take_left,eK (by omega)]
 rw[dG,f6,Ot]
theorem zzY:zP [] Z=J Z:=rfl
def zF5{l:List Int}(h:l.length<=400)(hd:l.all cC=Z):eO l=Z:=by unfold eO;rw[hd,t5 (by omega)];rfl
def zC6(h:(fS L).length<=400)(hd:(fS L).all cC=Z):Az (fS L)=J (L,Z):=by
 have hn:(L.flatMap db).length+1<=400:=by simpa[fS]using h
 have hlen:L.length<=(L.flatMap db).length:=by
  clear h hd hn;induction L with
  |nil=>simp
  |cons p L ih=>rw[Dc,bP,dX];show L.length+1<=(p.length+1)+(L.flatMap db).length;omega
 unfold Az;rw[Hm,zF5 h hd,aR];have e:fS L=(L.length:Int)::L.flatMap db:=rfl
 have Pk:(if((fS L).length:Int)<(L.length:Int)then((fS L).length:Int)else(L.length:Int))=(L.length:Int):=by
  rw[az (by rw[e,dX];omega)]
 have hw:dI (σ:=(List Int×Bool)×(List (List Int))×Int) (λdy=>
  if decide (dy.2.2<(L.length:Int))=Z then(
  (sR dy.1.1 dy.1.2).bind λiQ=>
  gd ((dy.2.1.length+1)*24<=140737488355328/\dy.2.1.length+1<=4611686018427387904)<|
  J (.go ((iQ.2.1,iQ.2.2),dy.2.1++[iQ.1],i64.wrap (dy.2.2+1))))else(
  J (.out ((dy.1.1,dy.1.2),dy.2.1)))) ((L.flatMap db,Z),[],0)=J (([],Z),L):=by
  refine bE (kv L.length (λi s=>s=(((L.drop i).flatMap db,Z),L.take i,(i:Int))/\i<=L.length) ⟨rfl,by omega⟩ ?_ ?_)
  ·rintro i s hi ⟨rfl,_⟩;have kG:(L.drop i).flatMap db=db L[i]++(L.drop (i+1)).flatMap db:=by rw[Ox hi,Dc]
   have cV:((L.drop i).flatMap db).length<=(L.flatMap db).length:=by
    have h:(L.take i).flatMap db++(L.drop i).flatMap db=L.flatMap db:=by rw[<-KH,De]
    rw[<-h,bP];omega
   rw[kG,bP]at cV;have s8:=XD hi;refine fY (by simpa using hi) (ag (a:=(L[i],((L.drop (i+1)).flatMap db,Z))) (by dsimp only;rw[kG];exact Lq (by omega) (by omega)) (aG (by rw[nu];omega) (aj ⟨?_,by omega⟩)));dsimp only;rw[iO hi,aI (n:=(i:Int)+1) (by omega) (by omega)];rfl
  ·rintro s ⟨rfl,_⟩;refine bt (by simp) (aj ?_);show((((L.drop L.length).flatMap db,Z),L.take L.length):(List Int×Bool)×List (List Int))=_;rw[List.drop_length,f6];rfl
 refine bE (ag (a:=((L.length:Int),(L.flatMap db,Z))) (by rw[e];exact D5 _ _ _) (ag (a:=(([],Z),L)) (by rw[Pk];exact hw) (ag (zB2 h hd) (ay (ψ:=(· =aa)) (ag zzY (bt rfl (bt rfl (ag (I5 _ _) (aj (by simp)))))) ?_))));rintro _ rfl;exact bt rfl (aj rfl)
def zFw(l:List an):IV l l=J Z:=by
 unfold IV;refine bE (bt (by simp) (ay (ψ:=λv=>v=.inl ()) (d9 (λ_ _=>True) trivial ?_ λs _=>rfl) ?_))
 ·rintro i s hi _;exact bD hi (bD hi (bt (by simp) (aj trivial)))
 rintro _ rfl;exact aj rfl
def Cd{l:List Int}:eO l=Z↔l.length<=400/\l.all cC=Z:=by
 unfold eO;rw[bI,eC];constructor<;>rintro⟨a,b⟩<;>exact⟨by omega,b⟩
def zBf(p:bZ):iB p=db p.aC++(db p.aV++(db p.aE++[])):=by simp[iB]
def YV(h1:L.length<=1048576)(h2:∀p∈L,p.length<=1048576):Ao L=J (if eO (fS L)=Z then(fS L,Z)else([],aa)):=by
 unfold Ao;refine bE (ay (ψ:=λc=>c=.inl (fS L)\/(c=.inr ([],aa)/\eO (fS L)=aa)) (d9 (λi s=>s=(L.length:Int)::(L.take i).flatMap db/\(s.length<=400)) ⟨rfl,by simp⟩ ?_ λs h=>.inl (by rw[h.1,f6];rfl)) ?_)
 ·rintro i s hi ⟨rfl,hs⟩;have hx:=h2 _ (e9 hi)
  have e1:(L.length:Int)::(L.take i).flatMap db++db L[i]=(L.length:Int)::(L.take (i+1)).flatMap db:=by
   rw[iO hi,KH];simp
  have hc:(db L[i]).length=L[i].length+1:=rfl;refine bD hi (ag (HY (by omega)) (aG (by rw[hc];omega) ?_));rw[e1];refine aZ (λh=>aj (.inr ⟨rfl,?_⟩)) λh=>aj ⟨rfl,by have:=Us h;omega⟩
  have hg:=we h;have:=PW L (i+1);cases hr:eO (fS L)with
  |false=>rfl
  |true=>
   have:=(Cd.1 hr).1;unfold fS at this;rw[dX]at this hg;omega
 rintro c (rfl|⟨rfl,hr⟩)
 ·rw[Sum.elim_inl,NP,aR];exact aj (by split<;>rfl)
 exact aj (by rw[hr];rfl)
def YY(R:List Int)(b:Bool):Rn (uG R b) λy=>y.2.1.length<=R.length:=by
 cases R with
 |nil=>exact⟨_,rfl,by simp⟩
 |cons a R=>exact⟨_,D5 a R b,by simp⟩
def zEQ{R:List Int}(h:R.length<=1048576)(b:Bool):Rn (sR R b) λy=>y.1.length<=R.length/\y.2.1.length<=R.length:=by
 unfold sR;refine ay (YY R b) λy hy=>ag (tX _ _ _) (aZ (λ_=>aj ⟨by simp,hy⟩) λh2=>?_)
 have h2:0<=y.1/\y.1<=(y.2.1.length:Int):=by simpa using h2
 have hl:((y.2.1.take y.1.toNat).drop 0).length<=R.length:=by rw[OA,nu];omega
 refine aG h2.1 (aG (by omega) (ag (zBs (by omega)) (aG h2.1 (aG (by omega) (aj ⟨hl,?_⟩)))));dsimp only;rw[OC,nu];omega
def ZM(R:List Int)(b:Bool):zP R b=J (b&&((R.length:Int)==0)):=by
 unfold zP;cases b<;>rfl
def zH7{l:List Int}(hl:l.length<=1048576):Rn (Az l) λy=>y.2=Z->eO l=Z/\l=fS y.1:=by
 unfold Az;refine ag (Hm l) (ay (YY l _) λz hz=>?_);obtain⟨M,hM⟩:∃M:Int,M=if(l.length:Int)<z.1 then(l.length:Int)else z.1:=⟨_,rfl⟩
 rw[<-hM];have hM2:M<=l.length:=by rw[hM];split<;>omega
 refine ay (ψ:=λc=>c.2.length<=1048576/\∀p∈c.2,p.length<=1048576) (kv M.toNat (λi s=>s.2.2=(i:Int)/\s.2.1.length=i/\s.1.1.length<=1048576/\∀p∈s.2.1,p.length<=1048576) ⟨rfl,rfl,by dsimp only;omega,λp h=>by cases h⟩ ?_ ?_) ?_
 ·rintro i ⟨⟨R,b⟩,o,k⟩ hi ⟨e1,h2,h3,h4⟩;have e1:k=(i:Int):=e1;subst e1;have h2:o.length=i:=h2;refine fY (t5 (by dsimp only;omega)) (ay (zEQ h3 b) λy hy=>aG (by dsimp only;omega) (aj ⟨?_,?_,gj hy.2 h3,λp hp=>?_⟩))
  ·show i64.wrap ((i:Int)+1)=_;rw[aI (by omega) (by omega)];rfl
  ·show(o++[y.1]).length=i+1;rw[bP,h2];rfl
  rcases jY.1 hp with h|h
  ·exact h4 p h
  rw[gB.1 h];exact gj hy.1 h3
 ·rintro⟨⟨R,b⟩,o,k⟩ ⟨e1,h2,h3,h4⟩;have e1:k=(M.toNat:Int):=e1;subst e1;have h2:o.length=M.toNat:=h2;exact bt (Dd (by dsimp only;omega)) (aj ⟨by dsimp only;omega,h4⟩)
 rintro c ⟨c1,c2⟩;refine ag (YV c1 c2) (ay (ψ:=λb=>b=aa->eO (fS c.2)=Z/\fS c.2=l) (ag (ZM _ _) (aZ (λ_=>aj (by simp)) λ_=>aZ (λ_=>aj (by simp)) λh2=>ag (I5 _ _) (aj λe=>?_))) ?_)
 ·cases hr:eO (fS c.2)with
  |false=>rw[hr]at h2;cases h2
  |true=>
   rw[hr]at e;exact⟨rfl,by simpa using e⟩
 intro b hb;refine aZ (λh=>aj (by simp)) λh=>aj λ_=>?_
 obtain⟨h1,h2⟩:=hb h;rw[<-h2];exact⟨h1,rfl⟩
def Wl{l:List an}(hl:l.length<=1048576):D0 l=J (if eO (jb l)=Z then(jb l,Z)else([],aa)):=by
 unfold D0;refine bE (ay (ψ:=(· =jb l)) (d9 (λi s=>s=(l.length:Int)::((l.take i).flatMap λc=>[c.A,c.B])) rfl ?_ λs h=>by rw[h,f6];rfl) ?_)
 ·rintro i s hi rfl;have hn:=zAG (l.take i);rw[nu]at hn;refine bD hi (aG (by rw[dX];omega) (aj ?_));show(l.length:Int)::_++_=(l.length:Int)::_;rw[iO hi,KH];rfl
 rintro _ rfl;exact ag (NP _) (aj (by cases eO (jb l)<;>rfl))
def zDL{l:List an}(h:eO (jb l)=Z):ID (jb l)=J (l,Z):=by
 have hn:=zBh l;have hl:=(Cd.1 h).1;have e:jb l=(l.length:Int)::l.flatMap (λc=>[c.A,c.B]):=rfl;have Pk:(if((jb l).length:Int)<(l.length:Int)then((jb l).length:Int)else(l.length:Int))=(l.length:Int):=az (by omega);unfold ID;refine bE (ag (Hm _) (ag (a:=((l.length:Int),(l.flatMap (λc=>[c.A,c.B]),Z))) (by rw[h,e];exact D5 _ _ _) ?_));dsimp only;rw[Pk];refine ay (ψ:=(· =(([],Z),l))) (kv l.length (λi s=>s=(((l.drop i).flatMap (λc=>[c.A,c.B]),Z),l.take i,(i:Int))/\i<=l.length) ⟨rfl,by omega⟩ ?_ ?_) ?_
 ·rintro i s hi ⟨rfl,_⟩;have kG:(l.drop i).flatMap (λc=>[c.A,c.B])=l[i].A::l[i].B::(l.drop (i+1)).flatMap (λc=>[c.A,c.B]):=by rw[Ox hi,Dc];rfl
  refine fY (by simpa using hi) (ag (a:=(l[i].A,(l[i].B::(l.drop (i+1)).flatMap (λc=>[c.A,c.B]),Z))) (by dsimp only;rw[kG];exact D5 _ _ _) (ag (D5 _ _ _) (aG (by rw[nu];omega) (aj ⟨?_,by omega⟩))));dsimp only;rw[iO hi,aI (n:=(i:Int)+1) (by omega) (by omega)];rfl
 ·rintro s ⟨rfl,_⟩;refine bt (by simp) (aj ?_);show((((l.drop l.length).flatMap (λc=>[c.A,c.B]),Z),l.take l.length):(List Int×Bool)×List an)=_;rw[List.drop_length,f6];rfl
 rintro _ rfl;refine ag (Wl (l:=l) (by omega)) (ay (ψ:=(· =aa)) (ag (ZM _ _) (bt rfl (bt (by rw[h];rfl) (ag (I5 _ _) (aj (by simp[h])))))) ?_);rintro _ rfl;exact bt rfl (aj rfl)
def zDN{p:bZ}(h:eO (iB p)=Z):JO (iB p)=J (p,Z):=by
 have hl:=(Cd.1 h).1;have he:=zBo p;have h3:∀q:List Int,(db q).length=q.length+1:=λq=>rfl
 unfold JO;refine bE (ag (Hm _) ?_);rw[h,zBf];exact ag (Lq (by omega) (by rw[bP,bP,h3,h3];simp;omega)) (ag (Lq (by omega) (by rw[bP,h3];simp;omega)) (ag (Lq (by omega) (by simp)) (ag zzY (bt rfl (aj rfl)))))
def zDI(h:eO (fS L)=Z):Az (fS L)=J (L,Z):=zC6 (Cd.1 h).1 (Cd.1 h).2
theorem Lv:((1:Int)==1)=Z:=rfl
theorem fP:((2:Int)==2)=Z:=rfl
def mj:¬((2:Int)==1)=Z:=by simp
abbrev ni:d8:=⟨0,[],⟨[],[],⟨[],[],[]⟩⟩,⟨[],[],[],⟨[],[],[]⟩⟩⟩
def zB5(l:List Int):GM l=J (decide (l.length<=24)&&d5 l):=by
 unfold GM;by_cases h:l.length<=24
 ·have h2:decide ((l.length:Int)<=24)=Z:=by simp;omega
  rw[h2,aB rfl,aI (n:=(l.length:Int)-1) (by omega) (by omega),Pa,zAP (by omega)];unfold d5;show Option.bind (Option.bind (J (l.all (cX 0 ((l.length:Int)-1)))) _) _=_;cases l.all (cX 0 ((l.length:Int)-1))<;>simp[h]
 have h2:decide ((l.length:Int)<=24)=aa:=by simp;omega
 simp[h2,h]
def mq(arg:Int)(n:Nat):Nat:=if arg=1 then 5*n+4 else 9*n+2
def kA(arg:Int):Bool:=arg==1||arg==2
def JI(a:Int):Eb a=J (kA a):=by
 unfold Eb kA;cases a==1<;>rfl
def zHT(a:Int){n:Nat}(hn:n<=100):Kq a (n:Int)=J ((mq a n:Nat):Int):=by
 unfold Kq mq;by_cases h:a=1
 ·subst h;rw[aB Lv,aB rfl,aI (n:=5*(n:Int)) (by omega) (by omega),aI (by omega) (by omega)];congr 1
 rw[az (by simpa using h),az h,aI (n:=9*(n:Int)) (by omega) (by omega),aI (by omega) (by omega)];congr 1
def OV(a:Int){n:Nat}(hn:n<=100):Dq a (n:Int)=J (if(cX 1 12 n&&kA a)=Z then(((mq a n:Nat):Int),Z)else(0,aa)):=by
 unfold Dq;rw[rE,aR];show(if(!cX 1 12 (n:Int))=Z then _ else _)=_;cases cX 1 12 (n:Int)with
 |false=>rfl
 |true=>
  rw[wc,az (by simp),gV];unfold kA mq;by_cases h:a=1
  ·subst h;rw[aB Lv,aB (show((1:Int)==1||(1:Int)==2)=Z from rfl),aB rfl,aI (n:=5*(n:Int)) (by omega) (by omega),aI (by omega) (by omega)];congr 2
  ·by_cases h2:a=2
   ·subst h2;rw[az mj,aB fP,aB (show((2:Int)==1||(2:Int)==2)=Z from rfl),az h,aI (n:=9*(n:Int)) (by omega) (by omega),aI (by omega) (by omega)];congr 2
   ·rw[az (by simpa using h),az (by simpa using h2),az (by simp[h,h2])]
structure PG (gr:am) (key:Int) (l:List an) (arg:Int) (s:d8):Prop where
 xk:ao gr
 xn:1<=l.length/\l.length<=12
 mb:fC gr key l=Z
 xo:∃perm rs,m9 gr key l perm rs/\s.Out=zaR gr key l perm rs
 xa:s.dF=arg
 xm:arg=1->s.Poly=ut/\tS gr key l s.Out s.br=J (Z,Z)
 xp:arg=2->s.br=rN/\tR gr key l s.Out s.Poly=J (Z,Z)
 ar:kA arg=Z
 ln:s.br.cq.length<=1000/\s.br.aF.length<=1000/\lp 1000 s.br.Pi/\s.Poly.bQ.length<=1000/\s.Poly.bK.length<=1000/\s.Poly.aF.length<=1000/\lp 1000 s.Poly.Pi
section
variable {gr:am}{key:Int}{l:List an}{perm rs:List Int}
def zGx(k:ao gr){B:ct}(hB:kT gr (l.length:Int)=J (B,Z))(m:m9 gr key l perm rs){aH:List Int}(hl:aH.length=4*l.length+4)(he:aH.all (dq gr)=aa):pN gr key l perm rs aH=J (rN,aa):=by
 have hq:=k.q;have hp:=k.p;have hn:=m.n;obtain⟨h1,h2⟩:=MH m
 have w4:i64.wrap (i64.wrap (4*(l.length:Int))+4)=((4*l.length+4:Nat):Int):=by
  rw[aI (n:=4*(l.length:Int)) (by omega) (by omega)];exact cM (by omega) (by omega)
 have e3:((aH.length:Int) !=((4*l.length+4:Nat):Int))=aa:=by rw[hl];simp
 have qg:=w9 (gr:=gr) (by omega) (by omega) aH;rw[he]at qg;unfold pN;rw[vu k key l hB,h1,zL k (by omega),show(decide (perm.length=l.length)&&d5 perm&&(decide (rs.length=l.length)&&rs.all (dq gr)))=km gr l.length perm rs from rfl,h2,w4,e3,qg];exact bE (ag rfl (ay (ψ:=(· =Z)) (bt rfl (ag rfl (bt rfl (bt rfl (ag rfl (aj rfl)))))) λb hb=>by subst hb;exact fY rfl (aj rfl)))
def zEw(k:ao gr)(hd:okD gr=Z)(m:m9 gr key l perm rs){aH:List Int}(hl:aH.length=8*l.length+2)(he:aH.all (dq gr)=aa):rM gr key l perm rs aH=J (ut,aa):=by
 have hq:=k.q;have hp:=k.p;have hn:=m.n;obtain⟨h1,h2⟩:=MH m;obtain⟨B,b1,b2,b3,b4⟩:=BU k hd key (l:=l) (by omega)
 have w8:i64.wrap (i64.wrap (8*(l.length:Int))+2)=((8*l.length+2:Nat):Int):=by
  rw[aI (n:=8*(l.length:Int)) (by omega) (by omega)];exact cM (by omega) (by omega)
 have e3:((aH.length:Int) !=((8*l.length+2:Nat):Int))=aa:=by rw[hl];simp
 have qg:=w9 (gr:=gr) (by omega) (by omega) aH;rw[he]at qg;unfold rM;rw[b4,h1,zL k (by omega),show(decide (perm.length=l.length)&&d5 perm&&(decide (rs.length=l.length)&&rs.all (dq gr)))=km gr l.length perm rs from rfl,h2,w8,e3,qg];exact bE (ag rfl (ay (ψ:=(· =Z)) (bt rfl (ag rfl (bt rfl (bt rfl (ag rfl (aj rfl)))))) λb hb=>by subst hb;exact fY rfl (aj rfl)))
end
def Sz{l:List Int}(n:Nat):(l.take n).drop 0=l.take n:=by rw[OA]
end Go.Pm
