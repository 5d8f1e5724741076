/-
  FnStages: plain laws.
  No condition.
-/
import Derived.Test.YtnojafnlicbhpaaGreatY41
open Bool renaming false→aa,true→Z
open Option renaming some→J
set_option linter.defProp false
namespace Go.Pm
open Go.Am IntKind
def Mc:=@List.flatMap_append
def a5H:=@Classical.choose_spec
set_option linter.unusedVariables false
set_option linter.unusedSimpArgs false
section
attribute [local irreducible] chG ziC zdX zaQ alN sdV wvL wvE wvZ
section
variable {gr:an}{key:Int}{B:cA}{l out:List aq}{p:cM}
def zBz(k:ap gr){h:Int}(hh:aM gr h=Z){ch x r l5 r5:List Int}{n:Nat}(CA:ch.length=n/\∀z∈ch,aM gr z=Z)(hx:x.length=n)(hr:r.length=2*n+4)(hn:n<=100)(h5:l5.length=5)(h6:r5.length=5):aU (σ:=(List Int)×List Int×Int) (λxz ij=>
 (ix ch xz).bind λxB=>
 gd ((ij.1.length+1)*8<=140737488355328/\ij.1.length+1<=4611686018427387904)<|
 (ix r (i64.wrap (4+xz))).bind λMm=>
 (ix x xz).bind λql=>
 (cH gr gr.G Mm).bind λCa=>
 (cH gr ij.2.2 ql).bind λCg=>
 (ej gr [Ca,Cg]).bind λoh=>
 gd ((ij.2.1.length+1)*8<=140737488355328/\ij.2.1.length+1<=4611686018427387904)<|
 J (.go (ij.1++[xB],ij.2.1++[oh],xB))) (λij=>(ij.1,ij.2.1)) ch.length 0 (l5,r5,h)=J (l5++ch,r5++(List.range n).map (zjy gr h ch x r)):=by
 refine bH (eo (λi y=>y=(l5++ch.take i,r5++(List.range i).map (zjy gr h ch x r),bef h ch i)) (by simp[bef]) ?_ ?_)
 ·rintro i y hi rfl;have h4:4+i<r.length:=by omega
  have CT:i<x.length:=by omega
  have hb:=(Fl k hh CA.2 i (by omega)).2;refine bG hi (aI (by simp;omega) ?_);rw[show i64.wrap (4+(i:Int))=((4+i:Nat):Int)from cT (by omega) (by omega)];refine bG h4 (bG CT (ag (fo k (fU k) _) (ag (fo k hb _) (ag (iV k (bL k _ _) (bL k _ _)) (aI (by simp;omega) (am ?_))))));show _=_
  have hbe:bef h ch (i+1)=ch[i]:=by
   have:i+1<([h]++ch).length:=by simp;omega
   unfold bef;rw[bZ this];rfl
  rw[jd hi,nc,mz,hbe];simp only[jT,qI,zjy,bZ h4,bZ CT,ie]
 rintro y rfl;rw[gw,CA.1]
def Z8{P:Int->Prop}{a b c d e:Int}(h1:P a)(h2:P b)(h3:P c)(h4:P d)(h5:P e):∀x∈[a,b,c,d,e],P x:=by
 intro x hx;simp only[f6,jy,jz]at hx;rcases hx with rfl|rfl|rfl|rfl|rfl<;>assumption
set_option maxHeartbeats 4000000 in
def zHl(k:ap gr)(hk:aM gr key=Z)(hn:1<=l.length/\l.length<=12)(lc:∀c∈l,ce gr c=Z)(oc:∀c∈out,ce gr c=Z)(hb:sD gr l.length B):IV gr key B l out p=J (tH gr key B l out p):=by
 have hp:=k.p;have hq:=k.q;unfold IV;refine bH (az (ψ:=(· = !(decide (out.length=l.length)&&(o7 gr l.length p&&(p.Pi.aW.getD 0 0==wvZ gr key l out p))))) ?_ ?_)
 ·rw[show((out.length:Int) !=(l.length:Int))= !decide (out.length=l.length)by rw[bne,iS]];refine aZ (λg=>am ?_) λg=>ag (zFI k (by omega) p) (aZ (λg2=>am ?_) λg2=>?_)
  ·have:decide (out.length=l.length)=aa:=by simpa using g
   rw[this];rfl
  ·have g3:decide (out.length=l.length)=Z:=by simpa using g
   have g4:o7 gr l.length p=aa:=by simpa using g2
   rw[g3,g4];rfl
  have g3:decide (out.length=l.length)=Z:=by simpa using g
  have g4:o7 gr l.length p=Z:=by simpa using g2
  have V:=QV (p:=p) hk hn lc oc hb (xM g3) g4;have kJ:0<p.Pi.aW.length:=by rw[V.cS];omega
  exact bG (k:=0) kJ (ag (V.a19 k) (am (by rw[g3,g4,bZ kJ];rfl)))
 rintro b rfl;refine aZ (λg=>am ?_) λg=>?_
 ·rw[qK]at g;unfold tH;rw[<-Mb (o7 gr l.length p),<-Mb,g];rfl
 rw[Bool.not_eq_false']at g;obtain⟨g1,g23⟩:=B3.1 g;obtain⟨g2,g3⟩:=B3.1 g23;have V:=QV (p:=p) hk hn lc oc hb (xM g1) g2;have hv:tH gr key B l out p=(List.range (5+l.length)).all (qd gr (wvZ gr key l out p) p.Pi.aE (mR gr B l (wvE gr key l out p) p) (nu gr key B l.length out p)):=by unfold tH;rw[g1,g2,g3];rfl
 rw[hv];obtain⟨sM,zJ⟩:=V.e k;have kJ:0<p.Pi.aW.length:=by rw[V.cS];omega
 have hz:p.Pi.aW[0]=wvZ gr key l out p:=by
  have:=eq_of_beq g3
  rwa [bZ kJ]at this
 have w4:i64.wrap ((l.length:Int)+4)=((l.length+4:Nat):Int):=cT (by omega) (by omega);have w1:i64.wrap ((l.length:Int)-1)=((l.length-1:Nat):Int):=cT (by omega) (by omega);have A9:(p.Pi.aG.take p.Pi.aG.length).drop (l.length+4)=p.Pi.aG.drop (l.length+4):=by rw[gw]
 have fF:=V.Zp.1;have iv:(p.Pi.aG.drop (l.length+4)).length=l.length:=by rw[Qm,fF];omega
 have CE:=Ou (show 1<gr.Q by omega) (wvE gr key l out p) (wvE gr key l out p).length;have wal:i64.wrap (0-alN gr.Q (wvE gr key l out p) (wvE gr key l out p).length)=0-alN gr.Q (wvE gr key l out p) (wvE gr key l out p).length:=aK (by have:=CE.1;have:=CE.2;omega) (by have:=CE.1;omega);rw[w4,w1,dL,A9];have fk:=r7 k lc;have lO:=r7 k oc;have sI:=m8 l;have hol:=m8 out;rw[V.ol]at hol;have hH:=d4 k hb.h;have hK:=d4 k hk;have CU:=Fa k hb.s;have D0:=Fa k V.f8.2;have Rv:=hb.l;have gX:=V.f8.1;have WR:=V.mP.1;have a5J:=V.px.1;have r0:0<p.Pi.aG.length:=by omega
 have r1:1<p.Pi.aG.length:=by omega
 have r2:2<p.Pi.aG.length:=by omega
 have r3:3<p.Pi.aG.length:=by omega
 have DG:l.length-1<p.aH.length:=by omega
 have y8:=d4 k (iZ V.mP.2 DG);have qB:=FK k CU;have qC:=FK k D0
 have hL:mR gr B l (wvE gr key l out p) p=[aQ gr [aQ gr p.cy,ay gr (aQ gr B.Hs) (-1)],zaQ gr p.cy (wvE gr key l out p) 1,aQ gr [p.aH[l.length-1],ay gr B.H (0-alN gr.Q (wvE gr key l out p) (wvE gr key l out p).length)],zaQ gr (sdV l).1 (wvE gr key l out p) 1,zaQ gr (sdV l).2 (wvE gr key l out p) 1]++p.aH:=by
  unfold mR JG;rw[bZ DG]
 have X0:∀y∈mR gr B l (wvE gr key l out p) p,R9 y:=by
  rw[hL];intro y hy;rcases kj.1 hy with h|h
  ·exact Z8 (P:=R9) (n0 k qC (bL k _ _)) (fY k _ _) (n0 k y8 (bL k _ _)) (fY k _ _) (fY k _ _) y h
  ·exact d4 k (V.mP.2 y h)
 have hR:nu gr key B l.length out p=[ay gr gr.G p.Pi.aG[0],aQ gr [ay gr gr.G p.Pi.aG[1],zaQ gr B.Hs (p.Pi.aG.drop (l.length+4)) 1],ay gr gr.G p.Pi.aG[2],aQ gr [ay gr gr.G (i64.wrap ((0:Int)-p.Pi.aG[3])),zaQ gr (sdV out).1 (p.Pi.aG.drop (l.length+4)) 1],aQ gr [ay gr key (i64.wrap ((0:Int)-p.Pi.aG[3])),zaQ gr (sdV out).2 (p.Pi.aG.drop (l.length+4)) 1]]++(List.range l.length).map (zjy gr B.H p.aH (p.Pi.aG.drop (l.length+4)) p.Pi.aG):=by
  unfold nu Gq;rw[bZ r0,bZ r1,bZ r2,bZ r3]
 have WY:(mR gr B l (wvE gr key l out p) p).length=5+l.length:=by rw[hL];simp[WR];omega
 have Xy:(nu gr key B l.length out p).length=5+l.length:=by rw[hR];simp;omega
 refine bG (k:=0) kJ ?_;rw[hz];refine aI (by omega) (aI (by omega) (ag (V.chs k).2 (ag (zyU k zJ) (ag (sN (by omega)).2 (ag (sN (by rw[V.ol];omega)).2 (bG DG ?_))))));rw[wal];refine ag (K1 k D0) (ag (K1 k CU) (ag (zDS k qB.1 qB.2) (ag (iV k qC (bL k _ _)) (ag (pe k D0 (by omega)) (ag (fo k hH _) (ag (iV k y8 (bL k _ _)) (ag (pe k fk.1 (by omega)) (ag (pe k fk.2 (by omega)) (bG (k:=0) r0 (bG (k:=1) r1 (bG (k:=2) r2 (bG (k:=3) r3 ?_))))))))))));refine ag (fo k (fU k) _) (ag (fo k (fU k) _) (ag (pe k CU (by omega)) (ag (iV k (bL k _ _) (fY k _ _)) (ag (fo k (fU k) _) (ag (fo k (fU k) _) (ag (pe k lO.1 (by omega)) (ag (iV k (bL k _ _) (fY k _ _)) (ag (fo k hK _) (ag (pe k lO.2 (by omega)) (ag (iV k (bL k _ _) (fY k _ _)) (ag (a:=(mR gr B l (wvE gr key l out p) p,nu gr key B l.length out p)) ((zBz k hb.h V.mP iv fF (by omega) rfl rfl).trans (by rw[hL,hR])) ?_)))))))))));dsimp only;generalize sT:wvZ gr key l out p=z;rw[sT]at*;generalize mR gr B l (wvE gr key l out p) p=L at WY X0;generalize nu gr key B l.length out p=R at Xy;refine⟨_,zC4 (qd gr z p.Pi.aE L R) aa Z λi hi=>?_,?_⟩
 ·have fP:i<p.Pi.aE.length:=by omega
  have hi3:i<R.length:=by omega
  rw[jO hi,aS,jO fP,aS,jO hi3,aS,fo k (iZ X0 hi),aS,iV k (d4 k (iZ V.px.2 fP)) (bL k _ _),aS];unfold qd hlB;rw[bZ hi,bZ fP,bZ hi3,bne];cases (aQ gr [p.Pi.aE[i],ay gr L[i] z]==R[i])<;>rfl
 rw[WY];cases (List.range (5+l.length)).all (qd gr z p.Pi.aE L R)<;>rfl
def zKE(gr:an)(key:Int){l:List aq}(hl:l.length<=20)(out:List aq)(p:cM):∃v t,tU gr key l out p=J (v,t)/\G4 gr key l out p=J (v,t):=by
 by_cases k:ap gr
 ·obtain⟨B,tb,b1,b2,b3⟩:=TU k (n:=l.length) (by omega);unfold tU G4;rw[wh k key l b2,uR k,uR k,zp k,b1,show(aM gr key&&(dh 1 12 l.length&&l.all (ce gr)))=fH gr key l from rfl];cases h1:fH gr key l
  ·exact⟨aa,aa,rfl,rfl⟩
  have ki:=h1;simp only[fH,dh,bK,eO]at ki;obtain⟨c1,c2,c3⟩:=ki;rw[c1];cases h2:(dh 1 12 out.length&&out.all (ce gr))
  ·cases tb<;>exact⟨aa,aa,rfl,rfl⟩
  simp only[bK]at h2;cases tb
  ·exact⟨aa,aa,rfl,rfl⟩
  have e1:=zAk (p:=p) (out:=out) k c1 (l:=l) (by omega) (bm.1 c3) (bm.1 h2.2) (b3 rfl);have e2:=zHl (p:=p) (out:=out) k c1 (l:=l) (by omega) (bm.1 c3) (bm.1 h2.2) (b3 rfl);refine⟨tH gr key B l out p,Z,?_,?_⟩
  ·simp[e1]
  simp[e2]
 refine⟨aa,aa,?_,?_⟩
 ·unfold tU;rw[NS k];rfl
 unfold G4;rw[GZ k];rfl
end
end
section
variable {gr:an}{key:Int}{B:cA}{l:List aq}{perm rs s t w x:List Int}{a b d f:Int}
def Z9{gr:an}{l:List Int}(h:∀z∈l,E9 gr.Q z):l.all (dx gr)=Z:=bm.2 λz hz=>zvf.2 (h z hz)
end
def Rb(n:Nat)(h:Int->Int):Prop:=∃c:List Int,c.length<=n/\∀x,evI c x=h x
variable{at_ q dJ:Int}{code:List Int}{i n:Nat}{y:Nat×Nat}
def Rb.up{m:Nat}{h:Int->Int}(hh:Rb n h)(hm:n<=m):Rb m h:=by
 obtain⟨b,b1,b2⟩:=hh;exact⟨b,by omega,b2⟩
def cq(f:Nat->Int):Nat->Int
 |0=>0
 |n+1=>cq f n+f n
theorem RV{q:Int}{f g:Nat->Int}:∀n,(∀k,k<n->f k%q=g k%q)->cq f n%q=cq g n%q
 |0,_=>rfl
 |n+1,h=>by
  show(cq f n+f n)%q=(cq g n+g n)%q;exact zDJ (RV n λk hk=>h k (by omega)) (h n (by omega))
theorem Dt{f g:Nat->Int}:∀n,(∀k,k<n->f k=g k)->cq f n=cq g n
 |0,_=>rfl
 |n+1,h=>by show cq f n+f n=cq g n+g n;rw[Dt n λk hk=>h k (by omega),h n (by omega)]
def Sa{α:Type}{e:Option α}{φ χ:α->Prop}(h1:Rn e φ)(h2:Rn e χ):Rn e (λx=>φ x/\χ x):=by
 obtain⟨a,e1,p1⟩:=h1;obtain⟨b,e2,p2⟩:=h2;rw[e1]at e2;cases e2;exact⟨a,e1,p1,p2⟩
def RI(gr:an)(s:ByteArray)(k:Int):Bool:=(List.range 60).any λc=>k9 gr s k (c:Int) !=1
def okD(gr:an):Bool:=RI gr ⟨#[104]⟩ 0&&(List.range 13).all λi=>RI gr ⟨#[104,115]⟩ (i:Int)
def YL{gr:an}(k:ap gr){s:ByteArray}{i y:Int}(h:RI gr s i=Z)(hy:oD gr s i y):0<y:=by
 rcases hy with⟨c,hc,rfl,_,_⟩|⟨_,h4⟩
 ·have:=SY k s i c;omega
 obtain⟨c,hc,h5⟩:=a1p.1 h;rw[h4 c (by have:=kP.1 hc;omega)]at h5;cases h5
def vv(gr:an)(n:Nat):Prop:=(∃y,0<y/\oD gr ⟨#[104]⟩ 0 y)/\∀i:Nat,i<n->∃y,0<y/\oD gr ⟨#[104,115]⟩ (i:Int) y
def vv.le{gr:an}{m:Nat}(h:vv gr m)(hn:n<=m):vv gr n:=⟨h.1,λi hi=>h.2 i (by omega)⟩
def Ue{gr:an}(k:ap gr)(hd:okD gr=Z)(hn:n<=13):vv gr n:=by
 obtain⟨d1,d2⟩:=B3.1 hd;obtain⟨y,_,FN,Ge⟩:=Fx k (s:=⟨#[104]⟩) (by decide) (i:=0) rfl;refine⟨⟨y,YL k d1 Ge,Ge⟩,λi hi=>?_⟩;obtain⟨z,_,z2,z3⟩:=Fx k (s:=⟨#[104,115]⟩) (by decide) (i:=(i:Int)) (jq.2 ⟨by omega,by omega⟩);exact⟨z,YL k (bm.1 d2 i (kP.2 (by omega))) z3,z3⟩
def zyT{gr:an}(k:ap gr)(hd:vv gr n)(hn:n<=13):Rn (kO gr (n:Int)) (λx=>x.2=Z):=by
 obtain⟨⟨y0,d0,d1⟩,d2⟩:=hd;obtain⟨y,_,FN,Ge⟩:=Fx k (s:=⟨#[104]⟩) (by decide) (i:=0) rfl;have hy:0<y:=Ib k d1 Ge▸d0;unfold kO;refine ag FN (az (ψ:=λp=>p.2.2=Z) (ll n (λm p=>p.2.2.2=(m:Int)/\p.2.1.length=m/\p.2.2.1=Z) ⟨rfl,rfl,rfl⟩ ?_ ?_) ?_)
 ·rintro m ⟨w,l,t,c⟩ hm ⟨h1,h2,h3⟩;simp only at h1 h2 h3;subst h1 h3;obtain⟨z,_,z2,z3⟩:=Fx k (s:=⟨#[104,115]⟩) (by decide) (i:=(m:Int)) (jq.2 ⟨by omega,by omega⟩);obtain⟨u,u0,u1⟩:=d2 m hm;have hz:0<z:=Ib k u1 z3▸u0;refine aZ (λ_=>?_) λh=>absurd h (by simp;omega)
  refine ag z2 (az (ψ:=λb=>b=Z) (gk rfl (am (by simpa using hz))) λb hb=>?_);subst hb;refine aI (by dsimp only;omega) (am ⟨?_,by simp[h2],rfl⟩);show i64.wrap ((m:Int)+1)=_;rw[aK (by omega) (by omega)];rfl
 ·rintro⟨w,l,t,c⟩ ⟨h1,h2,h3⟩;simp only at h1 h2 h3;subst h1 h3;exact aZ (λh=>absurd h (by simp)) λ_=>am rfl
 rintro⟨w,l,t⟩ h;have h:t=Z:=h;subst h;refine az (ψ:=λb=>b=aa) (bw (by simpa using hy) (am rfl)) λb hb=>?_
 subst hb;exact bw rfl (am rfl)
def M4{gr:an}(k:ap gr)(hd:vv gr n)(hn:n<=13):∃b,p8 gr (n:Int)=J (b,Z)/\kO gr (n:Int)=J (b,Z)/\sD gr n b:=by
 obtain⟨b,t,h1,h2,h3⟩:=TU k (n:=n) (by omega);obtain⟨x,e1,e2⟩:=zyT k hd hn;rw[h2]at e1;cases e1;have e2:t=Z:=e2;subst e2;exact⟨b,h1,h2,h3 rfl⟩
def zFT{gr:an}(k:ap gr)(hd:okD gr=Z)(hn:n<=13):∃b,p8 gr (n:Int)=J (b,Z)/\kO gr (n:Int)=J (b,Z)/\sD gr n b:=M4 k (Ue k hd hn) hn
def Nl(n b:Nat):Bool:=decide (2<=n)&&decide (n<b*b)&&(List.range b).all λd=>decide (d<2)||decide (n<d*d)||n%d !=0
def W6{b:Nat}(h:Nl n b=Z):Pr n:=by
 simp only[Nl,bK,eO]at h;obtain⟨⟨h1,h2⟩,h3⟩:=h;refine⟨h1,λd a1 a2=>?_⟩;have hd:d<b:=a1m λda=>by have:=rS da da;omega
 have:=bm.1 h3 d (kP.2 hd);simp only[uI,eO,bne_iff_ne,ne_eq]at this;omega
def Zk(n:Nat):Bool:=(List.range 3500).any λd=>decide (2<=d)&&(decide (d*d<=n)&&n%d==0)
def zHz(h:Zk n=Z):¬Pr n:=by
 obtain⟨d,_,hd⟩:=a1p.1 h;simp only[bK,eO,xH]at hd;exact λhp=>hp.2 d hd.1 hd.2.1 hd.2.2
def T9(q K:Nat):Bool:=decide (q<=1000000)&&(decide (1<=K)&&(decide (1+K*q<=2000000000)&&(Nl q 1001&&(Nl (1+K*q) 3500&&(2^K%(1+K*q) !=1&&(List.range K).all λk=>k==0||Zk (1+k*q))))))
def kA(x:Nat×Nat):an:=⟨((1+x.2*x.1:Nat):Int),(x.1:Int),((2^x.2%(1+x.2*x.1):Nat):Int)⟩
def WP{q K:Nat}(h:T9 q K=Z):uN (q:Int)=J (kA (q,K),Z):=by
 simp only[T9,bK,eO,bne_iff_ne,ne_eq]at h;obtain⟨h1,h2,h3,h4,h5,h6,h7⟩:=h;have qg:=W6 h4;have SS:=W6 h5;have hq:=qg.1
 have Zh:∀k,1<=k->k<K->¬Pr (1+k*q):=λk a b=>by
  have:=bm.1 h7 k (kP.2 b);rw[uI,xH]at this;exact zHz (this.resolve_left (by omega))
 unfold uN;refine bH (az (ψ:=λb=>b=aa) ?_ ?_)
 ·refine ag (sW _ _ _) (bw (by simp;omega) (ag (Ht _ (by omega)) (am ?_)));rw[nI.2 qg];rfl
 rintro _ rfl;refine bw rfl (az (ψ:=λb=>b=.inr (kA (q,K),Z)) ?_ ?_)
 ·rw[aK (by omega) (by omega)];refine uh (λs=>∃k:Nat,1<=k/\k<=K/\s=((1+k*q:Nat):Int)) (λs=>(2001000001-s).toNat) ⟨1,by omega,h2,by rw[LY];omega⟩ ?_;rintro s ⟨k,hk,hkK,rfl⟩;have da:k*q<=K*q:=gO q hkK;refine gk (by simp;omega) (ag (Ht _ (by omega)) ?_);by_cases e:k=K
  ·subst e;rw[nI.2 SS];refine bw rfl ?_
   have Ds:i64.wrap ((i64.wrap (((1+k*q:Nat):Int)-1)).tdiv (q:Int))=(k:Int):=by
    have e1:((1+k*q:Nat):Int)-1=(k:Int)*(q:Int):=by push_cast;omega
    have e2:(k:Int)*(q:Int)=((k*q:Nat):Int):=by push_cast;rfl
    have e3:k*1<=k*q:=Qj k (by omega);rw[e1,aK (n:=(k:Int)*(q:Int)) (by omega) (by omega),a5C _ (by omega),aK (by omega) (by omega)]
   simp only[Ds];have e3:k*1<=k*q:=Qj k (by omega);have DA:=(qy (a:=2) (e:=(k:Int)) (m:=((1+k*q:Nat):Int)) (by omega) (by omega) (by omega) (by omega) (by omega) (by omega)).2;rw[dL,dL]at DA;refine az (ψ:=λh=>h=2) (uh (λs=>s=2) (λ_=>0) rfl ?_) ?_
   ·rintro _ rfl;refine aI (by omega) (ag DA (bw ?_ (am rfl)));have h8:¬(((2^k%(1+k*q):Nat):Int)=1):=λe=>h6 (by exact_mod_cast e)
    exact beq_eq_false_iff_ne.2 h8
   rintro _ rfl;exact aI (by omega) (ag DA (am rfl))
  have hn:=Zh k hk (by omega)
  have hf:mh ((1+k*q:Nat):Int)=aa:=by
   cases hb:mh ((1+k*q:Nat):Int)
   ·rfl
   ·exact absurd (nI.1 hb) hn
  rw[hf];have Po:(k+1)*q<=K*q:=gO q (by omega);rw[km]at Po
  have e1:i64.wrap (((1+k*q:Nat):Int)+(q:Int))=((1+(k+1)*q:Nat):Int):=by
   rw[aK (by omega) (by omega),km];omega
  refine gk rfl (am ⟨⟨k+1,by omega,by omega,e1⟩,?_⟩);rw[e1,km];omega
 rintro _ rfl;exact am rfl
def VB(gr:an):Bool:=decide (gr.Q<2)||(decide (gr.P<3)||((gr.Q%2==0&&gr.Q !=2)||((gr.P-1)%gr.Q !=0||okD gr)))
def Dg(gr:an):Prop:=ap gr->okD gr=Z
def zFl{gr:an}(h:VB gr=Z):Dg gr:=by
 intro k;have hp:=k.p;have hq:=k.q;have hd:=k.d;have qg:=k.pq;simp only[VB,uI,bK,eO,xH,bne_iff_ne,ne_eq]at h;rcases h with h|h|h|h|h
 ·omega
 ·omega
 ·exfalso;obtain⟨n,hn⟩:=fZ (show 0<=gr.Q by omega);rw[hn,dL]at qg;exact qg.2 2 (by omega) (by omega) (by omega)
 ·exfalso;apply h;obtain⟨n,hn⟩:=fZ (show 0<=gr.Q by omega);obtain⟨m,hm⟩:=fZ (show 0<=gr.P-1 by omega);have e:gr.P.toNat-1=m:=by omega
  rw[e,hn,dL]at hd;rw[hm,hn,<-pN,hd];rfl
 exact h
def DQ(gr:an):List an:=gr::([0,gr.P+2,4,-7].map λx=>⟨x,gr.Q,gr.G⟩)++([0,1,gr.Q+1,gr.P-1].map λx=>⟨gr.P,x,gr.G⟩)++([0,1,gr.P-1,gr.P,gr.G+1].map λx=>⟨gr.P,gr.Q,x⟩)
def zo1(gr:an):Bool:=(DQ gr).all VB
def oJ:List (Nat×Nat):=[(3,2),(5,2),(7,4),(11,2),(13,4),(23,2)]
def yh:List (Nat×Nat):=[(101,6),(1009,10),(1019,2),(65537,14),(999983,12)]
theorem zxR:((oJ++yh).all λx=>T9 x.1 x.2)=Z:=by decide+kernel
theorem zBf:zo1 ⟨1000000007,500000003,4⟩=Z:=by decide+kernel
theorem zBs:(yh.all λx=>zo1 (kA x))=Z:=by decide+kernel
def zFF(x:Nat×Nat)(e:Nat):an:=⟨(kA x).P,(kA x).Q,(((kA x).G.toNat^e%(kA x).P.toNat:Nat):Int)⟩
theorem w1q:((List.range 3).all λe=>zo1 (zFF (3,2) e))=Z:=by decide+kernel
theorem w2q:((List.range 5).all λe=>zo1 (zFF (5,2) e))=Z:=by decide+kernel
theorem w3q:((List.range 7).all λe=>zo1 (zFF (7,4) e))=Z:=by decide+kernel
theorem w4q:((List.range 11).all λe=>zo1 (zFF (11,2) e))=Z:=by decide+kernel
theorem w5q:((List.range 13).all λe=>zo1 (zFF (13,4) e))=Z:=by decide+kernel
theorem w6q:((List.range 23).all λe=>zo1 (zFF (23,2) e))=Z:=by decide+kernel
theorem zzF:(oJ.all λx=>(List.range x.1).all λe=>zo1 (zFF x e))=Z:=by simp only[oJ,List.all_cons,List.all_nil,w1q,w2q,w3q,w4q,w5q,w6q,Bool.and_self]
attribute [local irreducible] okD zo1
def zDO{x:Int}(hx:x∈[(3:Int),5,5,7,11,11,13,23]):∃y∈oJ,x=(y.1:Int)/\3<=y.1/\y.1<=23:=by
 simp only[f6,jy,jz]at hx;rcases hx with rfl|rfl|rfl|rfl|rfl|rfl|rfl|rfl
 ·exact⟨(3,2),by simp[oJ],rfl,by decide⟩
 ·exact⟨(5,2),by simp[oJ],rfl,by decide⟩
 ·exact⟨(5,2),by simp[oJ],rfl,by decide⟩
 ·exact⟨(7,4),by simp[oJ],rfl,by decide⟩
 ·exact⟨(11,2),by simp[oJ],rfl,by decide⟩
 ·exact⟨(11,2),by simp[oJ],rfl,by decide⟩
 ·exact⟨(13,4),by simp[oJ],rfl,by decide⟩
 exact⟨(23,2),by simp[oJ],rfl,by decide⟩
def zH3{x:Int}(hx:x∈[(101:Int),1009,1019,65537,999983]):∃y∈yh,x=(y.1:Int):=by
 simp only[f6,jy,jz]at hx;rcases hx with rfl|rfl|rfl|rfl|rfl
 ·exact⟨(101,6),by simp[yh],rfl⟩
 ·exact⟨(1009,10),by simp[yh],rfl⟩
 ·exact⟨(1019,2),by simp[yh],rfl⟩
 ·exact⟨(65537,14),by simp[yh],rfl⟩
 exact⟨(999983,12),by simp[yh],rfl⟩
def zB3(h:y∈oJ):uN (y.1:Int)=J (kA y,Z):=WP (bm.1 zxR y (th _ h))
def zDD(h:y∈yh):uN (y.1:Int)=J (kA y,Z):=WP (bm.1 zxR y (zA _ h))
def zDw(h:y∈oJ):(kA y).Q=(y.1:Int)/\1<=(kA y).P/\(kA y).P<=100/\0<=(kA y).G/\(kA y).G<=100:=by
 simp only[oJ,f6,jy,jz]at h;rcases h with rfl|rfl|rfl|rfl|rfl|rfl<;>exact⟨rfl,by decide,by decide,by decide,by decide⟩
def Xf{c0:List Int}{n:Int}(hb:Bt code)(h:Cu code n (c0,at_,dJ))(hn:n<=6000000000000000):Rn (AC c0 at_ dJ) (λz=>zo1 z.1=Z):=by
 unfold AC;refine az (j5 hb h (by omega)) λz ⟨z1,z2,z3,z4,z5⟩=>?_
 refine aZ (λ_=>am zBf) λ_=>aZ (λ_=>?_) λ_=>?_
 ·refine az (pm hb z5 (by omega) (by simp)) λy ⟨y1,y2⟩=>?_
  obtain⟨q,hq,e⟩:=zH3 y1;rw[e];exact ag (zDD hq) (am (bm.1 zBs q hq))
 unfold EV;refine az (ψ:=λw=>(∃q∈oJ,w.1=kA q/\3<=q.1/\q.1<=23)/\Cu code (n+8) w.2) (az (pm hb z5 (by omega) (by simp)) λy ⟨y1,y2⟩=>?_) λy ⟨⟨q,hq,e,q3,q23⟩,y2⟩=>?_
 ·obtain⟨q,hq,e,q3⟩:=zDO y1;rw[e];exact ag (zB3 hq) (am ⟨⟨q,hq,rfl,q3⟩,y2.mono (by omega)⟩)
 obtain⟨b1,b2,b3,b4,b5⟩:=zDw hq;rw[e,b1,aK (n:=(q.1:Int)-1) (by omega) (by omega)];refine az (j5 hb y2 (by omega)) λx ⟨x1,x2,x3,x4,x5⟩=>?_
 have x3:=x3 (by omega);rw[aK (n:=1+x.1) (by omega) (by omega)];have hm:=Dp (a:=1+x.1) (q:=(kA q).Q) (by omega) (by omega);have e1:(1+x.1)%(kA q).Q=1+x.1:=qM (by omega) (by omega);have hw:=(qy (a:=(kA q).G) (e:=1+x.1) (m:=(kA q).P) b4 (by omega) (by omega) (by omega) (by omega) (by omega)).2;refine az (ψ:=λv=>v=(((kA q).G.toNat^(1+x.1).toNat%(kA q).P.toNat:Nat):Int)) ?_ ?_
 ·unfold cH;refine ag hm ?_;rw[e1];exact ag hw (am rfl)
 rintro _ rfl;refine am ?_;rw[<-b1];exact bm.1 (bm.1 zzF q hq) (1+x.1).toNat (kP.2 (by omega))
def Kz{gr g:an}(h:zo1 gr=Z)(hm:g∈DQ gr):Dg g:=by
 unfold zo1 at h;exact zFl (bm.1 h g hm)
def zuC{c0:List Int}{n:Int}(hb:Bt code)(h:Cu code n (c0,at_,dJ))(hn:n<=5000000000000000):Rn (Ej c0 at_ dJ) (λz=>Dg z.1):=by
 unfold Ej;refine az (Sa (U9 hb h (by omega)) (Xf hb h (by omega))) λz ⟨⟨z1,z2⟩,z3⟩=>?_
 have g1:=z1.p;have g2:=z1.q;have g3:=z1.g;refine az (j5 hb z2 (by omega)) λy ⟨_,_,_,_,y5⟩=>?_
 rw[aK (n:=z.1.P+2) (by omega) (by omega),aK (n:=z.1.Q+1) (by omega) (by omega),aK (n:=z.1.P-1) (by omega) (by omega),aK (n:=z.1.G+1) (by omega) (by omega)];refine az (ψ:=λx=>Dg (an.mk x.2.1 x.2.2.1 x.2.2.2)) ?_ λx hx=>am hx
 refine aZ (λ_=>?_) λ_=>aZ (λ_=>?_) λ_=>aZ (λ_=>?_) λ_=>am (Kz z3 (by simp[DQ]))
 ·exact az (pm hb y5 (by omega) (by simp)) λx ⟨x1,x2⟩=>am (Kz z3 (by unfold DQ;exact th _ (th _ (oB _ (jU.2 ⟨_,x1,rfl⟩)))))
 ·exact az (pm hb y5 (by omega) (by simp)) λx ⟨x1,x2⟩=>am (Kz z3 (by unfold DQ;exact th _ (zA _ (jU.2 ⟨_,x1,rfl⟩))))
 exact az (pm hb y5 (by omega) (by simp)) λx ⟨x1,x2⟩=>am (Kz z3 (by unfold DQ;exact zA _ (jU.2 ⟨_,x1,rfl⟩)))
def zzz{c0:List Int}{n:Int}(hb:Bt code)(h:Cu code n (c0,at_,dJ))(hn:n<=1000000000000000):Rn (Kq c0 at_ dJ) (λz=>(Gw z.1/\Dg z.1)/\z.2.2.1.length<=13/\Cu code (n+400) z.2.2.2.2.2):=by
 unfold Kq;refine az (Sa (U9 hb h (by omega)) (Xf hb h (by omega))) λz ⟨⟨z1,z2⟩,z3⟩=>az (OJ hb z2 (by omega)) λy y1=>?_
 refine az (ψ:=λx=>(Gw (an.mk x.2.1 x.2.2.1 x.2.2.2)/\Dg (an.mk x.2.1 x.2.2.1 x.2.2.2))/\Cu code (n+20) x.1) (aZ (λ_=>az (Sa (zwy hb y1 (by omega)) (zuC hb y1 (by omega))) λw ⟨⟨w1,w2⟩,w3⟩=>am ⟨⟨w1,w3⟩,w2.mono (by omega)⟩) λ_=>am ⟨⟨z1.w,Kz z3 (by simp[DQ])⟩,y1.mono (by omega)⟩) λx ⟨⟨x1,x0⟩,x2⟩=>?_
 refine az (j5 hb x2 (by omega)) λp ⟨p1,_,p3,_,p5⟩=>?_
 have p3:=p3 (by omega);obtain⟨K,hK⟩:=fZ p1;rw[hK,aK (n:=1+(K:Int)) (by omega) (by omega)];refine az (ψ:=λr=>r.2.length=K+1/\Cu code (n+60) r.1) (ll (K+1) (λj s=>s.2.2=(K:Int)+1-j/\s.2.1.length=j/\Cu code (n+22+8*j) s.1) ⟨by dsimp only;omega,rfl,p5.mono (by omega)⟩ ?_ ?_) λr ⟨r1,r2⟩=>?_
 ·rintro j ⟨c,l,i⟩ hj ⟨h1,h2,h3⟩;have h1:i=(K:Int)+1-j:=h1;have h2:l.length=j:=h2;refine gk (by simp;omega) (az (zyP hb h3 (by omega) x1) λw w1=>aI (by dsimp only;omega) (am ⟨?_,by simp[h2],w1.mono (by push_cast;omega)⟩));show i64.wrap (i-1)=_;rw[aK (by omega) (by omega)];push_cast;omega
 ·rintro⟨c,l,i⟩ ⟨h1,h2,h3⟩;have h1:i=(K:Int)+1-((K+1:Nat):Int):=h1;exact bw (by simp;omega) (am ⟨h2,h3.mono (by omega)⟩)
 refine az (zCM hb r2 (by omega) (by omega)) λu ⟨u1,u2⟩=>?_
 refine az (zpM hb u2 (by omega) x1 (by omega)) λv ⟨v1,v2⟩=>?_
 refine az (j5 hb v2 (by omega)) λq ⟨_,_,_,_,q5⟩=>?_
 refine az (ψ:=λx=>x.2.1.length<=13/\Cu code (n+300) x.1) (aZ (λ_=>?_) λ_=>aZ (λ_=>?_) λ_=>aZ (λ_=>am ⟨by simp,q5.mono (by omega)⟩) λ_=>aZ (λ_=>?_) λ_=>am ⟨by dsimp only;omega,q5.mono (by omega)⟩) λw ⟨w1,w2⟩=>?_
 ·exact az (zur hb q5 (by omega) x1) λw w1=>bG (k:=0) (by omega) (am ⟨by show(r.2.set _ _).length<=_;rw[L7];omega,w1.mono (by omega)⟩)
 ·exact az (pm hb q5 (by omega) (by simp)) λw ⟨_,w1⟩=>bG (k:=0) (by omega) (am ⟨by dsimp only;omega,w1.mono (by omega)⟩)
 ·refine uh (λs=>1<=s.2.length/\s.2.length<=13/\Cu code (n+200+2*s.2.length) s.1) (λs=>13-s.2.length) ⟨by dsimp only;omega,by dsimp only;omega,q5.mono (by dsimp only;omega)⟩ ?_;rintro⟨c,l⟩ ⟨h1,h2,h3⟩;have h1:1<=l.length:=h1;have h2:l.length<=13:=h2;have h3:Cu code (n+200+2*l.length) c:=h3;refine az (j5 hb h3 (by omega)) λw ⟨w1,_,w3,_,w5⟩=>?_
  have w3:=w3 (by omega);dsimp only;rw[aK (n:=12+w.1) (by omega) (by omega)];refine aZ (λg=>?_) λ_=>am ⟨by dsimp only;omega,w5.mono (by omega)⟩
  have g:(l.length:Int)<12+w.1:=by simpa using g
  exact bG (k:=0) (by omega) (aI (by omega) (am ⟨⟨by simp,by simp;omega,w5.mono (by simp;omega)⟩,by simp;omega⟩))
 exact az (Lv hb w2 (by omega) x1) λt ⟨_,_,t3⟩=>am ⟨⟨x1,x0⟩,w1,t3.mono (by omega)⟩
def rg(f:Nat->Int)(n:Nat):List Int:=(List.range n).map f
def bn(f:Nat->Int)(n:Nat):(rg f n).length=n:=by simp[rg]
theorem xw(f:Nat->Int):rg f 0=[]:=rfl
def oS(f:Nat->Int)(n:Nat):rg f (n+1)=rg f n++[f n]:=by simp[rg,nc]
def vy(f:Nat->Int)(n:Nat)(A:List Int):A++rg f (n+1)=(A++rg f n)++[f n]:=by rw[oS,ie]
def uB(f:Nat->Int)(h:i<n):ix (rg f n) (i:Int)=J (f i):=by
 rw[jO (by rw[bn];exact h)];simp[rg]
def lj(f:Nat->Int)(h:i<n):(rg f n).getD i 0=f i:=by
 rw[bZ (by rw[bn];exact h)];simp[rg]
def nv{P:Int->Prop}{f:Nat->Int}(h:∀i,i<n->P (f i)):∀x∈rg f n,P x:=by
 intro x hx;obtain⟨i,hi,rfl⟩:=jU.1 hx;exact h i (kP.1 hi)
def eN{P:Int->Prop}{l:List Int}(h:∀x∈l,P x)(hi:i<l.length):P (l.getD i 0):=by
 rw[bZ hi];exact h _ (fm hi)
def d6{l:List Int}(hi:i<l.length):ix l (i:Int)=J (l.getD i 0):=by rw[jO hi,bZ hi]
def qs{σ γ:Type}{body:Int->σ->Option (fO σ γ)}{stop:σ->γ}{s0:σ}(S:Nat->σ)(h0:s0=S 0)(hs:∀i,i<n->Rn (body (i:Int) (S i)) (· =.go (S (i+1)))):aU body stop n 0 s0=J (stop (S n)):=by
 refine bH (eo (λi y=>y=S i) h0 ?_ ?_)
 ·rintro i y hi rfl;obtain⟨v,h1,rfl⟩:=hs i hi;exact⟨_,h1,rfl⟩
 rintro y rfl;rfl
def vc(gr:an)(h x r:Int):Int:=aQ gr [ay gr gr.G x,ay gr h r]
def zCn{gr:an}(k:ap gr)(h x r:Int):R9 (vc gr h x r):=n0 k (bL k _ _) (bL k _ _)
def Iw{gr:an}(k:ap gr){h:Int}(hh:aM gr h=Z)(x r:Int):aM gr (vc gr h x r)=Z:=ru k (kT k (om k) _) (kT k hh _)
def C2{gr:an}(k:ap gr){B:cA}(hh:R9 B.H)(x r:Int):pB gr B x r=J (vc gr B.H x r):=by
 unfold pB;rw[fA k (fU k),aS,fA k hh,aS,j8 k (bL k _ _) (bL k _ _)];rfl
def GY{gr:an}(k:ap gr){h:Int}(hh:R9 h)(x r:Int):nZ gr h x r=J (vc gr h x r):=by
 unfold nZ;rw[fo k (fU k),aS,fo k hh,aS,iV k (bL k _ _) (bL k _ _)];rfl
structure Pc where
 a:List Int
 b:List Int
 c:List Int
 w:List Int
 v:List Int
 s:List Int
 g:Int
 k:List Int
 m:List Int
 f:Int
structure wN (q:Int) (n:Nat) (C:Pc):Prop where
 a:C.a.length=n/\∀z∈C.a,E9 q z
 b:C.b.length=n/\∀z∈C.b,E9 q z
 c:C.c.length=n/\∀z∈C.c,E9 q z
 w:C.w.length=n/\∀z∈C.w,E9 q z
 v:C.v.length=n/\∀z∈C.v,E9 q z
 s:C.s.length=n/\∀z∈C.s,E9 q z
 g:E9 q C.g
 k:C.k.length=n/\∀z∈C.k,E9 q z
 m:C.m.length=n/\∀z∈C.m,E9 q z
 f:E9 q C.f
def plF(gr:an)(h:Int)(perm:List Int)(C:Pc)(i:Nat):Int:=vc gr h (perm.getD i 0+1) (C.a.getD i 0)
def eF(q x:Int)(perm:List Int)(i:Nat):Int:=((x.toNat^(perm.getD i 0+1).toNat%q.toNat:Nat):Int)
def pwF(gr:an)(h:Int)(e:Nat->Int)(C:Pc)(i:Nat):Int:=vc gr h (e i) (C.b.getD i 0)
def uF(q y z:Int)(e:Nat->Int)(perm:List Int)(i:Nat):Int:=(y*(perm.getD i 0+1)+e i-z)%q
def sU(q:Int)(u:Nat->Int):Nat->Int
 |0=>1
 |i+1=>(sU q u i*u i)%q
def chF(gr:an)(h:Int)(u:Nat->Int)(C:Pc)(i:Nat):Int:=vc gr h (sU gr.Q u (i+1)) (C.c.getD i 0)
def BO(C:Pc):Nat->Int
 |0=>0
 |i+1=>C.c.getD i 0
def dlF(q:Int)(u:Nat->Int)(C:Pc)(i:Nat):Int:=(C.c.getD i 0-BO C i*u i)%q
def PZ(gr:an)(h:Int)(C:Pc)(i:Nat):Int:=vc gr h (C.w.getD i 0) (C.v.getD i 0)
def c2F(gr:an)(h:Int)(ch:List Int)(C:Pc)(i:Nat):Int:=aQ gr [ay gr (bef gr.G ch i) (C.w.getD i 0),ay gr h (C.s.getD i 0)]
def c4F(gr:an)(h:Int)(C:Pc)(i:Nat):Int:=vc gr h (C.k.getD i 0) (C.m.getD i 0)
def abF(q y:Int)(C:Pc)(i:Nat):Int:=(y*C.a.getD i 0+C.b.getD i 0)%q
def rF(q t:Int)(w:List Int)(u:Nat->Int)(i:Nat):Int:=(w.getD i 0+t*u i)%q
def ND(hq:0<q)(x:Int)(perm:List Int)(i:Nat):E9 q (eF q x perm i):=by
 have h:=nb (x.toNat^(perm.getD i 0+1).toNat) (show 0<q.toNat by omega);exact⟨Int.natCast_nonneg _,by unfold eF;omega⟩
theorem zAa(hq:1<q)(u:Nat->Int):∀i,E9 q (sU q u i)
 |0=>⟨by show(0:Int)<=1;omega,hq⟩
 |i+1=>gB (by omega) _
def zAH{C:Pc}(hq:0<q)(c:wN q n C)(hi:i<=n):E9 q (BO C i):=by
 cases i with
 |zero=>exact⟨B1 0,hq⟩
 |succ i=>exact eN c.c.2 (by have:=c.c.1;omega)
def Q5{gr:an}(k:ap gr){x p:Int}(hx:E9 gr.Q x)(hp:0<=p/\p<=1000):n6 x (i64.wrap (p+1)) gr.Q=J ((x.toNat^(p+1).toNat%gr.Q.toNat:Nat):Int)/\l6 x (i64.wrap (p+1)) gr.Q=J ((x.toNat^(p+1).toNat%gr.Q.toNat:Nat):Int):=by
 have hP:=k.p;have hq:=k.q;rw[aK (by omega) (by omega)];exact qy hx.1 (by have:=hx.2;omega) (by omega) (by omega) (by omega) (by omega)
def zAY{a b:Int}:(a-b%q)%q=(a-b)%q:=by rw[ti,eZ,<-ti]
def e_u{y p e z:Int}(hq:0<q/\q<=2000000000)(hy:E9 q y)(hp:0<=p/\p<=1000)(he:E9 q e)(hz:E9 q z):i64.wrap (i64.wrap (i64.wrap (y*i64.wrap (p+1))+e)-z)=y*(p+1)+e-z:=by
 have h1:0<=y*(p+1):=tn hy.1 (by omega);have h2:y*(p+1)<=2000000000*1001:=xN (by have:=hy.2;omega) (by omega) (by omega) (by omega);have:=he.1;have:=he.2;have:=hz.1;have:=hz.2;rw[aK (n:=p+1) (by omega) (by omega),aK (n:=y*(p+1)) (by omega) (by omega),aK (n:=y*(p+1)+e) (by omega) (by omega),aK (by omega) (by omega)]
def zKI{y p e z:Int}(hq:0<q/\q<=2000000000)(hy:E9 q y)(hp:0<=p/\p<=1000)(he:E9 q e)(hz:E9 q z):(i64.wrap (i64.wrap (i64.wrap (y*(i64.wrap (p+1)).tmod q)+e)-z))%q=(y*(p+1)+e-z)%q:=by
 have h0:E9 q ((p+1)%q):=gB hq.1 _;rw[aK (n:=p+1) (by omega) (by omega),jx (by omega)];have h1:0<=y*((p+1)%q):=tn hy.1 h0.1;have h2:y*((p+1)%q)<=2000000000*2000000000:=xN (by have:=hy.2;omega) (by have:=h0.2;omega) h0.1 (by omega);have:=he.1;have:=he.2;have:=hz.1;have:=hz.2;rw[aK (n:=y*((p+1)%q)) (by omega) (by omega),aK (n:=y*((p+1)%q)+e) (by omega) (by omega),aK (by omega) (by omega)];have e1:(y*((p+1)%q))%q=(y*(p+1))%q:=by rw[ng,eZ,<-ng]
 rw[ti,pP,e1,<-pP,<-ti]
section
variable {gr:an}{h:Int}{perm:List Int}{C:Pc}{n:Nat}
def XU{CM:Int->Int->Option Int}(hC:∀x r,CM x r=J (vc gr h x r))(hp:∀x∈perm,0<=x/\x<=1000)(hl:perm.length=n)(ha:C.a.length=n)(hn:n<=100):aU (σ:=(List Int)) (λi5 s4=>
 (ix perm i5).bind λaN=>
 (ix C.a i5).bind λcC=>
 (CM (i64.wrap (aN+1)) cC).bind λcN=>
 gd ((s4.length+1)*8<=140737488355328/\s4.length+1<=4611686018427387904)<|
 J (.go (s4++[cN]))) (λs4=>s4) perm.length 0 []=J (rg (plF gr h perm C) n):=by
 rw[hl];refine qs (λi=>rg (plF gr h perm C) i) rfl λi hi=>?_
 have hp:=eN hp (i:=i) (by omega);refine ag (d6 (by omega)) (ag (d6 (by omega)) ?_);rw[aK (n:=perm.getD i 0+1) (by omega) (by omega)];refine ag (hC _ _) (aI (by rw[bn];omega) (am ?_));rw[oS];rfl
def zHd(k:ap gr){B:cA}(hh:R9 B.H)(hp:∀x∈perm,0<=x/\x<=1000)(hl:perm.length=n)(ha:C.a.length=n)(hn:n<=100):KN gr B perm C.a=J (rg (plF gr B.H perm C) n):=by
 unfold KN;rw[XU (C2 k hh) hp hl ha hn];rfl
def zE9(k:ap gr)(hh:R9 h)(hp:∀x∈perm,0<=x/\x<=1000)(hl:perm.length=n)(ha:C.a.length=n)(hn:n<=100):Iu gr h perm C.a=J (rg (plF gr h perm C) n):=by
 unfold Iu;rw[XU (GY k hh) hp hl ha hn];rfl
end
abbrev sX:ByteArray:=⟨#[109,105,120,32,120]⟩
abbrev sY:ByteArray:=⟨#[109,105,120,32,121]⟩
abbrev sZ:ByteArray:=⟨#[109,105,120,32,122]⟩
abbrev sE:ByteArray:=⟨#[109,105,120,32,101,110,100]⟩
section
variable {gr:an}{h:Int}{perm:List Int}{C:Pc}{n:Nat}
variable{A:List Int}
def zBj(k:ap gr){B:cA}(hh:R9 B.H)(hp:∀x∈perm,0<=x/\x<=1000)(hl:perm.length=n)(hb:C.b.length=n)(hn:n<=100){x:Int}(hx:E9 gr.Q x) :aU (σ:=(List Int)×List Int×List Int×List Int×List Int×List Int×List Int) (λv6 dy=>
 (ix perm v6).bind λrY=>
 (n6 x (i64.wrap (rY+1)) gr.Q).bind λtr=>
 gd ((dy.2.2.2.2.2.2.length+1)*8<=140737488355328/\dy.2.2.2.2.2.2.length+1<=4611686018427387904)<|
 (J (dy.2.2.2.2.2.2++[tr])).bind λvj=>
 (ix vj v6).bind λtC=>
 (ix C.b v6).bind λyM=>
 (pB gr B tC yM).bind λvf=>
 gd ((dy.2.1.length+1)*8<=140737488355328/\dy.2.1.length+1<=4611686018427387904)<|
 J (.go (dy.1,dy.2.1++[vf],dy.2.2.1,dy.2.2.2.1,dy.2.2.2.2.1,dy.2.2.2.2.2.1,vj))) (λdy=>(dy.1,dy.2.1,dy.2.2.1,dy.2.2.2.1,dy.2.2.2.2.1,dy.2.2.2.2.2.1,dy.2.2.2.2.2.2)) perm.length 0 (A,[],[],[],[],[],[])=J (A,rg (pwF gr B.H (eF gr.Q x perm) C) n,[],[],[],[],rg (eF gr.Q x perm) n):=by
 rw[hl];refine qs (λi=>(A,rg (pwF gr B.H (eF gr.Q x perm) C) i,[],[],[],[],rg (eF gr.Q x perm) i)) rfl λi hi=>?_
 have hp:=eN hp (i:=i) (by omega);refine ag (d6 (by omega)) (ag (Q5 k hx hp).1 (aI (by rw[bn];omega) (ag (a:=rg (eF gr.Q x perm) (i+1)) (by rw[oS];rfl) (ag (uB _ (by omega)) (ag (d6 (by omega)) (ag (C2 k hh _ _) (aI (by rw[bn];omega) (am ?_))))))));rw[oS (pwF gr B.H (eF gr.Q x perm) C)];rfl
def zA2(k:ap gr){B:cA}(hh:R9 B.H)(hp:∀x∈perm,0<=x/\x<=1000)(hl:perm.length=n)(c:wN gr.Q n C)(hn:n<=100){x y z:Int}(hy:E9 gr.Q y)(hz:E9 gr.Q z){W:List Int}:aU (σ:=(List Int)×List Int×List Int×List Int×List Int×List Int×List Int×Int×List Int) (λn8 cK=>
 (ix perm n8).bind λpE=>
 (ix (rg (eF gr.Q x perm) n) n8).bind λOm=>
 (fa gr (i64.wrap ((i64.wrap ((i64.wrap (y*(i64.wrap (pE+1))))+Om))-z))).bind λou=>
 gd ((cK.2.2.2.2.2.2.1.length+1)*8<=140737488355328/\cK.2.2.2.2.2.2.1.length+1<=4611686018427387904)<|
 (J (cK.2.2.2.2.2.2.1++[ou])).bind λzq=>
 (ix zq n8).bind λmL=>
 (fa gr (i64.wrap (cK.2.2.2.2.2.2.2.1*mL))).bind λF1=>
 (ix C.c n8).bind λjI=>
 (pB gr B F1 jI).bind λoF=>
 gd ((cK.2.2.1.length+1)*8<=140737488355328/\cK.2.2.1.length+1<=4611686018427387904)<|
 ((if decide (0<n8)=Z then(
 (ix C.c (i64.wrap (n8-1))).bind λN9=>
 (fa gr (i64.wrap (N9*mL))).bind λC0=>
 (fa gr (i64.wrap (jI-C0))).bind λCk=>
 J Ck)else(
 J jI):Option Int).bind λyr=>
 gd ((cK.2.2.2.2.2.2.2.2.length+1)*8<=140737488355328/\cK.2.2.2.2.2.2.2.2.length+1<=4611686018427387904)<|
 J (.go (cK.1,cK.2.1,cK.2.2.1++[oF],cK.2.2.2.1,cK.2.2.2.2.1,cK.2.2.2.2.2.1,zq,F1,cK.2.2.2.2.2.2.2.2++[yr])))) (λcK=>(cK.1,cK.2.1,cK.2.2.1,cK.2.2.2.1,cK.2.2.2.2.1,cK.2.2.2.2.2.1,cK.2.2.2.2.2.2.1,cK.2.2.2.2.2.2.2.2)) perm.length 0 (A,W,[],[],[],[],[],1,[])=
  J (A,W,rg (chF gr B.H (uF gr.Q y z (eF gr.Q x perm) perm) C) n,[],[],[],rg (uF gr.Q y z (eF gr.Q x perm) perm) n,rg (dlF gr.Q (uF gr.Q y z (eF gr.Q x perm) perm) C) n):=by
 rw[hl];have hP:=k.p;have hq:=k.q;have cQ:0<gr.Q/\gr.Q<=2000000000:=by omega
 generalize hu:uF gr.Q y z (eF gr.Q x perm) perm=u;have AA:∀i,E9 gr.Q (u i):=λi=>by rw[<-hu];exact gB cQ.1 _
 refine qs (λi=>(A,W,rg (chF gr B.H u C) i,[],[],[],rg u i,sU gr.Q u i,rg (dlF gr.Q u C) i)) rfl λi hi=>?_
 have hp:=eN hp (i:=i) (by omega);have hc:=eN c.c.2 (i:=i) (by have:=c.c.1;omega);have hm:=(xE (q:=gr.Q) (by omega) (zAa (by omega) u i) (AA i)).1;refine ag (d6 (by omega)) (ag (uB _ hi) (ag (ml k _) ?_));rw[e_u cQ hy hp (ND cQ.1 _ _ _) hz,show(y*(perm.getD i 0+1)+eF gr.Q x perm i-z)%gr.Q=u i by rw[<-hu];rfl];refine aI (by rw[bn];omega) (ag (a:=rg u (i+1)) (by rw[oS]) (ag (uB _ (by omega)) (ag (ml k _) ?_)));rw[hm];refine ag (d6 (by have:=c.c.1;omega)) (ag (C2 k hh _ _) (aI (by rw[bn];omega) (az (ψ:=(· =dlF gr.Q u C i)) ?_ ?_)))
 ·refine aZ (λg=>?_) λg=>am ?_
  ·have g:0<(i:Int):=by simpa using g
   obtain⟨j,rfl⟩:∃j,i=j+1:=⟨i-1,by omega⟩
   have hj:=eN c.c.2 (i:=j) (by have:=c.c.1;omega);rw[cT (m:=j) (by omega) (by omega)];refine ag (d6 (by have:=c.c.1;omega)) (ag (ml k _) ?_);rw[(xE (q:=gr.Q) (by omega) hj (AA (j+1))).1];refine ag (ml k _) (am ?_);have hx:=gB cQ.1 (C.c.getD j 0*u (j+1));rw[aK (by have:=hc.1;have:=hx.2;omega) (by have:=hc.2;have:=hx.1;omega),zAY];rfl
  have g:¬0<(i:Int):=by simpa using g
  have e:i=0:=by omega
  subst e;show C.c.getD 0 0=(C.c.getD 0 0-0*u 0)%gr.Q;rw[Int.zero_mul,Wf,qM hc.1 hc.2]
 rintro _ rfl;refine aI (by rw[bn];omega) (am ?_);rw[oS (chF gr B.H u C),oS (dlF gr.Q u C)];rfl
def zvc{CM:Int->Int->Option Int}(hC:∀x r,CM x r=J (vc gr h x r)){w v:List Int}(hw:w.length=n)(hv:v.length=n)(hn:n<=100)(hA:A.length<=1000):aU (σ:=(List Int)) (λBK pz=>
 (ix w BK).bind λOh=>
 (ix v BK).bind λkU=>
 (CM Oh kU).bind λCK=>
 gd ((pz.length+1)*8<=140737488355328/\pz.length+1<=4611686018427387904)<|
 J (.go (pz++[CK]))) (λpz=>pz) n 0 A=J (A++rg (λi=>vc gr h (w.getD i 0) (v.getD i 0)) n):=by
 refine qs (λi=>A++rg (λi=>vc gr h (w.getD i 0) (v.getD i 0)) i) (by rw[xw,rR]) λi hi=>?_
 refine ag (d6 (by omega)) (ag (d6 (by omega)) (ag (hC _ _) (aI (by rw[bT,bn];omega) (am ?_))));rw[vy]
def zAS(k:ap gr)(hh:R9 h){ch:List Int}(hc:ch.length=n/\∀z∈ch,aM gr z=Z)(c:wN gr.Q n C)(hn:n<=100)(hA:A.length<=1000):aU (σ:=(List Int)) (λxD pu=>
 (ix ([gr.G]++ch) xD).bind λMs=>
 (ix C.w xD).bind λMx=>
 (ix C.s xD).bind λgU=>
 (cU gr Ms Mx).bind λMl=>
 (cU gr h gU).bind λCh=>
 (er gr [Ml,Ch]).bind λNU=>
 gd ((pu.length+1)*8<=140737488355328/\pu.length+1<=4611686018427387904)<|
 J (.go (pu++[NU]))) (λpu=>pu) n 0 A=J (A++rg (c2F gr h ch C) n):=by
 refine qs (λi=>A++rg (c2F gr h ch C) i) (by rw[xw,rR]) λi hi=>?_
 have hb:=Fl k (om k) hc.2 i (by omega);refine ag hb.1 (ag (d6 (by have:=c.w.1;omega)) (ag (d6 (by have:=c.s.1;omega)) (ag (fA k hb.2 _) (ag (fA k hh _) (ag (j8 k (bL k _ _) (bL k _ _)) (aI (by rw[bT,bn];omega) (am ?_)))))));rw[vy];rfl
def zCV{q y a b:Int}(hq:q<=2000000000)(hy:E9 q y)(ha:E9 q a)(hb:E9 q b):i64.wrap (i64.wrap (y*a)+b)=y*a+b:=by
 have h1:0<=y*a:=tn hy.1 ha.1;have h2:y*a<=2000000000*2000000000:=xN (by have:=hy.2;omega) (by have:=ha.2;omega) ha.1 (by omega);have:=hb.1;have:=hb.2;rw[aK (n:=y*a) (by omega) (by omega),aK (by omega) (by omega)]
def zBI(k:ap gr)(c:wN gr.Q n C){u d e:Nat->Int}(hu:∀i,E9 gr.Q (u i))(hd:∀i,E9 gr.Q (d i))(he:∀i,E9 gr.Q (e i))(hn:n<=100){y t:Int}(hy:E9 gr.Q y)(ht:E9 gr.Q t):aU (σ:=(List Int)×List Int×List Int×List Int×List Int) (λjk dt=>
 (ix C.w jk).bind λPE=>
 (ix (rg u n) jk).bind λNc=>
 (fa gr (i64.wrap (PE+(i64.wrap (t*Nc))))).bind λN7=>
 gd ((dt.1.length+1)*8<=140737488355328/\dt.1.length+1<=4611686018427387904)<|
 (ix C.v jk).bind λOD=>
 (ix C.a jk).bind λPf=>
 (ix C.b jk).bind λFM=>
 (fa gr (i64.wrap ((i64.wrap (y*Pf))+FM))).bind λPJ=>
 (fa gr (i64.wrap (OD+(i64.wrap (t*PJ))))).bind λOR=>
 gd ((dt.2.1.length+1)*8<=140737488355328/\dt.2.1.length+1<=4611686018427387904)<|
 (ix C.s jk).bind λOI=>
 (ix (rg d n) jk).bind λOl=>
 (fa gr (i64.wrap (OI+(i64.wrap (t*Ol))))).bind λPG=>
 gd ((dt.2.2.1.length+1)*8<=140737488355328/\dt.2.2.1.length+1<=4611686018427387904)<|
 (ix C.k jk).bind λMy=>
 (ix (rg e n) jk).bind λC5=>
 (fa gr (i64.wrap (My+(i64.wrap (t*C5))))).bind λOA=>
 gd ((dt.2.2.2.1.length+1)*8<=140737488355328/\dt.2.2.2.1.length+1<=4611686018427387904)<|
 (ix C.m jk).bind λOW=>
 (fa gr (i64.wrap (OW+(i64.wrap (t*FM))))).bind λPL=>
 gd ((dt.2.2.2.2.length+1)*8<=140737488355328/\dt.2.2.2.2.length+1<=4611686018427387904)<|
 J (.go (dt.1++[N7],dt.2.1++[OR],dt.2.2.1++[PG],dt.2.2.2.1++[OA],dt.2.2.2.2++[PL]))) (λdt=>(dt.1,dt.2.1,dt.2.2.1,dt.2.2.2.1,dt.2.2.2.2)) n 0 ([],[],[],[],[])=
  J (rg (rF gr.Q t C.w u) n,rg (rF gr.Q t C.v (abF gr.Q y C)) n,rg (rF gr.Q t C.s d) n,rg (rF gr.Q t C.k e) n,rg (rF gr.Q t C.m (λi=>C.b.getD i 0)) n):=by
 have hP:=k.p;have hq:=k.q;refine qs (λi=>(rg (rF gr.Q t C.w u) i,rg (rF gr.Q t C.v (abF gr.Q y C)) i,rg (rF gr.Q t C.s d) i,rg (rF gr.Q t C.k e) i,rg (rF gr.Q t C.m (λi=>C.b.getD i 0)) i)) rfl λi hi=>?_
 have DV:∀{l:List Int},l.length=n->ix l (i:Int)=J (l.getD i 0):=λh=>d6 (by omega)
 have g2:∀{l:List Int},(l.length=n/\∀z∈l,E9 gr.Q z)->E9 gr.Q (l.getD i 0):=λh=>eN h.2 (by omega)
 refine ag (DV c.w.1) (ag (uB _ hi) (ag (ml k _) (aI (by rw[bn];omega) (ag (DV c.v.1) (ag (DV c.a.1) (ag (DV c.b.1) (ag (ml k _) ?_)))))));rw[zCV (q:=gr.Q) (by omega) hy (g2 c.a) (g2 c.b),(iY (q:=gr.Q) (by omega) (g2 c.w) ht (hu i)).1];refine ag (ml k _) (aI (by rw[bn];omega) (ag (DV c.s.1) (ag (uB _ hi) (ag (ml k _) (aI (by rw[bn];omega) (ag (DV c.k.1) (ag (uB _ hi) (ag (ml k _) (aI (by rw[bn];omega) (ag (DV c.m.1) (ag (ml k _) (aI (by rw[bn];omega) (am ?_)))))))))))));rw[(iY (q:=gr.Q) (by omega) (g2 c.v) ht (gB (by omega) _)).1,(iY (q:=gr.Q) (by omega) (g2 c.s) ht (hd i)).1,(iY (q:=gr.Q) (by omega) (g2 c.k) ht (he i)).1,(iY (q:=gr.Q) (by omega) (g2 c.m) ht (g2 c.b)).1];show _=fO.go _;simp only[oS];rfl
end
section
attribute [local irreducible] chG zaS zdX zaQ
def gN(gr:an)(h:Int)(perm:List Int)(C:Pc)(n:Nat):List Int:=rg (plF gr h perm C) n
def nK(gr:an)(key h:Int)(l:List aq)(perm rs:List Int)(C:Pc):Int:=chG gr sX (zdX key l (zaS gr key l perm rs) (gN gr h perm C l.length))
def kf(gr:an)(key h:Int)(l:List aq)(perm rs:List Int)(C:Pc):Nat->Int:=eF gr.Q (nK gr key h l perm rs C) perm
def ku(gr:an)(key h:Int)(l:List aq)(perm rs:List Int)(C:Pc):List Int:=rg (pwF gr h (kf gr key h l perm rs C) C) l.length
def pj(gr:an)(key h:Int)(l:List aq)(perm rs:List Int)(C:Pc):List Int:=zdX key l (zaS gr key l perm rs) (gN gr h perm C l.length++ku gr key h l perm rs C)
def rB(gr:an)(key h:Int)(l:List aq)(perm rs:List Int)(C:Pc):Int:=chG gr sY (pj gr key h l perm rs C)
def uj(gr:an)(key h:Int)(l:List aq)(perm rs:List Int)(C:Pc):Int:=chG gr sZ (pj gr key h l perm rs C)
def lQ(gr:an)(key h:Int)(l:List aq)(perm rs:List Int)(C:Pc):Nat->Int:=uF gr.Q (rB gr key h l perm rs C) (uj gr key h l perm rs C) (kf gr key h l perm rs C) perm
def jS(gr:an)(key h:Int)(l:List aq)(perm rs:List Int)(C:Pc):List Int:=rg (chF gr h (lQ gr key h l perm rs C) C) l.length
def oM(gr:an)(key h:Int)(out:List aq)(ch:List Int)(C:Pc)(n:Nat):List Int:=(rg (PZ gr h C) n++rg (c2F gr h ch C) n++[ay gr h C.g])++rg (c4F gr h C) n++[aQ gr [ay gr gr.G (i64.wrap (0-C.f)),zaQ gr (sdV out).1 C.k 1],aQ gr [ay gr key (i64.wrap (0-C.f)),zaQ gr (sdV out).2 C.k 1]]
def hJ(gr:an)(key h:Int)(l:List aq)(perm rs:List Int)(C:Pc):List Int:=oM gr key h (zaS gr key l perm rs) (jS gr key h l perm rs C) C l.length
def kq(gr:an)(key h:Int)(l:List aq)(perm rs:List Int)(C:Pc):Int:=chG gr sE (pj gr key h l perm rs C++jS gr key h l perm rs C++hJ gr key h l perm rs C)
def MV(q y t:Int)(u e:Nat->Int)(rs:List Int)(C:Pc)(n:Nat):List Int:=rg (rF q t C.w u) n++(rg (rF q t C.v (abF q y C)) n++(rg (rF q t C.s (dlF q u C)) n++([(C.g+t*C.c.getD (n-1) 0)%q]++(rg (rF q t C.k e) n++(rg (rF q t C.m (λi=>C.b.getD i 0)) n++[(C.f+t*dtN q rs (rg e n) n)%q])))))
def ju(gr:an)(key h:Int)(l:List aq)(perm rs:List Int)(C:Pc):ct:=
 ⟨gN gr h perm C l.length,ku gr key h l perm rs C,jS gr key h l perm rs C,⟨hJ gr key h l perm rs C,[kq gr key h l perm rs C],MV gr.Q (rB gr key h l perm rs C) (kq gr key h l perm rs C) (lQ gr key h l perm rs C) (kf gr key h l perm rs C) rs C l.length⟩⟩
structure gT (gr:an) (key h:Int) (l:List aq) (perm rs:List Int) (C:Pc):Prop where
 m:nD gr key l perm rs
 hh:aM gr h=Z
 c:wN gr.Q l.length C
section
variable {gr:an}{key h:Int}{l:List aq}{perm rs:List Int}{C:Pc}
variable{L:List Int}
def gT.pr(P:gT gr key h l perm rs C):∀z∈perm,0<=z/\z<=1000:=λz hz=>by have:=P.m.pr z hz;have:=P.m.n;omega
def T0(k:ap gr)(P:gT gr key h l perm rs C):∀z∈gN gr h perm C l.length,aM gr z=Z:=nv λi hi=>Iw k P.hh _ _
def zAz(k:ap gr)(P:gT gr key h l perm rs C):∀z∈ku gr key h l perm rs C,aM gr z=Z:=nv λi hi=>Iw k P.hh _ _
def I1(k:ap gr)(P:gT gr key h l perm rs C):(jS gr key h l perm rs C).length=l.length/\∀z∈jS gr key h l perm rs C,aM gr z=Z:=⟨bn _ _,nv λi hi=>Iw k P.hh _ _⟩
def jK{P:Int->Prop}{l m:List Int}(h1:∀x∈l,P x)(h2:∀x∈m,P x):∀x∈l++m,P x:=λx hx=>(kj.1 hx).elim (h1 x) (h2 x)
def EG(k:ap gr)(P:gT gr key h l perm rs C):(hJ gr key h l perm rs C).length=3*l.length+3/\∀z∈hJ gr key h l perm rs C,R9 z:=by
 have v2:∀i,R9 (c2F gr h (jS gr key h l perm rs C) C i):=λi=>n0 k (bL k _ _) (bL k _ _)
 refine⟨by unfold hJ oM;simp[bn];omega,?_⟩;unfold hJ oM;refine jK (jK (jK (jK (nv λi _=>zCn k _ _ _) (nv λi _=>v2 i)) ?_) (nv λi _=>zCn k _ _ _)) ?_
 ·intro x hx;rw[gP]at hx;rw[hx];exact bL k _ _
 intro x hx;simp only[f6,jy,jz]at hx;rcases hx with rfl|rfl<;>exact n0 k (bL k _ _) (fY k _ _)
def Oy(k:ap gr)(P:gT gr key h l perm rs C):(pj gr key h l perm rs C).length=1+6*l.length/\(pj gr key h l perm rs C).all cI=Z:=by
 have dR:=P.m.pl;refine⟨by unfold pj;rw[GO,k8,bT,gN,ku,bn,bn];omega,?_⟩;unfold pj;exact ET k P.m.key P.m.c (v4 k P.m) (pA k (bm.2 (jK (T0 k P) (zAz k P))))
def MN(k:ap gr)(P:gT gr key h l perm rs C):(zdX key l (zaS gr key l perm rs) (gN gr h perm C l.length)).length=1+5*l.length/\(zdX key l (zaS gr key l perm rs) (gN gr h perm C l.length)).all cI=Z:=by
 have dR:=P.m.pl;exact⟨by rw[GO,k8,gN,bn];omega,ET k P.m.key P.m.c (v4 k P.m) (pA k (bm.2 (T0 k P)))⟩
def zAh(k:ap gr)(P:gT gr key h l perm rs C):(pj gr key h l perm rs C++jS gr key h l perm rs C++hJ gr key h l perm rs C).length=4+10*l.length/\(pj gr key h l perm rs C++jS gr key h l perm rs C++hJ gr key h l perm rs C).all cI=Z:=by
 have h1:=Oy k P;have h2:=I1 k P;have h3:=EG k P;refine⟨by rw[bT,bT,h1.1,h2.1,h3.1];omega,?_⟩;rw[kQ,kQ,h1.2,pA k (bm.2 h2.2),zAF h3.2];rfl
def qG(k:ap gr){s:ByteArray}(hs:s.size<=40)(hl:L.length<=300)(hd:L.all cI=Z):m7 gr s L=J (chG gr s L,Z)/\qc gr s L=J (chG gr s L):=by
 refine⟨?_,MW k (by omega) (by omega) hd⟩;rw[Mi k _ (by omega),aD (NC k hs (by omega) hd)]
def Xv(h:L.length<=1000):vh L=J L:=eV (by omega)
def zAp(k:ap gr)(hl:L.length<=300)(hd:L.all cI=Z):Cx gr L=J (chG gr sY L,chG gr sZ L,Z):=by
 unfold Cx;exact bH (ag (qG k (by decide) hl hd).1 (ag (qG k (by decide) hl hd).1 (az (ψ:=(· =aa)) (bw rfl (am rfl)) λb hb=>by subst hb;exact bw rfl (am rfl))))
def Pc.cs(C:Pc):List Int:=C.a++(C.b++(C.c++(C.w++(C.v++(C.s++(C.g::(C.k++(C.m++[C.f]))))))))
attribute [local irreducible] rg plF pwF chF uF dlF c2F rF abF eF dtN sdV vc
set_option maxHeartbeats 4000000 in
def Ys(k:ap gr){B:cA}(P:gT gr key B.H l perm rs C):Fv gr B key l perm rs C.cs=J (ju gr key B.H l perm rs C,Z):=by
 have hp:=k.p;have hq:=k.q;have cQ:0<gr.Q/\gr.Q<=2000000000:=by omega
 have hn:=P.m.n;have dR:=P.m.pl;have fF:=P.m.rl;have hk:=d4 k P.m.key;have hH:=d4 k P.hh;have kR:(zaS gr key l perm rs).length=l.length:=by rw[k8,P.m.pl]
 have gy:=r7 k (v4 k P.m);have fk:=m8 (zaS gr key l perm rs);rw[kR]at fk;have hx:E9 gr.Q (nK gr key B.H l perm rs C):=mF k _ _;have hy:E9 gr.Q (rB gr key B.H l perm rs C):=mF k _ _;have hz:E9 gr.Q (uj gr key B.H l perm rs C):=mF k _ _;have ht:E9 gr.Q (kq gr key B.H l perm rs C):=mF k _ _;have a1:=MN k P;have a2:=Oy k P;have a3:=zAh k P;have a4:=EG k P;have a5:=I1 k P;have ee:∀i,E9 gr.Q (kf gr key B.H l perm rs C i):=λi=>ND cQ.1 _ _ _
 have ue:∀i,E9 gr.Q (lQ gr key B.H l perm rs C i):=λi=>by unfold lQ uF;exact gB cQ.1 _
 have de:∀i,E9 gr.Q (dlF gr.Q (lQ gr key B.H l perm rs C) C i):=λi=>by unfold dlF;exact gB cQ.1 _
 have lP:(gN gr B.H perm C l.length).length=l.length:=bn _ _;have lW:(ku gr key B.H l perm rs C).length=l.length:=bn _ _;have c1:=Ui k P.m;have c2:=zHd (B:=B) k hH P.pr dR P.c.a.1 (by omega);have c3:=Gp (key:=key) (l:=l) (out:=zaS gr key l perm rs) (m:=gN gr B.H perm C l.length) (by omega) (by omega) (by omega);have c4:=(qG k (s:=sX) (by decide) (by omega) a1.2).1;have c5:=zBj (B:=B) (A:=gN gr B.H perm C l.length) k hH P.pr dR P.c.b.1 (by omega) hx;have c6:=Gp (key:=key) (l:=l) (out:=zaS gr key l perm rs) (m:=gN gr B.H perm C l.length++ku gr key B.H l perm rs C) (by omega) (by omega) (by rw[bT];omega);have c7:=zAp k (L:=pj gr key B.H l perm rs C) (by omega) a2.2;have c8:=zA2 (B:=B) (A:=gN gr B.H perm C l.length) (W:=ku gr key B.H l perm rs C) k hH P.pr dR P.c (by omega) (x:=nK gr key B.H l perm rs C) hy hz;have c9:=(zvc (A:=[]) (C2 (B:=B) k hH) P.c.w.1 P.c.v.1 (by omega) (by simp)).trans (show _=J (rg (PZ gr B.H C) l.length)from by rw[na];rfl);have zd:=λA hA=>zAS (A:=A) k hH a5 P.c (by omega) hA
 have sG:=λA hA=>zvc (A:=A) (C2 (B:=B) k hH) P.c.k.1 P.c.m.1 (by omega) hA
 have Ua:=(sN (l:=zaS gr key l perm rs) (by omega)).1;have Vr:=oY (m:=C.k) k gy.1 (by have:=P.c.k.1;omega);have Rd:=oY (m:=C.k) k gy.2 (by have:=P.c.k.1;omega)
 have c15:pW [pj gr key B.H l perm rs C,jS gr key B.H l perm rs C,hJ gr key B.H l perm rs C]=J (pj gr key B.H l perm rs C++jS gr key B.H l perm rs C++hJ gr key B.H l perm rs C):=by
  have e:[pj gr key B.H l perm rs C,jS gr key B.H l perm rs C,hJ gr key B.H l perm rs C].flatten=pj gr key B.H l perm rs C++jS gr key B.H l perm rs C++hJ gr key B.H l perm rs C:=by simp
  rw[Gu _ (by rw[e,a3.1];omega),e]
 have Ro:=(qG k (s:=sE) (by decide) (by omega) a3.2).1;have c17:=zBI k P.c ue de ee (by omega) hy ht;have lE:(rg (kf gr key B.H l perm rs C) l.length).length=l.length:=bn _ _;have QA:=((QM cQ (l:=rs) (m:=rg (kf gr key B.H l perm rs C) l.length) (BS P.m.re) (nv λi _=>ee i) (by omega)).trans (by rw[fF]):xe rs (rg (kf gr key B.H l perm rs C) l.length) gr.Q=J (dtN gr.Q rs (rg (kf gr key B.H l perm rs C) l.length) l.length))
 have Rh:=AV cQ.1 rs (rg (kf gr key B.H l perm rs C) l.length) l.length;have gX:ix C.c ((l.length-1:Nat):Int)=J (C.c.getD (l.length-1) 0):=d6 (by have:=P.c.c.1;omega);have Vf:E9 gr.Q (C.c.getD (l.length-1) 0):=eN P.c.c.2 (by have:=P.c.c.1;omega);have x1:=(ml k _).trans (gF (λv=>J (v%gr.Q)) (iY (by omega) P.c.g ht Vf).1);have x2:=(ml k _).trans (gF (λv=>J (v%gr.Q)) (iY (by omega) P.c.f ht Rh).1);have w1:i64.wrap ((l.length:Int)-1)=((l.length-1:Nat):Int):=cT (by omega) (by omega);unfold Fv Pc.cs;refine bH (ag (mI P.c.a.1) (ag (mI P.c.b.1) (ag (mI P.c.c.1) (ag (mI P.c.w.1) (ag (mI P.c.v.1) (ag (mI P.c.s.1) (ag (Ay _ _) (ag (mI P.c.k.1) (ag (mI P.c.m.1) (ag (Ay _ _) ?_))))))))));dsimp only;refine ag c1 (ag c2 (ag c3 (ag c4 (ag c5 ?_))));dsimp only;refine ag (Xv (by show(gN gr B.H perm C l.length).length<=_;omega)) (aI (by rw[lP,bn];omega) (ag c6 (ag c7 (ag c8 ?_))));dsimp only;refine aI (by rw[bn];simp;omega) (ag rfl (ag c9 (ag (zd _ ?_) (ag (fA k hH _) (aI ?_ (ag (sG _ ?_) (ag Ua ?_)))))))
 ·rw[bn];omega
 ·simp only[bT,bn];omega
 ·simp only[bT,bn,d5,iz];omega
 refine ag (fA k (fU k) _) (ag Vr (ag (j8 k (bL k _ _) (fY k _ _)) (ag (fA k hk _) (ag Rd (ag (j8 k (bL k _ _) (fY k _ _)) (aI ?_ (ag c15 (ag Ro (az (ψ:=(· =aa)) (bw rfl (bw rfl (am rfl))) ?_)))))))))
 ·simp only[bT,bn,d5,iz];omega
 rintro _ rfl;refine bw rfl (ag c17 ?_);rw[w1];refine ag gX (ag x1 (ag QA (ag x2 (ag (Gu _ ?_) (am ?_)))))
 ·simp[bn];omega
 unfold ju MV;simp only[HI,List.flatten_nil,rR];rfl
end
end
section
variable {gr:an}{h:Int}{perm:List Int}{C:Pc}{n:Nat}
variable{A W:List Int}
def zHr(k:ap gr)(hp:∀x∈perm,0<=x/\x<=1000)(hl:perm.length=n)(hn:n<=100){x:Int}(hx:E9 gr.Q x):Ku gr perm x=J (rg (eF gr.Q x perm) n):=by
 unfold Ku;rw[hl];refine bH (ag (qs (λi=>rg (eF gr.Q x perm) i) rfl λi hi=>?_) (am rfl));have hp:=eN hp (i:=i) (by omega);refine ag (d6 (by omega)) (ag (Q5 k hx hp).2 (aI (by rw[bn];omega) (am ?_)));rw[oS];rfl
def zzC(k:ap gr)(hh:R9 h)(hb:C.b.length=n)(hn:n<=100){e:Nat->Int}:aU (σ:=(List Int)×List Int×List Int×List Int×List Int×List Int) (λf7 bR=>
 (ix (rg e n) f7).bind λgi=>
 (ix C.b f7).bind λjo=>
 (nZ gr h gi jo).bind λeX=>
 gd ((bR.2.1.length+1)*8<=140737488355328/\bR.2.1.length+1<=4611686018427387904)<|
 J (.go (bR.1,bR.2.1++[eX],bR.2.2.1,bR.2.2.2.1,bR.2.2.2.2.1,bR.2.2.2.2.2))) (λbR=>(bR.1,bR.2.1,bR.2.2.1,bR.2.2.2.1,bR.2.2.2.2.1,bR.2.2.2.2.2)) n 0 (A,[],[],[],[],[])=J (A,rg (pwF gr h e C) n,[],[],[],[]):=by
 refine qs (λi=>(A,rg (pwF gr h e C) i,[],[],[],[])) rfl λi hi=>?_
 refine ag (uB _ hi) (ag (d6 (by omega)) (ag (GY k hh _ _) (aI (by rw[bn];omega) (am ?_))));rw[oS];rfl
def zzc(k:ap gr)(hh:R9 h)(hp:∀x∈perm,0<=x/\x<=1000)(hl:perm.length=n)(c:wN gr.Q n C)(hn:n<=100){x y z:Int}(hy:E9 gr.Q y)(hz:E9 gr.Q z) :aU (σ:=(List Int)×List Int×List Int×List Int×List Int×List Int×List Int×List Int×Int×Int) (λve cD=>
 (ix perm ve).bind λoH=>
 gd (gr.Q≠0)<|
 (ix (rg (eF gr.Q x perm) n) ve).bind λNf=>
 (rO (i64.wrap ((i64.wrap ((i64.wrap (y*((i64.wrap (oH+1)).tmod gr.Q)))+Nf))-z)) gr.Q).bind λrb=>
 gd ((cD.2.2.2.2.2.2.1.length+1)*8<=140737488355328/\cD.2.2.2.2.2.2.1.length+1<=4611686018427387904)<|
 gd (gr.Q≠0)<|
 (ix C.c ve).bind λq9=>
 (nZ gr h ((i64.wrap (cD.2.2.2.2.2.2.2.2.1*rb)).tmod gr.Q) q9).bind λyP=>
 gd ((cD.2.2.1.length+1)*8<=140737488355328/\cD.2.2.1.length+1<=4611686018427387904)<|
 (rO (i64.wrap (q9-(i64.wrap (cD.2.2.2.2.2.2.2.2.2*rb)))) gr.Q).bind λyk=>
 gd ((cD.2.2.2.2.2.2.2.1.length+1)*8<=140737488355328/\cD.2.2.2.2.2.2.2.1.length+1<=4611686018427387904)<|
 J (.go (cD.1,cD.2.1,cD.2.2.1++[yP],cD.2.2.2.1,cD.2.2.2.2.1,cD.2.2.2.2.2.1,cD.2.2.2.2.2.2.1++[rb],cD.2.2.2.2.2.2.2.1++[yk],(i64.wrap (cD.2.2.2.2.2.2.2.2.1*rb)).tmod gr.Q,q9))) (λcD=>(cD.1,cD.2.1,cD.2.2.1,cD.2.2.2.1,cD.2.2.2.2.1,cD.2.2.2.2.2.1,cD.2.2.2.2.2.2.1,cD.2.2.2.2.2.2.2.1)) perm.length 0 (A,W,[],[],[],[],[],[],1,0)=
  J (A,W,rg (chF gr h (uF gr.Q y z (eF gr.Q x perm) perm) C) n,[],[],[],rg (uF gr.Q y z (eF gr.Q x perm) perm) n,rg (dlF gr.Q (uF gr.Q y z (eF gr.Q x perm) perm) C) n):=by
 rw[hl];have hP:=k.p;have hq:=k.q;have cQ:0<gr.Q/\gr.Q<=2000000000:=by omega
 have hQ:gr.Q≠0:=by omega
 generalize hu:uF gr.Q y z (eF gr.Q x perm) perm=u;have AA:∀i,E9 gr.Q (u i):=λi=>by rw[<-hu];exact gB cQ.1 _
 refine qs (λi=>(A,W,rg (chF gr h u C) i,[],[],[],rg u i,rg (dlF gr.Q u C) i,sU gr.Q u i,BO C i)) rfl λi hi=>?_
 have hp:=eN hp (i:=i) (by omega);have hc:=eN c.c.2 (i:=i) (by have:=c.c.1;omega);have hm:=(xE (q:=gr.Q) (by omega) (zAa (by omega) u i) (AA i)).2;have hls:=(xE (q:=gr.Q) (by omega) (zAH cQ.1 c (i:=i) (by omega)) (AA i)).1
 have y8:0<=BO C i*u i/\BO C i*u i<=2000000000*2000000000:=by
  have a:=zAH cQ.1 c (i:=i) (by omega);have b:=AA i;exact⟨tn a.1 b.1,xN (by have:=a.2;omega) (by have:=b.2;omega) b.1 (by omega)⟩
 refine ag (d6 (by omega)) (aI hQ (ag (uB _ hi) (ag (Dp (by omega) (by omega)) ?_)));rw[zKI cQ hy hp (ND cQ.1 _ _ _) hz,show(y*(perm.getD i 0+1)+eF gr.Q x perm i-z)%gr.Q=u i by rw[<-hu];rfl];refine aI (by rw[bn];omega) (aI hQ (ag (d6 (by have:=c.c.1;omega)) ?_));dsimp only;rw[hm,hls,aK (n:=C.c.getD i 0-BO C i*u i) (by have:=hc.1;omega) (by have:=hc.2;omega)];refine ag (GY k hh _ _) (aI (by rw[bn];omega) (ag (Dp (by omega) (by omega)) (aI (by rw[bn];omega) (am ?_))));simp only[oS];rfl
def zsR(k:ap gr)(hh:R9 h){w v:List Int}(hw:w.length=n)(hv:v.length=n)(hn:n<=100){H D:List Int}{X Y:List Int}(hD:D.length<=1000):aU (σ:=(List Int)×List Int×List Int×List Int×List Int×List Int) (λAK dM=>
 (ix w AK).bind λjt=>
 (ix v AK).bind λjI=>
 (nZ gr h jt jI).bind λoF=>
 gd ((dM.2.2.2.1.length+1)*8<=140737488355328/\dM.2.2.2.1.length+1<=4611686018427387904)<|
 J (.go (dM.1,dM.2.1,dM.2.2.1,dM.2.2.2.1++[oF],dM.2.2.2.2.1,dM.2.2.2.2.2))) (λdM=>(dM.1,dM.2.1,dM.2.2.1,dM.2.2.2.1,dM.2.2.2.2.1,dM.2.2.2.2.2)) n 0 (A,W,H,D,X,Y)=J (A,W,H,D++rg (λi=>vc gr h (w.getD i 0) (v.getD i 0)) n,X,Y):=by
 refine qs (λi=>(A,W,H,D++rg (λi=>vc gr h (w.getD i 0) (v.getD i 0)) i,X,Y)) (by rw[xw,rR]) λi hi=>?_
 refine ag (d6 (by omega)) (ag (d6 (by omega)) (ag (GY k hh _ _) (aI (by dsimp only;rw[bT,bn];omega) (am ?_))));rw[vy]
def zzw(k:ap gr)(hh:R9 h){ch:List Int}(hc:ch.length=n/\∀z∈ch,aM gr z=Z)(c:wN gr.Q n C)(hn:n<=100){D X Y:List Int}(hD:D.length<=1000):aU (σ:=(List Int)×List Int×List Int×List Int×List Int×List Int×Int) (λxi dj=>
 (ix C.w xi).bind λMg=>
 (ix C.s xi).bind λNx=>
 (cH gr dj.2.2.2.2.2.2 Mg).bind λMk=>
 (cH gr h Nx).bind λMK=>
 (ej gr [Mk,MK]).bind λJv=>
 gd ((dj.2.2.2.1.length+1)*8<=140737488355328/\dj.2.2.2.1.length+1<=4611686018427387904)<|
 (ix dj.2.2.1 xi).bind λIh=>
 J (.go (dj.1,dj.2.1,dj.2.2.1,dj.2.2.2.1++[Jv],dj.2.2.2.2.1,dj.2.2.2.2.2.1,Ih))) (λdj=>(dj.1,dj.2.1,dj.2.2.1,dj.2.2.2.1,dj.2.2.2.2.1,dj.2.2.2.2.2.1)) n 0 (A,W,ch,D,X,Y,gr.G)=J (A,W,ch,D++rg (c2F gr h ch C) n,X,Y):=by
 refine qs (λi=>(A,W,ch,D++rg (c2F gr h ch C) i,X,Y,bef gr.G ch i)) (by rw[xw,rR];rfl) λi hi=>?_
 have hb:=Fl k (om k) hc.2 i (by omega);refine ag (d6 (by have:=c.w.1;omega)) (ag (d6 (by have:=c.s.1;omega)) (ag (fo k hb.2 _) (ag (fo k hh _) (ag (iV k (bL k _ _) (bL k _ _)) (aI (by dsimp only;rw[bT,bn];omega) (ag (d6 (by have:=hc.1;dsimp only;omega)) (am ?_)))))));have e:ch.getD i 0=bef gr.G ch (i+1):=by unfold bef;simp
 rw[vy,e];rfl
def Ph(k:ap gr){w:List Int}(hw:w.length=n/\∀z∈w,E9 gr.Q z){L:List Int}{u:Nat->Int}(hu:∀i,i<n->ix L (i:Int)=J (u i)/\E9 gr.Q (u i))(hn:n<=100){t:Int}(ht:E9 gr.Q t)(hA:A.length<=1000):aU (σ:=(List Int)) (λAs nQ=>
 (ix w As).bind λLL=>
 (ix L As).bind λIY=>
 gd (gr.Q≠0)<|
 gd ((nQ.length+1)*8<=140737488355328/\nQ.length+1<=4611686018427387904)<|
 J (.go (nQ++[(i64.wrap (LL+(i64.wrap (t*IY)))).tmod gr.Q]))) (λnQ=>nQ) n 0 A=J (A++rg (rF gr.Q t w u) n):=by
 have hP:=k.p;have hq:=k.q;refine qs (λi=>A++rg (rF gr.Q t w u) i) (by rw[xw,rR]) λi hi=>?_
 refine ag (d6 (by omega)) (ag (hu i hi).1 (aI (by omega) (aI (by rw[bT,bn];omega) (am ?_))));rw[(iY (q:=gr.Q) (by omega) (eN hw.2 (by omega)) ht (hu i hi).2).2,vy];rfl
def zzd(k:ap gr)(c:wN gr.Q n C)(hn:n<=100){y t:Int}(hy:E9 gr.Q y)(ht:E9 gr.Q t)(hA:A.length<=1000):aU (σ:=(List Int)) (λxc nW=>
 (ix C.v xc).bind λKX=>
 (ix C.a xc).bind λIF=>
 (ix C.b xc).bind λH8=>
 gd (gr.Q≠0)<|
 gd (gr.Q≠0)<|
 gd ((nW.length+1)*8<=140737488355328/\nW.length+1<=4611686018427387904)<|
 J (.go (nW++[(i64.wrap (KX+(i64.wrap (t*((i64.wrap ((i64.wrap (y*IF))+H8)).tmod gr.Q))))).tmod gr.Q]))) (λnW=>nW) n 0 A=J (A++rg (rF gr.Q t C.v (abF gr.Q y C)) n):=by
 have hP:=k.p;have hq:=k.q;refine qs (λi=>A++rg (rF gr.Q t C.v (abF gr.Q y C)) i) (by rw[xw,rR]) λi hi=>?_
 have g2:∀{l:List Int},(l.length=n/\∀z∈l,E9 gr.Q z)->E9 gr.Q (l.getD i 0):=λh=>eN h.2 (by omega)
 refine ag (d6 (by have:=c.v.1;omega)) (ag (d6 (by have:=c.a.1;omega)) (ag (d6 (by have:=c.b.1;omega)) (aI (by omega) (aI (by omega) (aI (by rw[bT,bn];omega) (am ?_))))));have e0:(y*C.a.getD i 0+C.b.getD i 0).tmod gr.Q=(y*C.a.getD i 0+C.b.getD i 0)%gr.Q:=jx (by have:=tn hy.1 (g2 c.a).1;have:=(g2 c.b).1;omega);rw[zCV (q:=gr.Q) (by omega) hy (g2 c.a) (g2 c.b),e0,(iY (q:=gr.Q) (by omega) (g2 c.v) ht (gB (by omega) _)).2,vy];rfl
end
def zt{α:Type}{A X R L:List α}{p q:Nat}(e:L=A++(X++R))(h1:A.length=p)(h2:p+X.length=q):(L.take q).drop p=X:=by
 rw[e,<-ie,a1B (by simp;omega),Qr h1]
def NX(key:Int)(l out:List aq)(m w:List Int):zdX key l out m++w=zdX key l out (m++w):=by simp[zdX]
def zFo{q:Int}{n:Nat}{C:Pc}(c:wN q n C):C.cs.length=8*n+2/\(C.cs.take n).drop 0=C.a/\(C.cs.take (2*n)).drop n=C.b/\(C.cs.take (3*n)).drop (2*n)=C.c/\(C.cs.take (4*n)).drop (3*n)=C.w/\(C.cs.take (5*n)).drop (4*n)=C.v/\(C.cs.take (6*n)).drop (5*n)=C.s/\(C.cs.take (7*n+1)).drop (6*n+1)=C.k/\(C.cs.take (8*n+1)).drop (7*n+1)=C.m/\ix C.cs ((6*n:Nat):Int)=J C.g/\ix C.cs ((8*n+1:Nat):Int)=J C.f:=by
 have lA:=c.a.1;have lB:=c.b.1;have lC:=c.c.1;have lW:=c.w.1;have lV:=c.v.1;have lS:=c.s.1;have lK:=c.k.1;have lM:=c.m.1;refine⟨by simp[Pc.cs];omega,?_,?_,?_,?_,?_,?_,?_,?_,?_,?_⟩
 ·exact zt (A:=[]) (R:=(C.b++(C.c++(C.w++(C.v++(C.s++(C.g::(C.k++(C.m++[C.f]))))))))) (by simp[Pc.cs]) rfl (by omega)
 ·exact zt (A:=C.a) (R:=(C.c++(C.w++(C.v++(C.s++(C.g::(C.k++(C.m++[C.f])))))))) (by simp[Pc.cs]) lA (by omega)
 ·exact zt (A:=(C.a++C.b)) (R:=(C.w++(C.v++(C.s++(C.g::(C.k++(C.m++[C.f]))))))) (by simp[Pc.cs]) (by simp;omega) (by omega)
 ·exact zt (A:=(C.a++(C.b++C.c))) (R:=(C.v++(C.s++(C.g::(C.k++(C.m++[C.f])))))) (by simp[Pc.cs]) (by simp;omega) (by omega)
 ·exact zt (A:=(C.a++(C.b++(C.c++C.w)))) (R:=(C.s++(C.g::(C.k++(C.m++[C.f]))))) (by simp[Pc.cs]) (by simp;omega) (by omega)
 ·exact zt (A:=(C.a++(C.b++(C.c++(C.w++C.v))))) (R:=(C.g::(C.k++(C.m++[C.f])))) (by simp[Pc.cs]) (by simp;omega) (by omega)
 ·exact zt (A:=(C.a++(C.b++(C.c++(C.w++(C.v++(C.s++[C.g]))))))) (R:=(C.m++[C.f])) (by simp[Pc.cs]) (by simp;omega) (by omega)
 ·exact zt (A:=(C.a++(C.b++(C.c++(C.w++(C.v++(C.s++([C.g]++C.k)))))))) (R:=[C.f]) (by simp[Pc.cs]) (by simp;omega) (by omega)
 ·have e:C.cs=(C.a++(C.b++(C.c++(C.w++(C.v++C.s)))))++(C.g::(C.k++(C.m++[C.f]))):=by simp[Pc.cs]
  have h0:(C.a++(C.b++(C.c++(C.w++(C.v++C.s))))).length=6*n:=by simp;omega
  exact Ij (by rw[e,gj (by omega),h0,Nat.sub_self];rfl)
 have e:C.cs=(C.a++(C.b++(C.c++(C.w++(C.v++(C.s++([C.g]++(C.k++C.m))))))))++[C.f]:=by simp[Pc.cs]
 have h0:(C.a++(C.b++(C.c++(C.w++(C.v++(C.s++([C.g]++(C.k++C.m)))))))).length=8*n+1:=by simp;omega
 exact Ij (by rw[e,gj (by omega),h0,Nat.sub_self];rfl)
section
attribute [local irreducible] chG zaS zdX zaQ
section
variable {gr:an}{key h:Int}{l:List aq}{perm rs:List Int}{C:Pc}
def zEI(k:ap gr)(P:gT gr key h l perm rs C):Av gr key l (zaS gr key l perm rs) (gN gr h perm C l.length) (ku gr key h l perm rs C)=J (rB gr key h l perm rs C,uj gr key h l perm rs C):=by
 have hn:=P.m.n;have kR:(zaS gr key l perm rs).length=l.length:=by rw[k8,P.m.pl]
 have lP:(gN gr h perm C l.length).length=l.length:=bn _ _;have lW:(ku gr key h l perm rs C).length=l.length:=bn _ _;have a1:=MN k P;have a2:=Oy k P;unfold Av;refine bH (ag (Aq (by omega) (by omega) (by omega)) (aI (by omega) ?_));rw[NX];exact ag (qG k (s:=sY) (by decide) (by have:=a2.1;omega) a2.2).2 (ag (qG k (s:=sZ) (by decide) (by have:=a2.1;omega) a2.2).2 (am rfl))
def zIg(k:ap gr)(P:gT gr key h l perm rs C){x y:List Int}:zG gr key l (zaS gr key l perm rs) ⟨gN gr h perm C l.length,ku gr key h l perm rs C,jS gr key h l perm rs C,⟨hJ gr key h l perm rs C,x,y⟩⟩=J (kq gr key h l perm rs C):=by
 have hn:=P.m.n;have kR:(zaS gr key l perm rs).length=l.length:=by rw[k8,P.m.pl]
 have lP:(gN gr h perm C l.length).length=l.length:=bn _ _;have lW:(ku gr key h l perm rs C).length=l.length:=bn _ _;have lH:=(I1 k P).1;have lM:=(EG k P).1;have a1:=MN k P;have a2:=Oy k P;have a3:=zAh k P;have a2':(zdX key l (zaS gr key l perm rs) (gN gr h perm C l.length++ku gr key h l perm rs C)).length=1+6*l.length:=a2.1;unfold zG;dsimp only;refine bH (ag (Aq (by omega) (by omega) (by omega)) (aI (by omega) ?_));rw[NX];exact aI (by omega) (aI (by rw[bT];omega) (ag (qG k (s:=sE) (by decide) (by have:=a3.1;unfold pj at this;omega) a3.2).2 (am rfl)))
attribute [local irreducible] rg plF pwF chF uF dlF c2F rF abF eF dtN sdV vc
set_option maxHeartbeats 4000000 in
def zEF(k:ap gr)(P:gT gr key h l perm rs C):Fq gr key h l perm rs C.cs=J (ju gr key h l perm rs C):=by
 have hp:=k.p;have hq:=k.q;have cQ:0<gr.Q/\gr.Q<=2000000000:=by omega
 have hQ:gr.Q≠0:=by omega
 have hn:=P.m.n;have dR:=P.m.pl;have fF:=P.m.rl;have hk:=d4 k P.m.key;have hH:=d4 k P.hh;have kR:(zaS gr key l perm rs).length=l.length:=by rw[k8,P.m.pl]
 have gy:=r7 k (v4 k P.m);have fk:=m8 (zaS gr key l perm rs);rw[kR]at fk;have hx:E9 gr.Q (nK gr key h l perm rs C):=mF k _ _;have hy:E9 gr.Q (rB gr key h l perm rs C):=mF k _ _;have hz:E9 gr.Q (uj gr key h l perm rs C):=mF k _ _;have ht:E9 gr.Q (kq gr key h l perm rs C):=mF k _ _;have a1:=MN k P;have a4:=EG k P;have a5:=I1 k P;have ee:∀i,E9 gr.Q (kf gr key h l perm rs C i):=λi=>ND cQ.1 _ _ _
 have ue:∀i,E9 gr.Q (lQ gr key h l perm rs C i):=λi=>by unfold lQ uF;exact gB cQ.1 _
 have de:∀i,E9 gr.Q (dlF gr.Q (lQ gr key h l perm rs C) C i):=λi=>by unfold dlF;exact gB cQ.1 _
 have lP:(gN gr h perm C l.length).length=l.length:=bn _ _;have c1:=QB k P.m;have c2:=zE9 (h:=h) k hH P.pr dR P.c.a.1 (by omega);have c3:=Aq (key:=key) (l:=l) (out:=zaS gr key l perm rs) (m:=gN gr h perm C l.length) (by omega) (by omega) (by omega);have c4:=(qG k (s:=sX) (by decide) (by omega) a1.2).2;have c5:=zHr k P.pr dR (by omega) hx;have c6:=zzC (A:=gN gr h perm C l.length) (e:=kf gr key h l perm rs C) k hH P.c.b.1 (by omega);have c7:=zEI k P;have c8:=zzc (A:=gN gr h perm C l.length) (W:=ku gr key h l perm rs C) k hH P.pr dR P.c (by omega) (x:=nK gr key h l perm rs C) hy hz;have c9:=(zsR (A:=gN gr h perm C l.length) (W:=ku gr key h l perm rs C) (H:=jS gr key h l perm rs C) (D:=[]) (X:=[]) (Y:=[]) k hH P.c.w.1 P.c.v.1 (by omega) (by simp)).trans (show _=J (gN gr h perm C l.length,ku gr key h l perm rs C,jS gr key h l perm rs C,rg (PZ gr h C) l.length,[],[])from by rw[na];rfl);have zd:=λD hD=>zzw (A:=gN gr h perm C l.length) (W:=ku gr key h l perm rs C) (D:=D) (X:=[]) (Y:=[]) k hH a5 P.c (by omega) hD
 have sG:=λD hD=>zsR (A:=gN gr h perm C l.length) (W:=ku gr key h l perm rs C) (H:=jS gr key h l perm rs C) (D:=D) (X:=[]) (Y:=[]) k hH P.c.k.1 P.c.m.1 (by omega) hD
 have Ua:=(sN (l:=zaS gr key l perm rs) (by omega)).2;have Vr:=pe (m:=C.k) k gy.1 (by rw[fk.1,P.c.k.1];exact cB _);have Rd:=pe (m:=C.k) k gy.2 (by rw[fk.2,P.c.k.1];exact cB _);have Ro:=zIg k P (x:=[]) (y:=[]);have r1:=λA hA=>Ph (A:=A) k P.c.w (L:=rg (lQ gr key h l perm rs C) l.length) (u:=lQ gr key h l perm rs C) (λi hi=>⟨uB _ hi,ue i⟩) (by omega) ht hA
 have r2:=λA hA=>zzd (A:=A) k P.c (by omega) hy ht hA
 have r3:=λA hA=>Ph (A:=A) k P.c.s (L:=rg (dlF gr.Q (lQ gr key h l perm rs C) C) l.length) (u:=dlF gr.Q (lQ gr key h l perm rs C) C) (λi hi=>⟨uB _ hi,de i⟩) (by omega) ht hA
 have r4:=λA hA=>Ph (A:=A) k P.c.k (L:=rg (kf gr key h l perm rs C) l.length) (u:=kf gr key h l perm rs C) (λi hi=>⟨uB _ hi,ee i⟩) (by omega) ht hA
 have r5:=λA hA=>Ph (A:=A) k P.c.m (L:=C.b) (u:=λi=>C.b.getD i 0) (λi hi=>⟨d6 (by rw[P.c.b.1];exact hi),eN P.c.b.2 (by rw[P.c.b.1];exact hi)⟩) (by omega) ht hA
 have QA:=((Sf cQ (l:=rs) (m:=rg (kf gr key h l perm rs C) l.length) (BS P.m.re) (nv λi _=>ee i) ((bn _ _).trans fF.symm)).trans (by rw[fF]):uO rs (rg (kf gr key h l perm rs C) l.length) gr.Q=J (dtN gr.Q rs (rg (kf gr key h l perm rs C) l.length) l.length))
 have Rh:=AV cQ.1 rs (rg (kf gr key h l perm rs C) l.length) l.length;have gX:ix C.c ((l.length-1:Nat):Int)=J (C.c.getD (l.length-1) 0):=d6 (by rw[P.c.c.1];omega);have Vf:E9 gr.Q (C.c.getD (l.length-1) 0):=eN P.c.c.2 (by rw[P.c.c.1];omega);have x1:=(iY (q:=gr.Q) (by omega) P.c.g ht Vf).2;have x2:=(iY (q:=gr.Q) (by omega) P.c.f ht Rh).2;have w1:i64.wrap ((l.length:Int)-1)=((l.length-1:Nat):Int):=cT (by omega) (by omega);have w2:i64.wrap (2*(l.length:Int))=((2*l.length:Nat):Int):=cT (by omega) (by omega);have w3:i64.wrap (3*(l.length:Int))=((3*l.length:Nat):Int):=cT (by omega) (by omega);have w4:i64.wrap (4*(l.length:Int))=((4*l.length:Nat):Int):=cT (by omega) (by omega);have w5:i64.wrap (5*(l.length:Int))=((5*l.length:Nat):Int):=cT (by omega) (by omega);have w6:i64.wrap (6*(l.length:Int))=((6*l.length:Nat):Int):=cT (by omega) (by omega);have w7:i64.wrap (7*(l.length:Int))=((7*l.length:Nat):Int):=cT (by omega) (by omega);have w8:i64.wrap (8*(l.length:Int))=((8*l.length:Nat):Int):=cT (by omega) (by omega);have w61:i64.wrap (((6*l.length:Nat):Int)+1)=((6*l.length+1:Nat):Int):=cT (by omega) (by omega);have w71:i64.wrap (((7*l.length:Nat):Int)+1)=((7*l.length+1:Nat):Int):=cT (by omega) (by omega);have w81:i64.wrap (((8*l.length:Nat):Int)+1)=((8*l.length+1:Nat):Int):=cT (by omega) (by omega);obtain⟨a5g,hA,hB,hCc,hW,hV,hS,hK,hM,hg,hf⟩:=zFo P.c;generalize C.cs=aJ at*;clear fk gy;unfold Fq;simp only[w1,w2,w3,w4,w5,w6,w7,w8,w61,w71,w81,dL,hA,hB,hCc,hW,hV,hS,hK,hM,P.c.w.1,P.c.k.1];refine bH (ag c1 ?_)
 iterate 17 refine aI (by omega) ?_
 refine ag hg ?_
 iterate 6 refine aI (by omega) ?_
 refine ag hf (ag c2 (ag c3 (ag c4 (ag c5 ?_))));rw[show(rg (eF gr.Q (nK gr key h l perm rs C) perm) l.length).length=l.length from bn _ _];refine ag c6 (ag c7 (ag c8 (ag Ua (ag c9 (ag (zd _ ?_) ?_)))))
 ·rw[bn];omega
 dsimp only;refine ag (fo k hH _) (aI ?_ (ag (sG _ ?_) ?_))
 ·simp only[bT,bn];omega
 ·simp only[bT,bn,d5,iz];omega
 dsimp only;refine ag (fo k (fU k) _) (ag Vr (ag (iV k (bL k _ _) (fY k _ _)) (ag (fo k hk _) (ag Rd (ag (iV k (bL k _ _) (fY k _ _)) (aI ?_ (ag Ro ?_)))))))
 ·simp only[bT,bn,d5,iz];omega
 refine ag (r1 _ (by simp)) (ag (r2 _ ?_) (ag (r3 _ ?_) (ag gX (aI hQ (aI ?_ (ag (r4 _ ?_) (ag (r5 _ ?_) (ag QA (aI hQ (aI ?_ (am ?_)))))))))))
 ·simp only[bT,bn,iz];omega
 ·simp only[bT,bn,iz];omega
 ·simp only[bT,bn,iz];omega
 ·simp only[bT,bn,d5,iz];omega
 ·simp only[bT,bn,d5,iz];omega
 ·simp only[bT,bn,d5,iz];omega
 have eR:∀R1 R2 R3 R4 R5:List Int,∀a b:Int,[]++R1++R2++R3++[a]++R4++R5++[b]=R1++(R2++(R3++([a]++(R4++(R5++[b]))))):=λR1 R2 R3 R4 R5 a b=>by simp
 rw[x1,x2,eR];unfold ju MV;rfl
end
end
abbrev w9:ct:=⟨[],[],[],⟨[],[],[]⟩⟩
variable{q:Int}
def rL{l:List Int}{n m:Nat}(h:l.length=n+m):∃a r,l=a++r/\a.length=n/\r.length=m:=⟨l.take n,l.drop n,(EA n l).symm,by simp;omega,by simp;omega⟩
def zz1{n:Nat}{aJ:List Int}(hl:aJ.length=8*n+2)(he:∀z∈aJ,E9 q z):∃C:Pc,aJ=C.cs/\wN q n C:=by
 obtain⟨a,r,rfl,ha,h1⟩:=rL (l:=aJ) (n:=n) (m:=7*n+2) (by omega);obtain⟨b,r,rfl,hb,h2⟩:=rL (l:=r) (n:=n) (m:=6*n+2) (by omega);obtain⟨c,r,rfl,hc,h3⟩:=rL (l:=r) (n:=n) (m:=5*n+2) (by omega);obtain⟨w,r,rfl,hw,h4⟩:=rL (l:=r) (n:=n) (m:=4*n+2) (by omega);obtain⟨v,r,rfl,hv,h5⟩:=rL (l:=r) (n:=n) (m:=3*n+2) (by omega);obtain⟨s,r,rfl,hs,h6⟩:=rL (l:=r) (n:=n) (m:=2*n+2) (by omega)
 match r,h6 with
 |g::r,h6=>
  simp only[d5]at h6;obtain⟨k,r,rfl,hk,h7⟩:=rL (l:=r) (n:=n) (m:=n+1) (by omega);obtain⟨m,r,rfl,hm,h8⟩:=rL (l:=r) (n:=n) (m:=1) (by omega)
  match r,h8 with
  |[f],_=>
   refine⟨⟨a,b,c,w,v,s,g,k,m,f⟩,rfl,⟨ha,λz hz=>he z ?_⟩,⟨hb,λz hz=>he z ?_⟩,⟨hc,λz hz=>he z ?_⟩,⟨hw,λz hz=>he z ?_⟩,⟨hv,λz hz=>he z ?_⟩,⟨hs,λz hz=>he z ?_⟩,he g ?_,⟨hk,λz hz=>he z ?_⟩,⟨hm,λz hz=>he z ?_⟩,he f ?_⟩<;>simp_all
  |[],h=>simp at h
  |_::_::_,h=>simp at h
 |[],h6=>simp at h6
structure PpX (gr:an) (key:Int) (l:List aq) (perm rs aJ:List Int) (p:ct):Prop where
 k:ap gr
 x:∃(B:cA) (C:Pc),aJ=C.cs/\gT gr key B.H l perm rs C/\p=ju gr key B.H l perm rs C/\kO gr 0=J (B,Z)
def Pw{gr:an}(k:ap gr)(key:Int){l:List aq}(hd:vv gr l.length)(hl:l.length<=13):∃B,p8 gr 0=J (B,Z)/\kO gr 0=J (B,Z)/\aM gr B.H=Z/\vw gr key l=J (if fH gr key l=Z then(B,Z)else(⟨0,[]⟩,aa)):=by
 obtain⟨Bn,_,b2,_⟩:=M4 k hd hl;obtain⟨B,c1,c2,c3⟩:=M4 k (n:=0) (hd.le (by omega)) (by omega);have c2:kO gr 0=J (B,Z):=c2;refine⟨B,c1,c2,c3.h,?_⟩;unfold vw;rw[wh k key l b2,c2];cases fH gr key l<;>rfl
def PB{gr:an}(k:ap gr)(hd:okD gr=Z)(key:Int){l:List aq}(hl:l.length<=13):∃B,p8 gr 0=J (B,Z)/\kO gr 0=J (B,Z)/\aM gr B.H=Z/\vw gr key l=J (if fH gr key l=Z then(B,Z)else(⟨0,[]⟩,aa)):=Pw k key (Ue k hd hl) hl
def Vk{gr:an}(k:¬ap gr)(key:Int)(l:List aq):vw gr key l=J (⟨0,[]⟩,aa):=by
 unfold vw;rw[NS k];rfl
def zLp(gr:an)(hg:Dg gr)(key:Int){l:List aq}(hl:l.length<=13)(perm rs aJ:List Int):∃p t,sA gr key l perm rs aJ=J (p,t)/\Ba gr key l perm rs aJ=J (p,t)/\(t=aa->p=w9)/\(t=Z->PpX gr key l perm rs aJ p):=by
 have w8:i64.wrap (i64.wrap (8*(l.length:Int))+2)=((8*l.length+2:Nat):Int):=by
  rw[aK (n:=8*(l.length:Int)) (by omega) (by omega)];exact cT (by omega) (by omega)
 by_cases k:ap gr
 ·have hq:=k.q;have hp:=k.p;obtain⟨B,b1,b2,b3,b4⟩:=PB k (hg k) key hl;have e2:((rs.length:Int) !=(l.length:Int))= !decide (rs.length=l.length):=by by_cases h:rs.length=l.length<;>simp[h];omega
  have e3:((aJ.length:Int) !=((8*l.length+2:Nat):Int))= !decide (aJ.length=8*l.length+2):=by by_cases h:aJ.length=8*l.length+2<;>simp[h];omega
  have I:sA gr key l perm rs aJ=if(fH gr key l&&(kH gr l.length perm rs&&(decide (aJ.length=8*l.length+2)&&aJ.all (dx gr))))=Z then(Fv gr B key l perm rs aJ).bind (λz=>J (z.1,z.2))else J (w9,aa):=by
   unfold sA;rw[b4,AO k (by omega),show(decide (perm.length=l.length)&&d8 perm&&(decide (rs.length=l.length)&&rs.all (dx gr)))=kH gr l.length perm rs from rfl,w8,e3,ze (by omega) (by omega)];cases fH gr key l<;>cases kH gr l.length perm rs<;>cases decide (aJ.length=8*l.length+2)<;>cases aJ.all (dx gr)<;>rfl
  have S:Ba gr key l perm rs aJ=if(fH gr key l&&(kH gr l.length perm rs&&(decide (aJ.length=8*l.length+2)&&aJ.all (dx gr))))=Z then(Fq gr key B.H l perm rs aJ).bind (λz=>J (z,Z))else J (w9,aa):=by
   unfold Ba GL;rw[uR k,show(aM gr key&&(dh 1 12 l.length&&l.all (ce gr)))=fH gr key l from rfl,Td perm l.length (by omega),AF (l:=rs) (by omega) (by omega),AF (l:=aJ) (by omega) (by omega),e2,w8,e3,b1];unfold kH;cases fH gr key l<;>cases (decide (perm.length=l.length)&&d8 perm)<;>cases decide (rs.length=l.length)<;>cases rs.all (dx gr)<;>cases decide (aJ.length=8*l.length+2)<;>cases aJ.all (dx gr)<;>rfl
  by_cases hc:(fH gr key l&&(kH gr l.length perm rs&&(decide (aJ.length=8*l.length+2)&&aJ.all (dx gr))))=Z
  ·rw[aD hc]at I S;obtain⟨h1,Ir⟩:=B3.1 hc;obtain⟨h2,DZ⟩:=B3.1 Ir;obtain⟨h3,h4⟩:=B3.1 DZ;have m:=P0.1 (show(fH gr key l&&kH gr l.length perm rs)=Z by rw[h1,h2];rfl);obtain⟨C,rfl,hC⟩:=zz1 (xM h3) (BS h4);have P:gT gr key B.H l perm rs C:=⟨m,b3,hC⟩
   rw[Ys k P]at I;rw[zEF k P]at S;exact⟨ju gr key B.H l perm rs C,Z,I,S,λh=>(by cases h),λ_=>⟨k,B,C,rfl,P,rfl,b2⟩⟩
  rw[aB hc]at I S;exact⟨w9,aa,I,S,λ_=>rfl,λh=>by cases h⟩
 refine⟨w9,aa,?_,?_,λ_=>rfl,λh=>by cases h⟩
 ·unfold sA;rw[Vk k];rfl
 unfold Ba;rw[GZ k];rfl
def zCy{gr:an}{key:Int}{l:List aq}(hl:l.length<=13){perm rs aJ:List Int}{p:ct}(h:PpX gr key l perm rs aJ p):p.bV.length<=1000/\p.bM.length<=1000/\p.aH.length<=1000/\p.Pi.aE.length<=1000/\p.Pi.aW.length<=1000/\p.Pi.aG.length<=1000:=by
 obtain⟨k,B,C,_,P,rfl,_⟩:=h;have h4:=(EG k P).1;refine⟨?_,?_,?_,?_,by simp[ju],by simp[ju,MV,bn];omega⟩
 ·show(rg _ l.length).length<=_;rw[bn];omega
 ·show(rg _ l.length).length<=_;rw[bn];omega
 ·show(rg _ l.length).length<=_;rw[bn];omega
 show(hJ gr key B.H l perm rs C).length<=_;omega
def sx(gr:an)(n:Nat)(p:ct):Bool:=decide (p.bV.length=n)&&(decide (p.bM.length=n)&&(decide (p.aH.length=n)&&(decide (p.Pi.aE.length=3*n+3)&&(decide (p.Pi.aW.length=1)&&(decide (p.Pi.aG.length=5*n+2)&&(p.bV.all (aM gr)&&(p.bM.all (aM gr)&&(p.aH.all (aM gr)&&(p.Pi.aE.all (aM gr)&&p.Pi.aG.all (dx gr))))))))))
def Yy{gr:an}(k:ap gr){n:Nat}(hn:n<=1000)(p:ct):H5 gr p (n:Int)=J (sx gr n p):=by
 have hq:=k.q;have hp:=k.p
 have e1:i64.wrap (i64.wrap (3*(n:Int))+3)=((3*n+3:Nat):Int):=by
  rw[aK (n:=3*(n:Int)) (by omega) (by omega)];exact cT (by omega) (by omega)
 have e2:i64.wrap (i64.wrap (5*(n:Int))+2)=((5*n+2:Nat):Int):=by
  rw[aK (n:=5*(n:Int)) (by omega) (by omega)];exact cT (by omega) (by omega)
 have e3:((p.Pi.aW.length:Int)==1)=decide (p.Pi.aW.length=1):=iS _ 1;unfold H5;rw[e1,e2,iS,iS,iS,iS,iS,e3,C6 k,C6 k,C6 k,C6 k,ze (by omega) (by omega)];unfold sx;generalize decide (p.bV.length=n)=a1;generalize decide (p.bM.length=n)=a2;generalize decide (p.aH.length=n)=a3;generalize decide (p.Pi.aE.length=3*n+3)=a4;generalize decide (p.Pi.aW.length=1)=a5;generalize decide (p.Pi.aG.length=5*n+2)=a6;generalize p.bV.all (aM gr)=a7;generalize p.bM.all (aM gr)=a8;generalize p.aH.all (aM gr)=a9;generalize p.Pi.aE.all (aM gr)=Lg;generalize p.Pi.aG.all (dx gr)=a11;cases a1
 ·rfl
 cases a2
 ·rfl
 cases a3
 ·rfl
 cases a4
 ·rfl
 cases a5
 ·rfl
 cases a6
 ·rfl
 cases a7
 ·rfl
 cases a8
 ·rfl
 cases a9
 ·rfl
 cases Lg<;>rfl
def zAA{gr:an}(k:ap gr){n:Nat}(hn:n<=1000)(p:ct):Je gr (n:Int) p=J (sx gr n p):=by
 have hq:=k.q;have hp:=k.p
 have e1:i64.wrap (i64.wrap (3*(n:Int))+3)=((3*n+3:Nat):Int):=by
  rw[aK (n:=3*(n:Int)) (by omega) (by omega)];exact cT (by omega) (by omega)
 have e2:i64.wrap (i64.wrap (5*(n:Int))+2)=((5*n+2:Nat):Int):=by
  rw[aK (n:=5*(n:Int)) (by omega) (by omega)];exact cT (by omega) (by omega)
 have e3:((p.Pi.aW.length:Int)==1)=decide (p.Pi.aW.length=1):=iS _ 1;unfold Je;rw[e1,e2,iS,iS,iS,iS,iS,e3,zu k,zu k,zu k,zu k,AF (by omega) (by omega)];unfold sx;generalize decide (p.bV.length=n)=a1;generalize decide (p.bM.length=n)=a2;generalize decide (p.aH.length=n)=a3;generalize decide (p.Pi.aE.length=3*n+3)=a4;generalize decide (p.Pi.aW.length=1)=a5;generalize decide (p.Pi.aG.length=5*n+2)=a6;generalize p.bV.all (aM gr)=a7;generalize p.bM.all (aM gr)=a8;generalize p.aH.all (aM gr)=a9;generalize p.Pi.aE.all (aM gr)=Lg;generalize p.Pi.aG.all (dx gr)=a11;cases a1
 ·rfl
 cases a2
 ·rfl
 cases a3
 ·rfl
 cases a4
 ·rfl
 cases a5
 ·rfl
 cases a6
 ·rfl
 cases a7
 ·rfl
 cases a8
 ·rfl
 cases a9
 ·rfl
 cases Lg<;>rfl
def kG(q x:Int):Nat->Int
 |0=>1
 |i+1=>(kG q x i*x)%q
def tgN(q x y z:Int):Nat->Int
 |0=>1
 |i+1=>(tgN q x y z i*((y*((i:Int)+1)+kG q x (i+1)-z)%q))%q
theorem zAD(hq:1<q)(x:Int):∀i,E9 q (kG q x i)
 |0=>⟨by show(0:Int)<=1;omega,hq⟩
 |i+1=>gB (by omega) _
theorem Sv(hq:1<q)(x y z:Int):∀i,E9 q (tgN q x y z i)
 |0=>⟨by show(0:Int)<=1;omega,hq⟩
 |i+1=>gB (by omega) _
def zCT(hq:0<q/\q<=2000000000)(a:Int):AG a q=J (a%q):=Uw hq.1 hq.2
def zGl(hq:1<q/\q<=2000000000){n:Nat}(hn:n<=100){x y z:Int}(hx:E9 q x)(hy:E9 q y)(hz:E9 q z):Kn q (n:Int) x y z=J (tgN q x y z n):=by
 have cQ:0<q/\q<=2000000000:=by omega
 have hQ:q≠0:=by omega
 unfold Kn;refine bH (az (ψ:=(· =tgN q x y z n)) (ll n (λi s=>s=(tgN q x y z i,kG q x i,(i:Int)+1)/\i<=n) ⟨rfl,by omega⟩ ?_ ?_) λv hv=>am hv)
 ·rintro i s hi ⟨rfl,_⟩;have xq:=zAD hq.1 x i;have Ty:=Sv hq.1 x y z i;have m1:=(xE (q:=q) hq.2 xq hx).2;have h1:0<=y*((i:Int)+1):=tn hy.1 (by omega);have h2:y*((i:Int)+1)<=2000000000*101:=xN (by have:=hy.2;omega) (by omega) (by omega) (by omega);have b1:=gB cQ.1 (y*((i:Int)+1));have b2:=gB cQ.1 (kG q x i*x);refine gk (by simp;omega) (aI hQ (aI hQ ?_));dsimp only;rw[m1,aK (n:=y*((i:Int)+1)) (by omega) (by omega),jx h1,aK (n:=y*((i:Int)+1)%q+kG q x i*x%q) (by have:=b1.1;have:=b2.1;omega) (by have:=b1.2;have:=b2.2;omega),aK (by have:=b1.1;have:=b2.1;have:=hz.2;omega) (by have:=b1.2;have:=b2.2;have:=hz.1;omega)];refine ag (zCT cQ _) (aI hQ (am ?_))
  have e:(y*((i:Int)+1)%q+kG q x i*x%q-z)%q=(y*((i:Int)+1)+kG q x (i+1)-z)%q:=by
   show _=(y*((i:Int)+1)+kG q x i*x%q-z)%q;rw[ti,pP,eZ,eZ,ti (y*((i:Int)+1)+_),pP (y*((i:Int)+1)),eZ]
  rw[e,(xE (q:=q) hq.2 Ty (gB cQ.1 _)).2,aK (n:=(i:Int)+1+1) (by omega) (by omega)];refine⟨?_,by omega⟩;show _=(tgN q x y z (i+1),kG q x (i+1),((i+1:Nat):Int)+1);rfl
 rintro s ⟨rfl,_⟩;exact bw (by simp;omega) (am rfl)
def zHh(hq:1<q/\q<=2000000000){n:Nat}(hn:n<=100){x y z:Int}(hx:E9 q x)(hy:E9 q y)(hz:E9 q z):Kl q (n:Int) x y z=J (tgN q x y z n):=by
 have cQ:0<q/\q<=2000000000:=by omega
 have hQ:q≠0:=by omega
 unfold Kl;refine bH (aI hQ (az (ψ:=(· =tgN q x y z n)) (ll n (λi s=>s=(tgN q x y z i,kG q x i,(i:Int)+1)/\i<=n) ⟨?_,by omega⟩ ?_ ?_) λv hv=>am hv))
 ·have e:(1:Int).tmod q=1:=by rw[jx (by omega),qM (by omega) (by omega)]
  rw[e];rfl
 ·rintro i s hi ⟨rfl,_⟩;have xq:=zAD hq.1 x i;have Ty:=Sv hq.1 x y z i;have m1:=(xE (q:=q) hq.2 xq hx).2;have b0:=gB cQ.1 ((i:Int)+1);have h1:0<=y*(((i:Int)+1)%q):=tn hy.1 b0.1;have h2:y*(((i:Int)+1)%q)<=2000000000*2000000000:=xN (by have:=hy.2;omega) (by have:=b0.2;omega) b0.1 (by omega);have b2:=gB cQ.1 (kG q x i*x);refine gk (by simp;omega) (aI hQ (aI hQ ?_));dsimp only;rw[m1,jx (a:=(i:Int)+1) (by omega),aK (n:=y*(((i:Int)+1)%q)) (by omega) (by omega),aK (n:=y*(((i:Int)+1)%q)+kG q x i*x%q) (by have:=b2.1;omega) (by have:=b2.2;omega),aK (by have:=b2.1;have:=hz.2;omega) (by have:=b2.2;have:=hz.1;omega)];refine ag (Dp cQ.1 cQ.2) (aI hQ (am ?_))
  have e:(y*(((i:Int)+1)%q)+kG q x i*x%q-z)%q=(y*((i:Int)+1)+kG q x (i+1)-z)%q:=by
   show _=(y*((i:Int)+1)+kG q x i*x%q-z)%q;rw[ti,pP,ng,eZ,<-ng,<-pP,<-ti]
  rw[e,(xE (q:=q) hq.2 Ty (gB cQ.1 _)).2,aK (n:=(i:Int)+1+1) (by omega) (by omega)];exact⟨rfl,by omega⟩
 rintro s ⟨rfl,_⟩;exact bw (by simp;omega) (am rfl)
def iK(q x:Int)(i:Nat):Int:=((x.toNat^(i+1)%q.toNat:Nat):Int)
def Zv{gr:an}(k:ap gr){x:Int}(hx:E9 gr.Q x){i:Nat}(hi:i<=100):n6 x (i64.wrap ((i:Int)+1)) gr.Q=J (iK gr.Q x i)/\l6 x ((i:Int)+1) gr.Q=J (iK gr.Q x i):=by
 have h:=Q5 k hx (p:=(i:Int)) (by omega);have e:((i:Int)+1).toNat=i+1:=by omega
 have w:i64.wrap ((i:Int)+1)=(i:Int)+1:=aK (by omega) (by omega);rw[e]at h;exact⟨h.1,by rw[w]at h;exact h.2⟩
def zIa{gr:an}(k:ap gr){n:Nat}(hn:n<=100){x:Int}(hx:E9 gr.Q x):Ho gr (n:Int) x=J (rg (iK gr.Q x) n):=by
 unfold Ho;refine bH (az (ψ:=(· =rg (iK gr.Q x) n)) (ll n (λi s=>s=(rg (iK gr.Q x) i,(i:Int)+1)/\i<=n) ⟨rfl,by omega⟩ ?_ ?_) λv hv=>am hv)
 ·rintro i s hi ⟨rfl,_⟩;refine gk (by simp;omega) (ag (Zv k hx (by omega)).2 (aI (by dsimp only;rw[bn];omega) (am ⟨?_,by omega⟩)));dsimp only;rw[aK (n:=(i:Int)+1+1) (by omega) (by omega),oS];rfl
 rintro s ⟨rfl,_⟩;exact bw (by simp;omega) (am rfl)
def GC{gr:an}(k:ap gr){x y w z:Int}(b:Bool)(hx:R9 x)(hy:R9 y):qZ x y w b gr.P gr.Q gr.G z=J (b&&(aQ gr [x,ay gr y z]==w)):=by
 unfold qZ;cases b
 ·rfl
 show(cU gr y z).bind _=_;rw[fA k hy,aS];show(er gr _).bind _=_;rw[j8 k hx (bL k _ _),aS];rfl
structure Rp where
 s1:List Int
 s2:List Int
 s3:List Int
 g:Int
 kk:List Int
 mm:List Int
 f:Int
def Rp.cs(R:Rp):List Int:=R.s1++(R.s2++(R.s3++(R.g::(R.kk++(R.mm++[R.f])))))
structure DI (n:Nat) (R:Rp):Prop where
 s1:R.s1.length=n
 s2:R.s2.length=n
 s3:R.s3.length=n
 kk:R.kk.length=n
 mm:R.mm.length=n
def zGn{n:Nat}{r:List Int}(hl:r.length=5*n+2):∃R:Rp,r=R.cs/\DI n R:=by
 obtain⟨a,r,rfl,ha,h1⟩:=rL (l:=r) (n:=n) (m:=4*n+2) (by omega);obtain⟨b,r,rfl,hb,h2⟩:=rL (l:=r) (n:=n) (m:=3*n+2) (by omega);obtain⟨c,r,rfl,hc,h3⟩:=rL (l:=r) (n:=n) (m:=2*n+2) (by omega)
 match r,h3 with
 |g::r,h3=>
  simp only[d5]at h3;obtain⟨k,r,rfl,hk,h7⟩:=rL (l:=r) (n:=n) (m:=n+1) (by omega);obtain⟨m,r,rfl,hm,h8⟩:=rL (l:=r) (n:=n) (m:=1) (by omega)
  match r,h8 with
  |[f],_=>exact⟨⟨a,b,c,g,k,m,f⟩,rfl,ha,hb,hc,hk,hm⟩
  |[],h=>simp at h
  |_::_::_,h=>simp at h
 |[],h3=>simp at h3
def alB(f:Nat->Bool):Nat->Bool
 |0=>Z
 |i+1=>alB f i&&f i
def q1(gr:an)(h y z T:Int)(p:ct)(R:Rp)(i:Nat):Bool:=aQ gr [p.Pi.aE.getD i 0,ay gr (aQ gr [ay gr (p.bV.getD i 0) y,p.bM.getD i 0,ay gr gr.G (i64.wrap (0-z))]) T]==vc gr h (R.s1.getD i 0) (R.s2.getD i 0)
def q2(gr:an)(h T:Int)(p:ct)(R:Rp)(n i:Nat):Bool:=aQ gr [p.Pi.aE.getD (n+i) 0,ay gr (p.aH.getD i 0) T]==aQ gr [ay gr (bef gr.G p.aH i) (R.s1.getD i 0),ay gr h (R.s3.getD i 0)]
def q4(gr:an)(h T:Int)(p:ct)(R:Rp)(n i:Nat):Bool:=aQ gr [p.Pi.aE.getD (2*n+1+i) 0,ay gr (p.bM.getD i 0) T]==vc gr h (R.kk.getD i 0) (R.mm.getD i 0)
section
variable {gr:an}{p:ct}{R:Rp}{n:Nat}
def RA(k:ap gr){x y z:Int}(hx:R9 x)(hy:R9 y)(hz:R9 z):R9 (aQ gr [x,y,z])/\er gr [x,y,z]=J (aQ gr [x,y,z])/\ej gr [x,y,z]=J (aQ gr [x,y,z]):=by
 have h:∀v∈[x,y,z],0<=v/\v<=2000000000:=by
  intro v hv;simp only[f6,jy,jz]at hv;rcases hv with rfl|rfl|rfl<;>assumption
 exact⟨FK k h,BA k h,K1 k h⟩
def zA6(k:ap gr){B:cA}(hh:R9 B.H)(hn:n<=12)(hp:p.bV.length=n/\∀z∈p.bV,aM gr z=Z)(hw:p.bM.length=n/\∀z∈p.bM,aM gr z=Z)(hc:p.aH.length=n/\∀z∈p.aH,aM gr z=Z)(hm:p.Pi.aE.length=3*n+3/\∀z∈p.Pi.aE,aM gr z=Z)(hr:DI n R){x y z T:Int}(hx:E9 gr.Q x):aU (σ:=(List Int)×Bool) (λgC lw=>
 (n6 x (i64.wrap (gC+1)) gr.Q).bind λoj=>
 gd ((lw.1.length+1)*8<=140737488355328/\lw.1.length+1<=4611686018427387904)<|
 (ix p.Pi.aE gC).bind λMU=>
 (ix p.bV gC).bind λOq=>
 (ix p.bM gC).bind λHl=>
 (ix R.s1 gC).bind λzl=>
 (ix R.s2 gC).bind λkr=>
 (cU gr Oq y).bind λDj=>
 (cU gr gr.G (i64.wrap (0-z))).bind λDD=>
 (er gr [Dj,Hl,DD]).bind λwU=>
 (pB gr B zl kr).bind λnq=>
 (qZ MU wU nq lw.2 gr.P gr.Q gr.G T).bind λCv=>
 (ix p.Pi.aE (i64.wrap ((n:Int)+gC))).bind λNm=>
 (ix p.aH gC).bind λEr=>
 (ix ([gr.G]++p.aH) gC).bind λDP=>
 (ix R.s3 gC).bind λpE=>
 (cU gr DP zl).bind λuS=>
 (cU gr B.H pE).bind λou=>
 (er gr [uS,ou]).bind λCW=>
 (qZ Nm Er CW Cv gr.P gr.Q gr.G T).bind λPS=>
 (ix p.Pi.aE (i64.wrap ((i64.wrap ((i64.wrap (2*(n:Int)))+1))+gC))).bind λmL=>
 (ix R.kk gC).bind λjt=>
 (ix R.mm gC).bind λjI=>
 (pB gr B jt jI).bind λoF=>
 (qZ mL Hl oF PS gr.P gr.Q gr.G T).bind λPe=>
 J (.go (lw.1++[oj],Pe))) (λlw=>(lw.1,lw.2)) n 0 ([],Z)=J (rg (iK gr.Q x) n,alB (λi=>q1 gr B.H y z T p R i&&q2 gr B.H T p R n i&&q4 gr B.H T p R n i) n):=by
 refine qs (λi=>(rg (iK gr.Q x) i,alB (λi=>q1 gr B.H y z T p R i&&q2 gr B.H T p R n i&&q4 gr B.H T p R n i) i)) rfl λi hi=>?_
 have w1:i64.wrap ((n:Int)+(i:Int))=((n+i:Nat):Int):=cT (by omega) (by omega)
 have w2:i64.wrap (i64.wrap (i64.wrap (2*(n:Int))+1)+(i:Int))=((2*n+1+i:Nat):Int):=by
  rw[aK (n:=2*(n:Int)) (by omega) (by omega),aK (n:=2*(n:Int)+1) (by omega) (by omega)];exact cT (by omega) (by omega)
 have g0:∀{l:List Int},l.length=n->ix l (i:Int)=J (l.getD i 0):=λh=>d6 (by omega)
 have gc:∀j,j<3*n+3->ix p.Pi.aE (j:Int)=J (p.Pi.aE.getD j 0)/\R9 (p.Pi.aE.getD j 0):=λj hj=>⟨d6 (by omega),d4 k (eN hm.2 (by omega))⟩
 have a1:=d4 k (eN hp.2 (i:=i) (by omega));have a2:=d4 k (eN hw.2 (i:=i) (by omega));have a3:=d4 k (eN hc.2 (i:=i) (by omega));have hb:=Fl k (om k) hc.2 i (by omega);have m3:=RA k (bL k (p.bV.getD i 0) y) a2 (bL k gr.G (i64.wrap (0-z)));rw[w1,w2];refine ag (Zv k hx (by omega)).1 (aI (by rw[bn];omega) (ag (gc i (by omega)).1 (ag (g0 hp.1) (ag (g0 hw.1) (ag (g0 hr.s1) (ag (g0 hr.s2) (ag (fA k a1 _) (ag (fA k (fU k) _) (ag m3.2.1 (ag (C2 k hh _ _) (ag (GC k _ (gc i (by omega)).2 m3.1) ?_)))))))))));refine ag (gc (n+i) (by omega)).1 (ag (g0 hc.1) (ag hb.1 (ag (g0 hr.s3) (ag (fA k hb.2 _) (ag (fA k hh _) (ag (j8 k (bL k _ _) (bL k _ _)) (ag (GC k _ (gc (n+i) (by omega)).2 a3) ?_)))))));refine ag (gc (2*n+1+i) (by omega)).1 (ag (g0 hr.kk) (ag (g0 hr.mm) (ag (C2 k hh _ _) (ag (GC k _ (gc (2*n+1+i) (by omega)).2 a2) (am ?_)))));rw[oS];show fO.go (_,_)=fO.go (_,alB _ i&&_);unfold q1 q2 q4;simp only[Mb]
end
section
attribute [local irreducible] chG zdX zaQ
def mG(key:Int)(l out:List aq)(p:ct):List Int:=zdX key l out (p.bV++p.bM)
def vpX(gr:an)(key:Int)(l out:List aq)(p:ct):Int:=chG gr sX (zdX key l out p.bV)
def vpY(gr:an)(key:Int)(l out:List aq)(p:ct):Int:=chG gr sY (mG key l out p)
def vpZ(gr:an)(key:Int)(l out:List aq)(p:ct):Int:=chG gr sZ (mG key l out p)
def vpT(gr:an)(key:Int)(l out:List aq)(p:ct):Int:=chG gr sE (mG key l out p++p.aH++p.Pi.aE)
def q3(gr:an)(h tg T:Int)(p:ct)(R:Rp)(n:Nat):Bool:=aQ gr [p.Pi.aE.getD (2*n) 0,ay gr (aQ gr [p.aH.getD (n-1) 0,ay gr (ay gr gr.G tg) (-1)]) T]==ay gr h R.g
def qE(gr:an)(T c base:Int)(Da FF Ac:List Int)(R:Rp):Bool:=aQ gr [c,ay gr (zaQ gr FF Da 1) T]==aQ gr [ay gr base (i64.wrap (0-R.f)),zaQ gr Ac R.kk 1]
def B8(gr:an)(key h:Int)(l out:List aq)(p:ct)(R:Rp)(x y z T:Int)(n:Nat):Bool:=
 (((alB (λi=>q1 gr h y z T p R i&&q2 gr h T p R n i&&q4 gr h T p R n i) n&&q3 gr h (tgN gr.Q x y z n) T p R n)&&qE gr T (p.Pi.aE.getD (3*n+1) 0) gr.G (rg (iK gr.Q x) n) (sdV l).1 (sdV out).1 R)&&qE gr T (p.Pi.aE.getD (3*n+2) 0) key (rg (iK gr.Q x) n) (sdV l).2 (sdV out).2 R)
structure yJ (gr:an) (key h:Int) (l out:List aq) (p:ct) (R:Rp):Prop where
 key:aM gr key=Z
 n:1<=l.length/\l.length<=12
 lc:∀c∈l,ce gr c=Z
 oc:∀c∈out,ce gr c=Z
 ol:out.length=l.length
 hh:aM gr h=Z
 pl:p.bV.length=l.length/\∀z∈p.bV,aM gr z=Z
 pw:p.bM.length=l.length/\∀z∈p.bM,aM gr z=Z
 ch:p.aH.length=l.length/\∀z∈p.aH,aM gr z=Z
 cm:p.Pi.aE.length=3*l.length+3/\∀z∈p.Pi.aE,aM gr z=Z
 cl:p.Pi.aW.length=1
 rs:p.Pi.aG=R.cs
 r:DI l.length R
section
variable {gr:an}{key h:Int}{l out:List aq}{p:ct}{R:Rp}
def zEQ(hk:aM gr key=Z)(hn:1<=l.length/\l.length<=12)(lc:∀c∈l,ce gr c=Z)(oc:∀c∈out,ce gr c=Z)(hh:aM gr h=Z)(ho:out.length=l.length)(hs:sx gr l.length p=Z):∃R,yJ gr key h l out p R:=by
 simp only[sx,bK,eO]at hs;obtain⟨a1,a2,a3,a4,a5,a6,a7,a8,a9,Lg,_⟩:=hs;obtain⟨R,r1,r2⟩:=zGn a6;exact⟨R,hk,hn,lc,oc,ho,hh,⟨a1,bm.1 a7⟩,⟨a2,bm.1 a8⟩,⟨a3,bm.1 a9⟩,⟨a4,bm.1 Lg⟩,a5,r1,r2⟩
def PK(k:ap gr)(V:yJ gr key h l out p R):(zdX key l out p.bV).length=1+5*l.length/\(zdX key l out p.bV).all cI=Z:=by
 have h1:=V.pl.1;have h2:=V.ol;exact⟨by rw[GO];omega,ET k V.key V.lc V.oc (pA k (bm.2 V.pl.2))⟩
def M7(k:ap gr)(V:yJ gr key h l out p R):(mG key l out p).length=1+6*l.length/\(mG key l out p).all cI=Z:=by
 have h1:=V.pl.1;have h2:=V.ol;have h3:=V.pw.1;unfold mG;exact⟨by rw[GO,bT];omega,ET k V.key V.lc V.oc (pA k (bm.2 (jK V.pl.2 V.pw.2)))⟩
def ZW(k:ap gr)(V:yJ gr key h l out p R):(mG key l out p++p.aH++p.Pi.aE).length=4+10*l.length/\(mG key l out p++p.aH++p.Pi.aE).all cI=Z:=by
 have h1:=M7 k V;have h2:=V.ch.1;have h3:=V.cm.1;refine⟨by rw[bT,bT,h1.1,h2,h3];omega,?_⟩;rw[kQ,kQ,h1.2,pA k (bm.2 V.ch.2),pA k (bm.2 V.cm.2)];rfl
attribute [local irreducible] rg sdV vc vpX vpY vpZ vpT tgN alB q1 q2 q4
set_option maxHeartbeats 2000000 in
def Zt(k:ap gr){B:cA}(V:yJ gr key B.H l out p R)(hs:sx gr l.length p=Z):zW gr B key l out p=J ((p.Pi.aW.getD 0 0==vpT gr key l out p)&&B8 gr key B.H l out p R (vpX gr key l out p) (vpY gr key l out p) (vpZ gr key l out p) (vpT gr key l out p) l.length):=by
 have hp:=k.p;have hq:=k.q;have hn:=V.n;have hol:=V.ol;have hH:=d4 k V.hh;have hK:=d4 k V.key;have lP:=V.pl.1;have lW:=V.pw.1;have lH:=V.ch.1;have lM:=V.cm.1;have l1:=PK k V;have l2:=M7 k V;have l3:=ZW k V;have hx:E9 gr.Q (vpX gr key l out p):=by unfold vpX;exact mF k _ _
 have hy:E9 gr.Q (vpY gr key l out p):=by unfold vpY;exact mF k _ _
 have hz:E9 gr.Q (vpZ gr key l out p):=by unfold vpZ;exact mF k _ _
 have c1:=Gp (key:=key) (l:=l) (out:=out) (m:=p.bV) (by omega) (by omega) (by omega);have c2:m7 gr sX (zdX key l out p.bV)=J (vpX gr key l out p,Z):=by unfold vpX;exact(qG k (by decide) (by omega) l1.2).1
 have c3:qY key l out (p.bV++p.bM)=J (mG key l out p):=Gp (by omega) (by omega) (by rw[bT];omega);have c4:Cx gr (mG key l out p)=J (vpY gr key l out p,vpZ gr key l out p,Z):=by unfold vpY vpZ;exact zAp k (by omega) l2.2
 have c5:pW [mG key l out p,p.aH,p.Pi.aE]=J (mG key l out p++p.aH++p.Pi.aE):=by
  have e:[mG key l out p,p.aH,p.Pi.aE].flatten=mG key l out p++p.aH++p.Pi.aE:=by simp
  rw[Gu _ (by rw[e,l3.1];omega),e]
 have c6:m7 gr sE (mG key l out p++p.aH++p.Pi.aE)=J (vpT gr key l out p,Z):=by unfold vpT;exact(qG k (by decide) (by omega) l3.2).1
 have c7:=zA6 (B:=B) (y:=vpY gr key l out p) (z:=vpZ gr key l out p) (T:=vpT gr key l out p) k hH hn.2 V.pl V.pw V.ch V.cm V.r hx;have c8:=zGl (q:=gr.Q) (by omega) (n:=l.length) (by omega) hx hy hz;have c9:=(sN (l:=l) (by omega)).1;have zd:=(sN (l:=out) (by omega)).1;have fk:=r7 k V.lc;have lO:=r7 k V.oc;have sI:=m8 l;have hlo:=m8 out;have u1:=oY k (m:=rg (iK gr.Q (vpX gr key l out p)) l.length) fk.1 (by rw[bn,sI.1];exact cB _);have u2:=oY k (m:=rg (iK gr.Q (vpX gr key l out p)) l.length) fk.2 (by rw[bn,sI.2];exact cB _);have u3:=oY k (m:=R.kk) lO.1 (by rw[hlo.1,V.r.kk];omega);have u4:=oY k (m:=R.kk) lO.2 (by rw[hlo.2,V.r.kk];omega);have w1:i64.wrap ((l.length:Int)-1)=((l.length-1:Nat):Int):=cT (by omega) (by omega);have w2:i64.wrap (2*(l.length:Int))=((2*l.length:Nat):Int):=cT (by omega) (by omega);have w3:i64.wrap (3*(l.length:Int))=((3*l.length:Nat):Int):=cT (by omega) (by omega);have R0:i64.wrap (((3*l.length:Nat):Int)+1)=((3*l.length+1:Nat):Int):=cT (by omega) (by omega);have w32:i64.wrap (((3*l.length:Nat):Int)+2)=((3*l.length+2:Nat):Int):=cT (by omega) (by omega);have gc:∀j,j<3*l.length+3->ix p.Pi.aE (j:Int)=J (p.Pi.aE.getD j 0)/\R9 (p.Pi.aE.getD j 0):=λj hj=>⟨d6 (by omega),d4 k (eN V.cm.2 (by omega))⟩
 have gh:ix p.aH ((l.length-1:Nat):Int)=J (p.aH.getD (l.length-1) 0):=d6 (by omega);have rh:=d4 k (eN V.ch.2 (i:=l.length-1) (by omega));have rp:=bL k gr.G (tgN gr.Q (vpX gr key l out p) (vpY gr key l out p) (vpZ gr key l out p) l.length);have ov:=TO k (b:=p.aH.getD (l.length-1) 0) (x:=ay gr gr.G (tgN gr.Q (vpX gr key l out p) (vpY gr key l out p) (vpZ gr key l out p) l.length)) rh.1 rh.2 rp.1 rp.2;have ho:((out.length:Int) !=(l.length:Int))=aa:=by rw[hol];simp
 have kJ:0<p.Pi.aW.length:=by rw[V.cl];omega
 unfold zW;refine bH (az (ψ:=(· =aa)) (bw ho (ag (Yy k (by omega) p) (am (by rw[hs];rfl)))) ?_);rintro _ rfl;refine bw rfl (ag c1 (ag c2 (ag (Xv (by omega)) (aI (by omega) (ag c3 (ag c4 (ag c5 (ag c6 (az (ψ:=(· =(p.Pi.aW.getD 0 0 !=vpT gr key l out p))) (bw rfl (bw rfl (bw rfl (ag (d6 (i:=0) kJ) (am rfl))))) ?_)))))))));rintro _ rfl;refine aZ (λg=>am ?_) λg=>?_
 ·have:(p.Pi.aW.getD 0 0==vpT gr key l out p)=aa:=by simpa[bne]using g
  rw[this];rfl
 have g2:(p.Pi.aW.getD 0 0==vpT gr key l out p)=Z:=by simpa[bne]using g
 rw[g2,ig,V.rs];unfold Rp.cs;refine ag (mI V.r.s1) (ag (mI V.r.s2) (ag (mI V.r.s3) (ag (Ay _ _) (ag (mI V.r.kk) (ag (mI V.r.mm) (ag (Ay _ _) ?_))))));dsimp only;refine aI (by simp;omega) (ag rfl (ag c7 ?_));rw[w1,w2,w3,R0,w32];refine ag (gc (2*l.length) (by omega)).1 (ag gh (ag c8 (ag (fA k (fU k) _) (ag ov (ag (fA k hH _) (ag (GC k _ (gc (2*l.length) (by omega)).2 (n0 k rh (bL k _ _))) (ag c9 (ag zd ?_))))))));refine ag (gc (3*l.length+1) (by omega)).1 (ag u1 (ag (fA k (fU k) _) (ag u3 (ag (j8 k (bL k _ _) (fY k _ _)) (ag (GC k _ (gc (3*l.length+1) (by omega)).2 (fY k _ _)) ?_)))));exact ag (gc (3*l.length+2) (by omega)).1 (ag u2 (ag (fA k hK _) (ag u4 (ag (j8 k (bL k _ _) (fY k _ _)) (ag (GC k _ (gc (3*l.length+2) (by omega)).2 (fY k _ _)) (am rfl))))))
end
end
def GB{A X Y:List Int}{a i:Nat}(ha:A.length=a)(hi:i<X.length):ix (A++(X++Y)) ((a+i:Nat):Int)=J (X.getD i 0):=by
 refine Ij ?_;rw[gj (by omega),ha,Wq,fM hi,cJ hi,bZ hi]
def Ov{n:Nat}{R:Rp}(r:DI n R):(∀i,i<n->ix R.cs (i:Int)=J (R.s1.getD i 0)/\ix R.cs ((n+i:Nat):Int)=J (R.s2.getD i 0)/\ix R.cs ((2*n+i:Nat):Int)=J (R.s3.getD i 0)/\ix R.cs ((4*n+1+i:Nat):Int)=J (R.mm.getD i 0))/\ix R.cs ((3*n:Nat):Int)=J R.g/\ix R.cs ((5*n+1:Nat):Int)=J R.f/\(R.cs.take (4*n+1)).drop (3*n+1)=R.kk:=by
 have h1:=r.s1;have h2:=r.s2;have h3:=r.s3;have h4:=r.kk;have h5:=r.mm;refine⟨λi hi=>⟨?_,?_,?_,?_⟩,?_,?_,?_⟩
 ·have:=GB (A:=[]) (X:=R.s1) (Y:=R.s2++(R.s3++(R.g::(R.kk++(R.mm++[R.f]))))) (a:=0) (i:=i) rfl (by omega)
  rwa [gE]at this
 ·exact GB (A:=R.s1) (X:=R.s2) h1 (by omega)
 ·have:=GB (A:=R.s1++R.s2) (X:=R.s3) (Y:=R.g::(R.kk++(R.mm++[R.f]))) (a:=2*n) (i:=i) (by rw[bT];omega) (by omega);rw[ie]at this;exact this
 ·have:=GB (A:=R.s1++(R.s2++(R.s3++(R.g::R.kk)))) (X:=R.mm) (Y:=[R.f]) (a:=4*n+1) (i:=i) (by simp;omega) (by omega);have e:R.s1++(R.s2++(R.s3++(R.g::R.kk)))++(R.mm++[R.f])=R.cs:=by simp[Rp.cs]
  rwa [e]at this
 ·have:=GB (A:=R.s1++(R.s2++R.s3)) (X:=[R.g]) (Y:=R.kk++(R.mm++[R.f])) (a:=3*n) (i:=0) (by simp;omega) (by simp);have e:R.s1++(R.s2++R.s3)++([R.g]++(R.kk++(R.mm++[R.f])))=R.cs:=by simp[Rp.cs]
  rw[e]at this;exact this
 ·have:=GB (A:=R.s1++(R.s2++(R.s3++(R.g::(R.kk++R.mm))))) (X:=[R.f]) (Y:=[]) (a:=5*n+1) (i:=0) (by simp;omega) (by simp);have e:R.s1++(R.s2++(R.s3++(R.g::(R.kk++R.mm))))++([R.f]++[])=R.cs:=by simp[Rp.cs]
  rw[e]at this;exact this
 exact zt (A:=R.s1++(R.s2++(R.s3++[R.g]))) (R:=R.mm++[R.f]) (by simp[Rp.cs]) (by simp;omega) (by omega)
def KB(gr:an)(y z:Int)(p:ct)(i:Nat):Int:=aQ gr [ay gr (p.bV.getD i 0) y,p.bM.getD i 0,ay gr gr.G (i64.wrap (0-z))]
def KT(gr:an)(h:Int)(R:Rp)(i:Nat):Int:=vc gr h (R.s1.getD i 0) (R.s2.getD i 0)
def K6(gr:an)(h:Int)(p:ct)(R:Rp)(i:Nat):Int:=aQ gr [ay gr (bef gr.G p.aH i) (R.s1.getD i 0),ay gr h (R.s3.getD i 0)]
def JX(gr:an)(h:Int)(R:Rp)(i:Nat):Int:=vc gr h (R.kk.getD i 0) (R.mm.getD i 0)
section
variable {gr:an}{p:ct}{R:Rp}{n:Nat}{h:Int}
def zAL(k:ap gr)(hh:R9 h)(hn:n<=12)(hp:p.bV.length=n/\∀z∈p.bV,aM gr z=Z)(hw:p.bM.length=n/\∀z∈p.bM,aM gr z=Z)(hr:DI n R){y z:Int}:dP (σ:=(List Int)×List Int×Int) (β:=(List Int)×List Int) (λfG=>
 if decide (fG.2.2<(n:Int))=Z then(
 (ix p.bV fG.2.2).bind λC1=>
 (ix p.bM fG.2.2).bind λri=>
 (cH gr C1 y).bind λiR=>
 (cH gr gr.G (i64.wrap (0-z))).bind λmB=>
 (ej gr [iR,ri,mB]).bind λfL=>
 gd ((fG.1.length+1)*8<=140737488355328/\fG.1.length+1<=4611686018427387904)<|
 (ix R.cs fG.2.2).bind λjo=>
 (ix R.cs (i64.wrap ((n:Int)+fG.2.2))).bind λC7=>
 (nZ gr h jo C7).bind λfy=>
 gd ((fG.2.1.length+1)*8<=140737488355328/\fG.2.1.length+1<=4611686018427387904)<|
 J (.go (fG.1++[fL],fG.2.1++[fy],i64.wrap (fG.2.2+1))))else(
 J (.out (fG.1,fG.2.1)))) ([],[],0)=J (rg (KB gr y z p) n,rg (KT gr h R) n):=by
 refine bH (ll n (λi s=>s=(rg (KB gr y z p) i,rg (KT gr h R) i,(i:Int))/\i<=n) ⟨rfl,by omega⟩ ?_ ?_)
 ·rintro i s hi ⟨rfl,_⟩;have g0:∀{l:List Int},l.length=n->ix l (i:Int)=J (l.getD i 0):=λh=>d6 (by omega)
  have a1:=d4 k (eN hp.2 (i:=i) (by omega));have a2:=d4 k (eN hw.2 (i:=i) (by omega));have m3:=RA k (bL k (p.bV.getD i 0) y) a2 (bL k gr.G (i64.wrap (0-z)));have rx:=(Ov hr).1 i hi;have w1:i64.wrap ((n:Int)+(i:Int))=((n+i:Nat):Int):=cT (by omega) (by omega);refine gk (by simp;omega) ?_;dsimp only;rw[w1];refine ag (g0 hp.1) (ag (g0 hw.1) (ag (fo k a1 _) (ag (fo k (fU k) _) (ag m3.2.2 (aI (by rw[bn];omega) (ag rx.1 (ag rx.2.1 (ag (GY k hh _ _) (aI (by rw[bn];omega) (am ⟨?_,by omega⟩))))))))));rw[aK (n:=(i:Int)+1) (by omega) (by omega),oS,oS];rfl
 rintro s ⟨rfl,_⟩;exact bw (by simp) (am rfl)
def zBq(k:ap gr)(hh:R9 h)(hn:n<=12)(hc:p.aH.length=n/\∀z∈p.aH,aM gr z=Z)(hr:DI n R){A D:List Int}(hA:A.length<=1000)(hD:D.length<=1000):dP (σ:=(List Int)×List Int×Int×Int) (β:=(List Int)×List Int) (λft=>
 if decide (ft.2.2.2<(n:Int))=Z then(
 (ix p.aH ft.2.2.2).bind λtC=>
 gd ((ft.1.length+1)*8<=140737488355328/\ft.1.length+1<=4611686018427387904)<|
 (ix R.cs ft.2.2.2).bind λyM=>
 (ix R.cs (i64.wrap ((i64.wrap (2*(n:Int)))+ft.2.2.2))).bind λAM=>
 (cH gr ft.2.2.1 yM).bind λCl=>
 (cH gr h AM).bind λDc=>
 (ej gr [Cl,Dc]).bind λCB=>
 gd ((ft.2.1.length+1)*8<=140737488355328/\ft.2.1.length+1<=4611686018427387904)<|
 J (.go (ft.1++[tC],ft.2.1++[CB],tC,i64.wrap (ft.2.2.2+1))))else(
 J (.out (ft.1,ft.2.1)))) (A,D,gr.G,0)=J (A++rg (λi=>p.aH.getD i 0) n,D++rg (K6 gr h p R) n):=by
 refine bH (ll n (λi s=>s=(A++rg (λi=>p.aH.getD i 0) i,D++rg (K6 gr h p R) i,bef gr.G p.aH i,(i:Int))/\i<=n) ⟨by rw[xw,xw,rR,rR];rfl,by omega⟩ ?_ ?_)
 ·rintro i s hi ⟨rfl,_⟩;have hb:=Fl k (om k) hc.2 i (by omega);have rx:=(Ov hr).1 i hi
  have w1:i64.wrap (i64.wrap (2*(n:Int))+(i:Int))=((2*n+i:Nat):Int):=by
   rw[aK (n:=2*(n:Int)) (by omega) (by omega)];exact cT (by omega) (by omega)
  refine gk (by simp;omega) ?_;dsimp only;rw[w1];refine ag (d6 (by omega)) (aI (by rw[bT,bn];omega) (ag rx.1 (ag rx.2.2.1 (ag (fo k hb.2 _) (ag (fo k hh _) (ag (iV k (bL k _ _) (bL k _ _)) (aI (by rw[bT,bn];omega) (am ⟨?_,by omega⟩))))))));have e:p.aH.getD i 0=bef gr.G p.aH (i+1):=by unfold bef;simp
  rw[aK (n:=(i:Int)+1) (by omega) (by omega),vy,vy,<-e];rfl
 rintro s ⟨rfl,_⟩;exact bw (by simp) (am rfl)
def zBJ(k:ap gr)(hh:R9 h)(hn:n<=12)(hw:p.bM.length=n)(hr:DI n R){A D:List Int}(hA:A.length<=1000)(hD:D.length<=1000):dP (σ:=(List Int)×List Int×Int) (β:=(List Int)×List Int) (λga=>
 if decide (ga.2.2<(n:Int))=Z then(
 (ix p.bM ga.2.2).bind λql=>
 gd ((ga.1.length+1)*8<=140737488355328/\ga.1.length+1<=4611686018427387904)<|
 (ix R.kk ga.2.2).bind λOQ=>
 (ix R.cs (i64.wrap ((i64.wrap ((i64.wrap (4*(n:Int)))+1))+ga.2.2))).bind λGm=>
 (nZ gr h OQ Gm).bind λoh=>
 gd ((ga.2.1.length+1)*8<=140737488355328/\ga.2.1.length+1<=4611686018427387904)<|
 J (.go (ga.1++[ql],ga.2.1++[oh],i64.wrap (ga.2.2+1))))else(
 J (.out (ga.1,ga.2.1)))) (A,D,0)=J (A++rg (λi=>p.bM.getD i 0) n,D++rg (JX gr h R) n):=by
 refine bH (ll n (λi s=>s=(A++rg (λi=>p.bM.getD i 0) i,D++rg (JX gr h R) i,(i:Int))/\i<=n) ⟨by rw[xw,xw,rR,rR];rfl,by omega⟩ ?_ ?_)
 ·rintro i s hi ⟨rfl,_⟩;have rx:=(Ov hr).1 i hi
  have w1:i64.wrap (i64.wrap (i64.wrap (4*(n:Int))+1)+(i:Int))=((4*n+1+i:Nat):Int):=by
   rw[aK (n:=4*(n:Int)) (by omega) (by omega),aK (n:=4*(n:Int)+1) (by omega) (by omega)];exact cT (by omega) (by omega)
  refine gk (by simp;omega) ?_;dsimp only;rw[w1];refine ag (d6 (by omega)) (aI (by rw[bT,bn];omega) (ag (d6 (by rw[hr.kk];exact hi)) (ag rx.2.2.2 (ag (GY k hh _ _) (aI (by rw[bT,bn];omega) (am ⟨?_,by omega⟩))))));rw[aK (n:=(i:Int)+1) (by omega) (by omega),vy,vy];rfl
 rintro s ⟨rfl,_⟩;exact bw (by simp) (am rfl)
end
theorem M9(f:Nat->Bool):∀n,alB f n=(List.range n).all f
 |0=>rfl
 |n+1=>by
  unfold alB;rw[M9 f n,nc,kQ];simp
def Iy(f:Nat->Bool)(a b:Nat):(List.range (a+b)).all f=((List.range a).all f&&(List.range b).all λi=>f (a+i)):=by
 rw[a1e,kQ,V7];rfl
theorem WA(f g h:Nat->Bool):∀n,((List.range n).all λi=>f i&&g i&&h i)=((List.range n).all f&&(List.range n).all g&&(List.range n).all h)
 |0=>rfl
 |n+1=>by
  simp only[nc,kQ,zD,L9,B2];rw[WA f g h n];cases (List.range n).all f<;>cases (List.range n).all g<;>cases (List.range n).all h<;>cases f n<;>cases g n<;>cases h n<;>rfl
theorem IM{f g:Nat->Bool}:∀{n:Nat},(∀i,i<n->f i=g i)->(List.range n).all f=(List.range n).all g
 |0,_=>rfl
 |n+1,h=>by
  simp only[nc,kQ,zD,L9,B2];rw[IM λi hi=>h i (by omega),h n (by omega)]
def FY{A B:List Int}{i:Nat}(h:i<A.length):(A++B).getD i 0=A.getD i 0:=by
 rw[nP,nP,fM h]
def Ae{A B:List Int}{a i:Nat}(h:A.length=a):(A++B).getD (a+i) 0=B.getD i 0:=by
 rw[nP,nP,gj (by omega),h,Wq]
def zyO(E:Nat->Int->Int->Bool){n:Nat}{a1 a2 a4 b1 b2 b4:List Int}{a3 a5 a6 b3 b5 b6:Int}(h1:a1.length=n)(h2:a2.length=n)(h4:a4.length=n)(g1:b1.length=n)(g2:b2.length=n)(g4:b4.length=n):
 ((List.range (3*n+3)).all λi=>E i ((a1++(a2++(a3::(a4++[a5,a6])))).getD i 0) ((b1++(b2++(b3::(b4++[b5,b6])))).getD i 0))=
 ((((alB (λi=>E i (a1.getD i 0) (b1.getD i 0)&&E (n+i) (a2.getD i 0) (b2.getD i 0)&&E (2*n+1+i) (a4.getD i 0) (b4.getD i 0)) n&&E (2*n) a3 b3)&&E (3*n+1) a5 b5)&&E (3*n+2) a6 b6)):=by
 have e:3*n+3=n+(n+(1+(n+(1+1)))):=by omega
 rw[M9,WA,e,Iy,Iy,Iy,Iy,Iy]
 have p1:=IM (n:=n) (f:=λi=>E i ((a1++(a2++(a3::(a4++[a5,a6])))).getD i 0) ((b1++(b2++(b3::(b4++[b5,b6])))).getD i 0)) (g:=λi=>E i (a1.getD i 0) (b1.getD i 0)) λi hi=>by
  simp only[FY (A:=a1) (show i<a1.length by omega),FY (A:=b1) (show i<b1.length by omega)]
 have p2:=IM (n:=n) (f:=λi=>E (n+i) ((a1++(a2++(a3::(a4++[a5,a6])))).getD (n+i) 0) ((b1++(b2++(b3::(b4++[b5,b6])))).getD (n+i) 0)) (g:=λi=>E (n+i) (a2.getD i 0) (b2.getD i 0)) λi hi=>by
  simp only[Ae h1,Ae g1,FY (A:=a2) (show i<a2.length by omega),FY (A:=b2) (show i<b2.length by omega)]
 have s3:∀j,(a1++(a2++(a3::(a4++[a5,a6])))).getD (n+(n+j)) 0=(a3::(a4++[a5,a6])).getD j 0:=λj=>by rw[Ae h1,Ae h2]
 have t3:∀j,(b1++(b2++(b3::(b4++[b5,b6])))).getD (n+(n+j)) 0=(b3::(b4++[b5,b6])).getD j 0:=λj=>by rw[Ae g1,Ae g2]
 have s4:∀j,(a3::(a4++[a5,a6])).getD (1+j) 0=(a4++[a5,a6]).getD j 0:=λj=>by rw[Qb];rfl
 have t4:∀j,(b3::(b4++[b5,b6])).getD (1+j) 0=(b4++[b5,b6]).getD j 0:=λj=>by rw[Qb];rfl
 have p4:=IM (n:=n) (f:=λi=>E (n+(n+(1+i))) ((a1++(a2++(a3::(a4++[a5,a6])))).getD (n+(n+(1+i))) 0) ((b1++(b2++(b3::(b4++[b5,b6])))).getD (n+(n+(1+i))) 0)) (g:=λi=>E (2*n+1+i) (a4.getD i 0) (b4.getD i 0)) λi hi=>by
  simp only[s3,t3,s4,t4,FY (A:=a4) (show i<a4.length by omega),FY (A:=b4) (show i<b4.length by omega)];congr 1;omega
 rw[p1,p2,p4];have r1:List.range 1=[0]:=rfl;simp only[r1,zD,L9,B2,s3,t3,s4,t4,Ae h4,Ae g4];have i1:n+(n+0)=2*n:=by omega
 have i2:n+(n+(1+(n+0)))=3*n+1:=by omega
 have i3:n+(n+(1+(n+(1+0))))=3*n+2:=by omega
 simp only[i1,i2,i3];show(_&&(_&&(E (2*n) a3 b3&&(_&&(E (3*n+1) a5 b5&&E (3*n+2) a6 b6)))))=_;generalize (List.range n).all (λi=>E i (a1.getD i 0) (b1.getD i 0))=x1;generalize (List.range n).all (λi=>E (n+i) (a2.getD i 0) (b2.getD i 0))=x2;generalize (List.range n).all (λi=>E (2*n+1+i) (a4.getD i 0) (b4.getD i 0))=x4;cases x1<;>cases x2<;>cases x4<;>simp[Mb]
def tZ(gr:an)(T:Int)(c:List Int)(i:Nat)(a b:Int):Bool:=aQ gr [c.getD i 0,ay gr a T]==b
def zy5{gr:an}(k:ap gr){T:Int}{c L Q:List Int}(hc:∀z∈c,aM gr z=Z)(hL:L.length=c.length/\∀z∈L,R9 z)(hQ:Q.length=c.length):Rn (aU (σ:=(List Int)×List Int) (β:=Unit ⊕ Bool) (λww nR=>
 (ix c ww).bind λDy=>
 (ix nR.1 ww).bind λPk=>
 (ix nR.2 ww).bind λOT=>
 (cH gr Pk T).bind λC9=>
 (ej gr [Dy,C9]).bind λN5=>
 if(N5 !=OT)=Z then(
 J (.out (.inr aa)))else(
 J (.go (nR.1,nR.2)))) (λnR=>.inl ()) c.length 0 (L,Q)) (λv=>(v=.inl ()/\(List.range c.length).all (λi=>tZ gr T c i (L.getD i 0) (Q.getD i 0))=Z)\/(v=.inr aa/\(List.range c.length).all (λi=>tZ gr T c i (L.getD i 0) (Q.getD i 0))=aa)):=by
 refine eo (λi s=>s=(L,Q)/\i<=c.length/\(List.range i).all (λi=>tZ gr T c i (L.getD i 0) (Q.getD i 0))=Z) ⟨rfl,by omega,rfl⟩ ?_ ?_
 ·rintro i s hi ⟨rfl,_,hI⟩;have hr:=eN hL.2 (i:=i) (by omega);have hcr:=d4 k (eN hc hi);refine ag (d6 hi) (ag (d6 (by dsimp only;omega)) (ag (d6 (by dsimp only;omega)) (ag (fo k hr _) (ag (iV k hcr (bL k _ _)) (aZ (λg=>am (.inr ⟨rfl,?_⟩)) λg=>am ⟨rfl,by omega,?_⟩)))))
  ·rw[zE];exact⟨i,kP.2 hi,by unfold tZ;simpa[bne]using g⟩
  rw[nc,kQ,hI];have:tZ gr T c i (L.getD i 0) (Q.getD i 0)=Z:=by unfold tZ;simpa[bne]using g
  rw[zD,L9,this];rfl
 rintro s ⟨rfl,_,hI⟩;exact .inl ⟨rfl,hI⟩
section
attribute [local irreducible] chG zdX zaQ
section
variable {gr:an}{key h:Int}{l out:List aq}{p:ct}{R:Rp}
def zDh(k:ap gr)(V:yJ gr key h l out p R):Av gr key l out p.bV p.bM=J (vpY gr key l out p,vpZ gr key l out p):=by
 have hn:=V.n;have hol:=V.ol;have lP:=V.pl.1;have lW:=V.pw.1;have a1:=PK k V;have a2:=M7 k V;unfold Av;refine bH (ag (Aq (by omega) (by omega) (by omega)) (aI (by omega) ?_));rw[NX];exact ag (qG k (s:=sY) (by decide) (by have:=a2.1;unfold mG at this;omega) a2.2).2 (ag (qG k (s:=sZ) (by decide) (by have:=a2.1;unfold mG at this;omega) a2.2).2 (am rfl))
def zDi(k:ap gr)(V:yJ gr key h l out p R):zG gr key l out p=J (vpT gr key l out p):=by
 have hn:=V.n;have hol:=V.ol;have lP:=V.pl.1;have lW:=V.pw.1;have lH:=V.ch.1;have lM:=V.cm.1;have a1:=PK k V;have a2:=M7 k V;have a3:=ZW k V;have a2':(zdX key l out (p.bV++p.bM)).length=1+6*l.length:=a2.1;unfold zG;refine bH (ag (Aq (by omega) (by omega) (by omega)) (aI (by omega) ?_));rw[NX];exact aI (by omega) (aI (by rw[bT];omega) (ag (qG k (s:=sE) (by decide) (by have:=a3.1;unfold mG at this;omega) a3.2).2 (am rfl)))
end
end
section
attribute [local irreducible] chG zdX zaQ
section
variable {gr:an}{key h:Int}{l out:List aq}{p:ct}{R:Rp}
attribute [local irreducible] rg sdV vc vpX vpY vpZ vpT tgN alB
set_option maxHeartbeats 2000000 in
def zEK(k:ap gr)(V:yJ gr key h l out p R)(hs:sx gr l.length p=Z):Dk gr key h l out p=J ((p.Pi.aW.getD 0 0==vpT gr key l out p)&&B8 gr key h l out p R (vpX gr key l out p) (vpY gr key l out p) (vpZ gr key l out p) (vpT gr key l out p) l.length):=by
 have hp:=k.p;have hq:=k.q;have hn:=V.n;have hol:=V.ol;have hH:=d4 k V.hh;have hK:=d4 k V.key;have lP:=V.pl.1;have lW:=V.pw.1;have lH:=V.ch.1;have lM:=V.cm.1;have l1:=PK k V;have hx:E9 gr.Q (vpX gr key l out p):=by unfold vpX;exact mF k _ _
 have hy:E9 gr.Q (vpY gr key l out p):=by unfold vpY;exact mF k _ _
 have hz:E9 gr.Q (vpZ gr key l out p):=by unfold vpZ;exact mF k _ _
 have c1:=Aq (key:=key) (l:=l) (out:=out) (m:=p.bV) (by omega) (by omega) (by omega);have c2:qc gr sX (zdX key l out p.bV)=J (vpX gr key l out p):=by unfold vpX;exact(qG k (by decide) (by omega) l1.2).2
 have c3:=zDh k V;have c4:=zDi k V;have c5:=zAL (y:=vpY gr key l out p) (z:=vpZ gr key l out p) k hH hn.2 V.pl V.pw V.r;have c6:=λA D hA hD=>zBq (A:=A) (D:=D) k hH hn.2 V.ch V.r hA hD
 have c7:=λA D hA hD=>zBJ (A:=A) (D:=D) k hH hn.2 V.pw.1 V.r hA hD
 have c8:=zHh (q:=gr.Q) (by omega) (n:=l.length) (by omega) hx hy hz;have tb:=Sv (show 1<gr.Q by omega) (vpX gr key l out p) (vpY gr key l out p) (vpZ gr key l out p) l.length;have c9:=(sN (l:=l) (by omega)).2;have zd:=(sN (l:=out) (by omega)).2;have sG:=zIa k (n:=l.length) (by omega) hx;have fk:=r7 k V.lc;have lO:=r7 k V.oc;have sI:=m8 l;have hlo:=m8 out;have u1:=pe k (m:=rg (iK gr.Q (vpX gr key l out p)) l.length) fk.1 (by rw[bn,sI.1];exact cB _);have u2:=pe k (m:=rg (iK gr.Q (vpX gr key l out p)) l.length) fk.2 (by rw[bn,sI.2];exact cB _);have u3:=pe k (m:=R.kk) lO.1 (by rw[hlo.1,V.r.kk];omega);have u4:=pe k (m:=R.kk) lO.2 (by rw[hlo.2,V.r.kk];omega);obtain⟨_,r2,r3,r4⟩:=Ov V.r;have w1:i64.wrap ((l.length:Int)-1)=((l.length-1:Nat):Int):=cT (by omega) (by omega);have w3:i64.wrap (3*(l.length:Int))=((3*l.length:Nat):Int):=cT (by omega) (by omega);have w4:i64.wrap (4*(l.length:Int))=((4*l.length:Nat):Int):=cT (by omega) (by omega);have w5:i64.wrap (5*(l.length:Int))=((5*l.length:Nat):Int):=cT (by omega) (by omega);have R0:i64.wrap (((3*l.length:Nat):Int)+1)=((3*l.length+1:Nat):Int):=cT (by omega) (by omega);have w41:i64.wrap (((4*l.length:Nat):Int)+1)=((4*l.length+1:Nat):Int):=cT (by omega) (by omega);have w51:i64.wrap (((5*l.length:Nat):Int)+1)=((5*l.length+1:Nat):Int):=cT (by omega) (by omega);have wt:i64.wrap (0-tgN gr.Q (vpX gr key l out p) (vpY gr key l out p) (vpZ gr key l out p) l.length)=0-tgN gr.Q (vpX gr key l out p) (vpY gr key l out p) (vpZ gr key l out p) l.length:=aK (by have:=tb.1;have:=tb.2;omega) (by have:=tb.1;omega);have gh:ix p.aH ((l.length-1:Nat):Int)=J (p.aH.getD (l.length-1) 0):=d6 (by omega);have rh:=d4 k (eN V.ch.2 (i:=l.length-1) (by omega));have ho:((out.length:Int) !=(l.length:Int))=aa:=by rw[hol];simp
 have kJ:0<p.Pi.aW.length:=by rw[V.cl];omega
 have Xy:R.cs.length=5*l.length+2:=by have:=V.r.s1;have:=V.r.s2;have:=V.r.s3;have:=V.r.kk;have:=V.r.mm;simp[Rp.cs];omega
 have hpn:=Zx k (om k) tb.1;have c7:∀A D:List Int,A.length<=1000->D.length<=1000->_:=c7;simp only[w4,w41]at c7;unfold Dk;refine bH (az (ψ:=(· =(p.Pi.aW.getD 0 0 !=vpT gr key l out p))) (bw ho (ag (zAA k (by omega) p) (bw (by rw[hs];rfl) (ag (d6 (i:=0) kJ) (ag c4 (am rfl)))))) ?_);rintro _ rfl;refine aZ (λg=>am ?_) λg=>?_
 ·have:(p.Pi.aW.getD 0 0==vpT gr key l out p)=aa:=by simpa[bne]using g
  rw[this];rfl
 have g2:(p.Pi.aW.getD 0 0==vpT gr key l out p)=Z:=by simpa[bne]using g
 have g3:p.Pi.aW.getD 0 0=vpT gr key l out p:=eq_of_beq g2;rw[g2,ig,V.rs];refine ag (d6 (i:=0) kJ) ?_;rw[g3,w1,w3,w4,w5,R0,w41,w51,dL,dL,r4];refine ag c1 (ag c2 (ag c3 (aI (by omega) (aI (by omega) (aI (by omega) (ag r3 (ag c5 (ag (c6 _ _ (by rw[bn];omega) (by rw[bn];omega)) (ag gh (ag c8 ?_))))))))));rw[wt];refine ag (fo k (fU k) _) (ag (iV k rh (bL k _ _)) (aI ?_ (ag r2 (ag (fo k hH _) (aI ?_ (ag (c7 _ _ ?_ ?_) (ag c9 (ag zd ?_))))))))
 ·simp only[bT,bn];omega
 ·simp only[bT,bn];omega
 ·simp only[bT,bn,d5,iz];omega
 ·simp only[bT,bn,d5,iz];omega
 refine ag sG (ag u1 (ag sG (ag u2 (aI ?_ (ag (fo k (fU k) _) (ag u3 (ag (iV k (bL k _ _) (fY k _ _)) (ag (fo k hK _) (ag u4 (ag (iV k (bL k _ _) (fY k _ _)) (aI ?_ ?_)))))))))))
 ·simp only[bT,bn,d5,iz];omega
 ·simp only[bT,bn,d5,iz];omega
 dsimp only;refine az (zy5 k V.cm.2 ⟨?_,?_⟩ ?_) λv hv=>?_
 ·simp only[bT,bn,d5,iz];omega
 ·refine jK (jK (jK (jK (nv λi hi=>?_) (nv λi hi=>?_)) ?_) (nv λi hi=>?_)) ?_
  ·exact(RA k (bL k _ _) (d4 k (eN V.pw.2 (by omega))) (bL k _ _)).1
  ·exact d4 k (eN V.ch.2 (by omega))
  ·intro x hx;rw[gP]at hx;rw[hx];exact n0 k rh (bL k _ _)
  ·exact d4 k (eN V.pw.2 (by omega))
  intro x hx;simp only[f6,jy,jz]at hx;rcases hx with rfl|rfl<;>exact fY k _ _
 ·simp only[bT,bn,d5,iz];omega
 have a4J:=zyO (tZ gr (vpT gr key l out p) p.Pi.aE) (n:=l.length) (a1:=rg (KB gr (vpY gr key l out p) (vpZ gr key l out p) p) l.length) (a2:=rg (λi=>p.aH.getD i 0) l.length) (a4:=rg (λi=>p.bM.getD i 0) l.length) (b1:=rg (KT gr h R) l.length) (b2:=rg (K6 gr h p R) l.length) (b4:=rg (JX gr h R) l.length)
  (a3:=aQ gr [p.aH.getD (l.length-1) 0,ay gr gr.G (0-tgN gr.Q (vpX gr key l out p) (vpY gr key l out p) (vpZ gr key l out p) l.length)]) (b3:=ay gr h R.g) (a5:=zaQ gr (sdV l).1 (rg (iK gr.Q (vpX gr key l out p)) l.length) 1) (a6:=zaQ gr (sdV l).2 (rg (iK gr.Q (vpX gr key l out p)) l.length) 1)
  (b5:=aQ gr [ay gr gr.G (i64.wrap (0-R.f)),zaQ gr (sdV out).1 R.kk 1]) (b6:=aQ gr [ay gr key (i64.wrap (0-R.f)),zaQ gr (sdV out).2 R.kk 1]) (bn _ _) (bn _ _) (bn _ _) (bn _ _) (bn _ _) (bn _ _)
 have hB:B8 gr key h l out p R (vpX gr key l out p) (vpY gr key l out p) (vpZ gr key l out p) (vpT gr key l out p) l.length=(List.range p.Pi.aE.length).all (λi=>tZ gr (vpT gr key l out p) p.Pi.aE i ((rg (KB gr (vpY gr key l out p) (vpZ gr key l out p) p) l.length++rg (λi=>p.aH.getD i 0) l.length++[aQ gr [p.aH.getD (l.length-1) 0,ay gr gr.G (0-tgN gr.Q (vpX gr key l out p) (vpY gr key l out p) (vpZ gr key l out p) l.length)]]++rg (λi=>p.bM.getD i 0) l.length++[zaQ gr (sdV l).1 (rg (iK gr.Q (vpX gr key l out p)) l.length) 1,zaQ gr (sdV l).2 (rg (iK gr.Q (vpX gr key l out p)) l.length) 1]).getD i 0) ((rg (KT gr h R) l.length++rg (K6 gr h p R) l.length++[ay gr h R.g]++rg (JX gr h R) l.length++[aQ gr [ay gr gr.G (i64.wrap (0-R.f)),zaQ gr (sdV out).1 R.kk 1],aQ gr [ay gr key (i64.wrap (0-R.f)),zaQ gr (sdV out).2 R.kk 1]]).getD i 0)):=by
  rw[lM];simp only[ie,uJ,na];rw[a4J,M9];unfold B8 q3 qE;rw[M9,hpn]
  have e:=IM (n:=l.length) (f:=λi=>q1 gr h (vpY gr key l out p) (vpZ gr key l out p) (vpT gr key l out p) p R i&&q2 gr h (vpT gr key l out p) p R l.length i&&q4 gr h (vpT gr key l out p) p R l.length i) (g:=λi=>tZ gr (vpT gr key l out p) p.Pi.aE i ((rg (KB gr (vpY gr key l out p) (vpZ gr key l out p) p) l.length).getD i 0) ((rg (KT gr h R) l.length).getD i 0)&&tZ gr (vpT gr key l out p) p.Pi.aE (l.length+i) ((rg (λi=>p.aH.getD i 0) l.length).getD i 0) ((rg (K6 gr h p R) l.length).getD i 0)&&tZ gr (vpT gr key l out p) p.Pi.aE (2*l.length+1+i) ((rg (λi=>p.bM.getD i 0) l.length).getD i 0) ((rg (JX gr h R) l.length).getD i 0)) λi hi=>by
   simp only[lj _ hi];rfl
  rw[e];rfl
 rw[hB];rcases hv with⟨rfl,hv⟩|⟨rfl,hv⟩
 ·exact am hv.symm
 exact am hv.symm
end
end
def zGp{gr:an}(k:ap gr){key h:Int}{B:cA}{l out:List aq}{p:ct}(hn:l.length<=12)(hf:(decide (out.length=l.length)&&sx gr l.length p)=aa):zW gr B key l out p=J aa/\Dk gr key h l out p=J aa:=by
 have e:((out.length:Int) !=(l.length:Int))= !decide (out.length=l.length):=by rw[bne,iS]
 unfold zW Dk;rw[e,Yy k (by omega),zAA k (by omega)];cases h1:decide (out.length=l.length)
 ·exact⟨rfl,rfl⟩
 rw[h1,ig]at hf;rw[hf];exact⟨rfl,rfl⟩
def zEA(gr:an)(key:Int){l:List aq}(hg:ap gr->vv gr l.length)(hl:l.length<=13)(out:List aq)(p:ct):∃v t,um gr key l out p=J (v,t)/\Fj gr key l out p=J (v,t):=by
 by_cases k:ap gr
 ·obtain⟨B,b1,b2,b3,b4⟩:=Pw k key (hg k) hl;unfold um Fj GL;rw[b4,uR k,uR k,zp k,b1,show(aM gr key&&(dh 1 12 l.length&&l.all (ce gr)))=fH gr key l from rfl];cases h1:fH gr key l
  ·exact⟨aa,aa,rfl,rfl⟩
  have ki:=h1;simp only[fH,dh,bK,eO]at ki;obtain⟨c1,c2,c3⟩:=ki;rw[c1];cases h2:(dh 1 12 out.length&&out.all (ce gr))
  ·exact⟨aa,aa,rfl,rfl⟩
  simp only[bK]at h2;cases h3:(decide (out.length=l.length)&&sx gr l.length p)
  ·obtain⟨e1,e2⟩:=zGp (key:=key) (h:=B.H) (B:=B) k (by omega) h3;refine⟨aa,Z,?_,?_⟩
   ·simp[e1]
   simp[e2]
  obtain⟨g1,g2⟩:=B3.1 h3;obtain⟨R,V⟩:=zEQ (h:=B.H) c1 (l:=l) (by omega) (bm.1 c3) (bm.1 h2.2) b3 (xM g1) g2;have e1:=Zt k V g2;have e2:=zEK k V g2;generalize ((p.Pi.aW.getD 0 0==vpT gr key l out p)&&B8 gr key B.H l out p R (vpX gr key l out p) (vpY gr key l out p) (vpZ gr key l out p) (vpT gr key l out p) l.length)=v at e1 e2;refine⟨v,Z,?_,?_⟩
  ·simp[e1]
  simp[e2]
 refine⟨aa,aa,?_,?_⟩
 ·unfold um;rw[Vk k];rfl
 unfold Fj;rw[GZ k];rfl
def uQ(q x y z:Int)(a j:Int):Int:=a*((y*(j+1)+kG q x (j.toNat+1)-z)%q)%q
def zHM(q x y z a i j:Int):uQ q x y z (uQ q x y z a i) j=uQ q x y z (uQ q x y z a j) i:=by
 unfold uQ;generalize (y*(i+1)+kG q x (i.toNat+1)-z)%q=u;generalize (y*(j+1)+kG q x (j.toNat+1)-z)%q=v;rw[ng (a*u%q),eZ,<-ng,ng (a*v%q),eZ,<-ng];congr 1;rw[Ma,a1z u v,Ma]
def zAW(q x y z:Int)(n:Nat):((List.range n).map λ(i:Nat)=>(i:Int)).foldl (uQ q x y z) 1=tgN q x y z n:=by
 induction n with
 |zero=>rfl
 |succ n ih=>
  rw[nc,mz,HO,ih];rfl
def Q3{l:List Int}(h:d8 l=Z):l.Perm ((List.range l.length).map λ(i:Nat)=>(i:Int)):=by
 have h':=h;simp only[d8,bK,oE,eO,bm,dh]at h'
 have hnd:((List.range l.length).map λ(i:Nat)=>(i:Int)).Nodup:=by
  refine Wm.2 ?_;exact List.Pairwise.imp (λh e=>h (by exact_mod_cast e)) (List.nodup_range (n:=l.length))
 refine(List.perm_ext_iff_of_nodup h'.2 hnd).2 λa=>⟨λha=>?_,λha=>?_⟩
 ·have:=h'.1 a ha;simp only[jU,kP];exact⟨a.toNat,by omega,by omega⟩
 simp only[jU,kP]at ha;obtain⟨i,hi,rfl⟩:=ha;exact UZ h ⟨by omega,by omega⟩
def zBZ{l:List Int}(h:d8 l=Z)(q x y z:Int):l.foldl (uQ q x y z) 1=tgN q x y z l.length:=by
 rw[(Q3 h).foldl_eq' (λi _ j _ a=>zHM q x y z a i j),zAW]
def ON{l:List Int}{f:Int->Int->Int}{a:Int}{i:Nat}(hi:i<l.length):(l.take (i+1)).foldl f a=f ((l.take i).foldl f a) (l.getD i 0):=by
 rw[jd hi,HO,bZ hi];rfl
def pg(gr:an)(a:Int):Int:=ay gr gr.G a
section
variable {gr:an}
variable{q:Int}
def Jf{a b:Int}(h:a%gr.Q=b%gr.Q):pg gr a=pg gr b:=by unfold pg ay;rw[h]
def Bf{a b:Int}(K:Int)(h:a=b+gr.Q*K):pg gr a=pg gr b:=Jf (by rw[h,HQ])
def zMA{x a b:Int}(h:a%gr.Q=b%gr.Q):ay gr x a=ay gr x b:=by unfold ay;rw[h]
def T5(a:Int):pg gr (a%gr.Q)=pg gr a:=Jf (eZ _ _)
def mw(a q:Int):∃m,a%q=a-q*m:=⟨a/q,Int.emod_def a q⟩
def gR(k:ap gr)(a b:Int):aQ gr [pg gr a,pg gr b]=pg gr (a+b):=by
 have hq:=k.q;rw[<-T5 a,<-T5 b];unfold pg;rw[zy0 k (oC _ (by omega)) (oC _ (by omega))];exact Jf (pP a b gr.Q).symm
def iq(k:ap gr)(a e:Int):ay gr (pg gr a) e=pg gr (a*e):=by
 have hq:=k.q;rw[<-T5 a,zMA (b:=e%gr.Q) (eZ _ _).symm];unfold pg;rw[zt3 k (om k) (oC _ (by omega)) (oC _ (by omega))];exact Jf (ng a e gr.Q).symm
def VD(k:ap gr):pg gr 0=1:=zxx k
def Hz(k:ap gr)(a:Int):aM gr (pg gr a)=Z:=kT k (om k) a
def Xx(k:ap gr)(a:Int):0<=pg gr a/\pg gr a<gr.P:=by
 have:=BQ k gr.G a;exact⟨this.1,by unfold pg;omega⟩
def RB(k:ap gr)(a b:Int):pg gr a*pg gr b%gr.P=pg gr (a+b):=by
 rw[<-gR k,JO k (Xx k a) (Xx k b).1]
def UT(k:ap gr):pg gr 1=gr.G:=by
 have hq:=k.q;have hp:=k.p;have hg:=k.g;unfold pg ay;rw[qM (by omega) (by omega)];show((gr.G.toNat^1%gr.P.toNat:Nat):Int)=gr.G;rw[Nat.pow_one,oA (by omega)];omega
def zBR(k:ap gr)(a b c:Int):aQ gr [pg gr a,pg gr b,pg gr c]=pg gr (a+b+c):=by
 have h:aQ gr [pg gr a,pg gr b,pg gr c]=aQ gr [pg gr a,pg gr b]*pg gr c%gr.P:=rfl;rw[h,gR k,RB k]
open Classical in
noncomputable def dl(gr:an)(x:Int):Int:=if h:∃a,x=pg gr a then Classical.choose h else 0
def kp(k:ap gr){x:Int}(h:aM gr x=Z):x=pg gr (dl gr x):=by
 have hg:=k.g;have hq:=k.q
 have he:∃a,x=pg gr a:=by
  obtain⟨s,hs⟩:=zCY k (om k) (show gr.G≠1 by omega) h;have hx:=(F5 h).1;refine⟨s,?_⟩;unfold pg ay;obtain⟨n,hn⟩:=fZ (show 0<=gr.Q by omega);have h3:=(F5 (om k)).2.2;rw[hn]at h3⊢;rw[dL]at h3;rw[<-pN,dL,Le h3,hs];omega
 unfold dl;rw[dif_pos he];exact a5H he
theorem Io(a b:Nat->Int)(T:Int):∀n,cq (λi=>a i+T*b i) n=cq a n+T*cq b n
 |0=>by simp[cq]
 |n+1=>by
  show cq (λi=>a i+T*b i) n+(a n+T*b n)=(cq a n+a n)+T*(cq b n+b n);rw[Io a b T n];grind
def zCw(a b:Nat->Int)(n:Nat):cq (λi=>a i+b i) n=cq a n+cq b n:=by
 have:=Io a b 1 n;simpa using this
theorem W4(f:Int->Int)(l:List Int):∀n,n<=l.length->(l.take n).foldl (λa j=>a+f j) 0=cq (λi=>f (l.getD i 0)) n
 |0,_=>rfl
 |n+1,h=>by
  rw[ON (by omega),W4 f l n (by omega)];rfl
theorem zt0(f:Int->Int):∀n,((List.range n).map λ(i:Nat)=>(i:Int)).foldl (λa j=>a+f j) 0=cq (λi=>f (i:Nat)) n
 |0=>rfl
 |n+1=>by
  rw[nc,mz,HO,zt0 f n];rfl
def zvx{l:List Int}(h:d8 l=Z)(f:Int->Int):cq (λi=>f (l.getD i 0)) l.length=cq (λi=>f (i:Nat)) l.length:=by
 have h1:=W4 f l l.length (cB _);rw[gw]at h1;rw[<-h1,(Q3 h).foldl_eq' (λi _ j _ a=>by omega),zt0]
def t8(k:ap gr){l m:List Int}{f:Nat->Int}(hl:l.length=m.length)(hf:∀i,i<l.length->l.getD i 0=pg gr (f i)):zaQ gr l m 1=pg gr (cq (λi=>f i*m.getD i 0) l.length):=by
 have key:∀n,n<=l.length->zaQ gr (l.take n) (m.take n) 1=pg gr (cq (λi=>f i*m.getD i 0) n):=by
  intro n;induction n with
  |zero=>intro _;exact(VD k).symm
  |succ n ih=>
   intro hn;have h1:n<l.length:=by omega
   have h2:n<m.length:=by omega
   rw[jd h1,jd h2,Pq gr _ _ _ _ _ (by simp;omega),ih (by omega),<-bZ h1,<-bZ h2,hf n h1,iq k,RB k];rfl
 have:=key l.length (cB _);rw[gw,hl,gw]at this;rw[this,hl]
def zxL(k:ap gr){l:List Int}{f:Nat->Int}(hf:∀i,i<l.length->l.getD i 0=pg gr (f i)):aQ gr l=pg gr (cq f l.length):=by
 have key:∀n,n<=l.length->(l.take n).foldl (λo x=>o*x%gr.P) 1=pg gr (cq f n):=by
  intro n;induction n with
  |zero=>intro _;exact(VD k).symm
  |succ n ih=>
   intro hn;have h1:n<l.length:=by omega
   rw[ON h1,ih (by omega),hf n h1,RB k];rfl
 have:=key l.length (cB _);rw[gw]at this;exact this
theorem O9{q:Int}(hq:0<q)(l m:List Int):∀n,dtN q l m n%q=cq (λi=>l.getD i 0*m.getD i 0) n%q
 |0=>rfl
 |n+1=>by
  show(dtN q l m n+l.getD n 0*m.getD n 0)%q%q=(cq _ n+l.getD n 0*m.getD n 0)%q;rw[eZ,pP,O9 hq l m n,<-pP]
theorem zAx{q:Int}(hq:0<q)(l:List Int):∀n,smN q l n%q=cq (λi=>l.getD i 0) n%q
 |0=>rfl
 |n+1=>by
  show(smN q l n+l.getD n 0)%q%q=(cq _ n+l.getD n 0)%q;rw[eZ,pP,zAx hq l n,<-pP]
def zF0{S0 S1 S2 S3 T b0 f F D m1 m2 m3 m4 m5 m6:Int}(e1:S0-q*m1=S1+T*(S2+b0*S3)-q*m2)(e2:F-q*m3=f+T*D-q*m4)(e3:D-q*m5=S3-q*m6):
 (b0*(0-f)+S1)+S2*T=(b0*(0-F)+S0)+q*(m2-m1+b0*(m3-m4)+T*b0*(m5-m6)):=by
 have a1:S0=S1+T*(S2+b0*S3)-q*m2+q*m1:=by rw[<-e1];grind
 have a2:D=S3-q*m6+q*m5:=by rw[<-e3];grind
 have a3:F=f+T*D-q*m4+q*m3:=by rw[<-e2];grind
 rw[a3,a1,a2];grind
def zId{perm:List Int}(hp:d8 perm=Z){al U o rs kk K:Nat->Int}{b0 f F D T:Int}(ho:∀i,i<perm.length->o i=al (perm.getD i 0).toNat+b0*rs i)
(hK:∀i,i<perm.length->K i%q=(kk i+T*U (perm.getD i 0).toNat)%q)(hF:F%q=(f+T*D)%q)(hD:D%q=cq (λi=>rs i*U (perm.getD i 0).toNat) perm.length%q):
 ((b0*(0-f)+cq (λi=>o i*kk i) perm.length)+cq (λj=>al j*U j) perm.length*T)%q=(b0*(0-F)+cq (λi=>o i*K i) perm.length)%q:=by
 have e1:cq (λi=>o i*K i) perm.length%q=cq (λi=>o i*kk i+T*(o i*U (perm.getD i 0).toNat)) perm.length%q:=RV _ λi hi=>by
  rw[ng,hK i hi,<-ng,show o i*(kk i+T*U (perm.getD i 0).toNat)=o i*kk i+T*(o i*U (perm.getD i 0).toNat)by grind]
 rw[Io]at e1;have e2:cq (λi=>o i*U (perm.getD i 0).toNat) perm.length=cq (λi=>al (perm.getD i 0).toNat*U (perm.getD i 0).toNat+b0*(rs i*U (perm.getD i 0).toNat)) perm.length:=Dt _ λi hi=>by rw[ho i hi];grind
 rw[Io]at e2;have e3:=zvx hp (λj=>al j.toNat*U j.toNat);have e4:cq (λi:Nat=>al (i:Int).toNat*U (i:Int).toNat) perm.length=cq (λj=>al j*U j) perm.length:=rfl;rw[e4]at e3;rw[e2,e3]at e1;generalize cq (λi=>o i*K i) perm.length=S0 at e1⊢;generalize cq (λi=>o i*kk i) perm.length=S1 at e1⊢;generalize cq (λj=>al j*U j) perm.length=S2 at e1⊢;generalize cq (λi=>rs i*U (perm.getD i 0).toNat) perm.length=S3 at e1 hD;obtain⟨m1,h1⟩:=mw S0 q;obtain⟨m2,h2⟩:=mw (S1+T*(S2+b0*S3)) q;obtain⟨m3,h3⟩:=mw F q;obtain⟨m4,h4⟩:=mw (f+T*D) q;obtain⟨m5,h5⟩:=mw D q;obtain⟨m6,h6⟩:=mw S3 q;rw[h1,h2]at e1;rw[h3,h4]at hF;rw[h5,h6]at hD;rw[zF0 e1 hF hD,HQ]
end
section
variable {gr:an}
variable{i:Nat}
def ek{a b q:Int}(h:a%q=b%q):∃m,a=b+q*m:=by
 obtain⟨m,hm⟩:=mw a q;obtain⟨n,hn⟩:=mw b q;rw[hm,hn]at h;exact⟨m-n,by rw[Int.mul_sub];omega⟩
def we(k:ap gr){h eta:Int}(hh:h=pg gr eta)(x r:Int):vc gr h x r=pg gr (x+eta*r):=by
 rw[hh];unfold vc;rw[iq k];exact gR k x (eta*r)
def tW{α:Type}{a b:List α}{d:α}(h:i<a.length):(a++b).getD i d=a.getD i d:=by
 rw[nP,nP,fM h]
def ui{α:Type}{a b:List α}{j:Nat}{d:α}(h:i=a.length+j):(a++b).getD i d=b.getD j d:=by
 rw[nP,nP,gj (by omega),h,Wq]
def zKH{q w v T y p e z u ab a b eta n1 n2 n3 n4 s1 s2:Int}(h1:u=y*p+e-z+q*n1)(h2:s1=w+T*u+q*n2)(h3:ab=y*a+b+q*n3)(h4:s2=v+T*ab+q*n4):
 (w+eta*v)+((p+eta*a)*y+(e+eta*b)+(0-z))*T=(s1+eta*s2)+q*(0-(T*n1+n2+eta*T*n3+eta*n4)):=by
 rw[h4,h3,h2,h1];grind
def zNs(k:ap gr){h eta w v T y p e z u ab a b s1 s2:Int}(hh:h=pg gr eta)(h1:u%gr.Q=(y*p+e-z)%gr.Q)(h2:s1%gr.Q=(w+T*u)%gr.Q)(h3:ab%gr.Q=(y*a+b)%gr.Q)(h4:s2%gr.Q=(v+T*ab)%gr.Q)(hz:i64.wrap (0-z)=0-z):
 aQ gr [vc gr h w v,ay gr (aQ gr [ay gr (vc gr h p a) y,vc gr h e b,ay gr gr.G (i64.wrap (0-z))]) T]=vc gr h s1 s2:=by
 obtain⟨n1,h1⟩:=ek h1;obtain⟨n2,h2⟩:=ek h2;obtain⟨n3,h3⟩:=ek h3;obtain⟨n4,h4⟩:=ek h4;rw[we k hh,we k hh,we k hh,we k hh,iq k,hz,show ay gr gr.G (0-z)=pg gr (0-z)from rfl,zBR k,iq k,gR k];exact Bf _ (zKH h1 h2 h3 h4)
def zJ6{q pr ls eta w s T y9 c u s1 s3 d n1 n2 n3 n4:Int}(h1:y9=pr*u+q*n1)(h2:s1=w+T*u+q*n2)(h3:d=c-ls*u+q*n3)(h4:s3=s+T*d+q*n4):
 ((pr+eta*ls)*w+eta*s)+(y9+eta*c)*T=((pr+eta*ls)*s1+eta*s3)+q*(T*n1-(pr+eta*ls)*n2-eta*T*n3-eta*n4):=by
 rw[h4,h3,h2,h1];grind
def zKj(k:ap gr){h eta bf pr ls w s T y9 c u s1 s3 d:Int}(hh:h=pg gr eta)(hb:bf=pg gr (pr+eta*ls))(h1:y9%gr.Q=(pr*u)%gr.Q)(h2:s1%gr.Q=(w+T*u)%gr.Q)(h3:d%gr.Q=(c-ls*u)%gr.Q)(h4:s3%gr.Q=(s+T*d)%gr.Q):
 aQ gr [aQ gr [ay gr bf w,ay gr h s],ay gr (vc gr h y9 c) T]=aQ gr [ay gr bf s1,ay gr h s3]:=by
 obtain⟨n1,h1⟩:=ek h1;obtain⟨n2,h2⟩:=ek h2;obtain⟨n3,h3⟩:=ek h3;obtain⟨n4,h4⟩:=ek h4;rw[we k hh,hb,hh,iq k,iq k,iq k,iq k,iq k,gR k,gR k,gR k];exact Bf _ (zJ6 h1 h2 h3 h4)
def zN3{q kk m e b T K M eta n1 n2:Int}(h1:K=kk+T*e+q*n1)(h2:M=m+T*b+q*n2):(kk+eta*m)+(e+eta*b)*T=(K+eta*M)+q*(0-(n1+eta*n2)):=by
 rw[h1,h2];grind
def zMb(k:ap gr){h eta kk m e b T K M:Int}(hh:h=pg gr eta)(h1:K%gr.Q=(kk+T*e)%gr.Q)(h2:M%gr.Q=(m+T*b)%gr.Q):aQ gr [vc gr h kk m,ay gr (vc gr h e b) T]=vc gr h K M:=by
 obtain⟨n1,h1⟩:=ek h1;obtain⟨n2,h2⟩:=ek h2;rw[we k hh,we k hh,we k hh,iq k,gR k];exact Bf _ (zN3 h1 h2)
def zNy{q g pn c tg T G eta n1 n2:Int}(h1:pn=tg+q*n1)(h2:G=g+T*c+q*n2):eta*g+(pn+eta*c+tg*(-1))*T=eta*G+q*(T*n1-eta*n2):=by
 rw[h1,h2];grind
def zNh(k:ap gr){h eta g pn c tg T G:Int}(hh:h=pg gr eta)(h1:pn%gr.Q=tg%gr.Q)(h2:G%gr.Q=(g+T*c)%gr.Q):aQ gr [ay gr h g,ay gr (aQ gr [vc gr h pn c,ay gr (ay gr gr.G tg) (-1)]) T]=ay gr h G:=by
 obtain⟨n1,h1⟩:=ek h1;obtain⟨n2,h2⟩:=ek h2;rw[we k hh,hh,show ay gr gr.G tg=pg gr tg from rfl,iq k,iq k,iq k,gR k,iq k,gR k];exact Bf _ (zNy h1 h2)
def Mj(k:ap gr){b0 f F D T base:Int}{FF Ac Da ks Ks perm:List Int}{al U o rs:Nat->Int}(hb:base=pg gr b0)(hp:d8 perm=Z)(li:FF.length=perm.length)(lo:Ac.length=perm.length)(lu:Da.length=perm.length)(lk:ks.length=perm.length)(lK:Ks.length=perm.length)
(hi:∀j,j<perm.length->FF.getD j 0=pg gr (al j))(hu:∀j,j<perm.length->Da.getD j 0=U j)(ho:∀i,i<perm.length->Ac.getD i 0=pg gr (o i))(RJ:∀i,i<perm.length->o i=al (perm.getD i 0).toNat+b0*rs i)
(hK:∀i,i<perm.length->Ks.getD i 0%gr.Q=(ks.getD i 0+T*U (perm.getD i 0).toNat)%gr.Q)(hF:F%gr.Q=(f+T*D)%gr.Q)(hD:D%gr.Q=cq (λi=>rs i*U (perm.getD i 0).toNat) perm.length%gr.Q)
(hf:i64.wrap (0-f)=0-f)(hF2:i64.wrap (0-F)=0-F):
 aQ gr [aQ gr [ay gr base (i64.wrap (0-f)),zaQ gr Ac ks 1],ay gr (zaQ gr FF Da 1) T]=aQ gr [ay gr base (i64.wrap (0-F)),zaQ gr Ac Ks 1]:=by
 have e1:cq (λi=>al i*Da.getD i 0) perm.length=cq (λi=>al i*U i) perm.length:=Dt _ λi hi=>by rw[hu i hi]
 rw[hf,hF2,hb,iq k,iq k,t8 k (l:=Ac) (m:=ks) (f:=o) (by omega) (by rw[lo];exact ho),t8 k (l:=Ac) (m:=Ks) (f:=o) (by omega) (by rw[lo];exact ho),t8 k (l:=FF) (m:=Da) (f:=al) (by omega) (by rw[li];exact hi),lo,li,e1,gR k,gR k,iq k,gR k];exact Jf (zId hp RJ hK hF hD)
theorem zxG{q x:Int}(hq:1<q)(hx:0<=x):∀i,kG q x i=((x.toNat^i%q.toNat:Nat):Int)
 |0=>by
  show(1:Int)=_;rw[Wb,oA (by omega)];rfl
 |i+1=>by
  obtain⟨n,rfl⟩:=fZ hx;obtain⟨m,rfl⟩:=fZ (show 0<=q by omega);show kG _ _ i*_%_=_;rw[zxG hq hx i,dL,dL,<-Eu,<-pN,Nat.pow_succ,uL,Qo,<-uL]
def Tu{q x:Int}{perm:List Int}(h:0<=perm.getD i 0):eF q x perm i=iK q x (perm.getD i 0).toNat:=by
 unfold eF iK;rw[show(perm.getD i 0+1).toNat=(perm.getD i 0).toNat+1 by omega]
def zF6{q x y z:Int}(hq:1<q)(hx:0<=x){perm:List Int}(hp:∀j∈perm,0<=j/\j<=1000)(hb:d8 perm=Z):sU q (uF q y z (eF q x perm) perm) perm.length=tgN q x y z perm.length:=by
 have key:∀n,n<=perm.length->sU q (uF q y z (eF q x perm) perm) n=(perm.take n).foldl (uQ q x y z) 1:=by
  intro n;induction n with
  |zero=>intro _;rfl
  |succ n ih=>
   intro hn;rw[ON (by omega),<-ih (by omega)];show sU q _ n*uF q y z _ perm n%q=uQ q x y z _ _;have hj:=(eN hp (show n<perm.length by omega)).1;unfold uQ uF;rw[zxG hq hx,Tu hj];rfl
 rw[key _ (cB _),gw,zBZ hb]
theorem WS{f:Nat->Bool}:∀{n},(∀i,i<n->f i=Z)->alB f n=Z
 |0,_=>rfl
 |n+1,h=>by
  show(alB f n&&f n)=Z;rw[WS λi hi=>h i (by omega),h n (by omega)];rfl
end
section
variable {gr:an}{key h:Int}{l:List aq}{perm rs:List Int}{C:Pc}
abbrev c0:aq:=⟨0,0⟩
variable{ch:List Int}
def HR{l:List aq}{j:Nat}(hj:j<l.length):(sdV l).1.getD j 0=(l.getD j c0).A/\(sdV l).2.getD j 0=(l.getD j c0).B:=by
 simp[sdV,List.getD,hj]
def J2(hl:∀c∈l,ce gr c=Z){j:Nat}(hj:j<l.length):aM gr (l.getD j c0).A=Z/\aM gr (l.getD j c0).B=Z:=by
 have h:=hl _ (fm hj);have e:l.getD j c0=l[j]:=by simp[List.getD,hj]
 rw[e];simpa only[ce,bK]using h
def zGT{i:Nat}(hi:i<perm.length):(zaS gr key l perm rs).getD i c0=AX gr key (l.getD (perm.getD i 0).toNat c0) (rs.getD i 0):=by
 simp[zaS,List.getD,hi]
def zH(k:ap gr)(m:nD gr key l perm rs){i:Nat}(hi:i<perm.length):(sdV (zaS gr key l perm rs)).1.getD i 0=pg gr (dl gr (l.getD (perm.getD i 0).toNat c0).A+1*rs.getD i 0)/\(sdV (zaS gr key l perm rs)).2.getD i 0=pg gr (dl gr (l.getD (perm.getD i 0).toNat c0).B+dl gr key*rs.getD i 0):=by
 have hj:=eN m.pr hi;have hc:=J2 m.c (show(perm.getD i 0).toNat<l.length by omega);have hs:=HR (l:=zaS gr key l perm rs) (j:=i) (by rw[k8];exact hi);rw[hs.1,hs.2,zGT hi];unfold AX;generalize l.getD (perm.getD i 0).toNat c0=c at hc;have e1:=kp k hc.1;have e2:=kp k hc.2;have e3:=kp k m.key;generalize dl gr c.A=a at e1;generalize dl gr c.B=b at e2;generalize dl gr key=kk at e3;dsimp only;rw[e1,e2,e3,iq k];refine⟨by rw[show ay gr gr.G (rs.getD i 0)=pg gr (rs.getD i 0)from rfl,gR k,Wp],?_⟩;rw[<-VD k,gR k,gR k,L6]
def zyo(k:ap gr){eta:Int}(hh:h=pg gr eta){u:Nat->Int}{n i:Nat}(hi:i<n):bef gr.G (rg (chF gr h u C) n) i=pg gr (sU gr.Q u i+eta*BO C i):=by
 unfold bef;cases i with
 |zero=>
  show gr.G=pg gr (1+eta*0);rw[Int.mul_zero,Int.add_zero,UT k]
 |succ i=>
  rw[ui (a:=[gr.G]) (j:=i) (by simp;omega),lj _ (by omega)];exact we k hh _ _
def KR{gr:an}(k:ap gr){z:Int}(hz:E9 gr.Q z):i64.wrap (0-z)=0-z:=by
 have h1:=hz.1;have h2:=hz.2;have hq:=k.q;have hp:=k.p;exact aK (by omega) (by omega)
def zMD{out:List aq}{n i:Nat}(hi:i<n):(oM gr key h out ch C n).getD i 0=PZ gr h C i:=by
 unfold oM;rw[tW (by simp[bn];omega),tW (by simp[bn];omega),tW (by simp[bn];omega),tW (by simp[bn];omega),lj _ hi]
def zNV{out:List aq}{n i:Nat}(hi:i<n):(oM gr key h out ch C n).getD (n+i) 0=c2F gr h ch C i:=by
 unfold oM;rw[tW (by simp[bn];omega),tW (by simp[bn];omega),tW (by simp[bn];omega),ui (j:=i) (by simp[bn]),lj _ hi]
def zNO{out:List aq}{n:Nat}:(oM gr key h out ch C n).getD (2*n) 0=ay gr h C.g:=by
 unfold oM;rw[tW (by simp[bn];omega),tW (by simp[bn];omega),ui (j:=0) (by simp[bn];omega)];rfl
def zJ3{out:List aq}{n i:Nat}(hi:i<n):(oM gr key h out ch C n).getD (2*n+1+i) 0=c4F gr h C i:=by
 unfold oM;rw[tW (by simp[bn];omega),ui (j:=i) (by simp[bn];omega),lj _ hi]
def XN{out:List aq}{n:Nat}:(oM gr key h out ch C n).getD (3*n+1) 0=aQ gr [ay gr gr.G (i64.wrap (0-C.f)),zaQ gr (sdV out).1 C.k 1]/\(oM gr key h out ch C n).getD (3*n+2) 0=aQ gr [ay gr key (i64.wrap (0-C.f)),zaQ gr (sdV out).2 C.k 1]:=by
 unfold oM;rw[ui (i:=3*n+1) (j:=0) (by simp[bn];omega),ui (i:=3*n+2) (j:=1) (by simp[bn];omega)];exact⟨rfl,rfl⟩
def ir(gr:an)(key h:Int)(l:List aq)(perm rs:List Int)(C:Pc):Rp:=
 let q:=gr.Q;let t:=kq gr key h l perm rs C;let u:=lQ gr key h l perm rs C;let e:=kf gr key h l perm rs C;let n:=l.length
 ⟨rg (rF q t C.w u) n,rg (rF q t C.v (abF q (rB gr key h l perm rs C) C)) n,rg (rF q t C.s (dlF q u C)) n,(C.g+t*C.c.getD (n-1) 0)%q,rg (rF q t C.k e) n,rg (rF q t C.m (λi=>C.b.getD i 0)) n,(C.f+t*dtN q rs (rg e n) n)%q⟩
def zCt(k:ap gr)(P:gT gr key h l perm rs C):∀z∈hJ gr key h l perm rs C,aM gr z=Z:=by
 have hh:=kp k P.hh;have dR:=P.m.pl;have MY:=P.c.k.1;have kR:(zaS gr key l perm rs).length=l.length:=by rw[k8,P.m.pl]
 have fk:=m8 (zaS gr key l perm rs)
 have d1:aM gr (zaQ gr (sdV (zaS gr key l perm rs)).1 C.k 1)=Z:=by
  rw[t8 k (f:=λi=>dl gr (l.getD (perm.getD i 0).toNat c0).A+1*rs.getD i 0) (by omega) λi hi=>(zH k P.m (by omega)).1];exact Hz k _
 have d2:aM gr (zaQ gr (sdV (zaS gr key l perm rs)).2 C.k 1)=Z:=by
  rw[t8 k (f:=λi=>dl gr (l.getD (perm.getD i 0).toNat c0).B+dl gr key*rs.getD i 0) (by omega) λi hi=>(zH k P.m (by omega)).2];exact Hz k _
 unfold hJ oM;refine jK (jK (jK (jK (nv λi _=>Iw k P.hh _ _) (nv λi hi=>?_)) ?_) (nv λi _=>Iw k P.hh _ _)) ?_
 ·unfold c2F;refine ru k (kT k ?_ _) (kT k P.hh _);unfold jS;rw[zyo k hh hi];exact Hz k _
 ·intro x hx;rw[gP]at hx;rw[hx];exact kT k P.hh _
 intro x hx;simp only[f6,jy,jz]at hx;rcases hx with rfl|rfl
 ·exact ru k (kT k (om k) _) d1
 exact ru k (kT k P.m.key _) d2
def zG2(k:ap gr)(P:gT gr key h l perm rs C):∀z∈(ir gr key h l perm rs C).cs,E9 gr.Q z:=by
 have hq:=k.q;have cQ:0<gr.Q:=by omega
 have hr:∀(t:Int) (w:List Int) (u:Nat->Int) (n:Nat),∀z∈rg (rF gr.Q t w u) n,E9 gr.Q z:=λt w u n=>nv λi _=>by unfold rF;exact gB cQ _
 have h1:∀x:Int,∀z∈[x%gr.Q],E9 gr.Q z:=λx z hz=>by rw[gP]at hz;rw[hz];exact gB cQ _
 exact jK (hr _ _ _ _) (jK (hr _ _ _ _) (jK (hr _ _ _ _) (jK (h1 _) (jK (hr _ _ _ _) (jK (hr _ _ _ _) (h1 _))))))
def XT(k:ap gr)(P:gT gr key h l perm rs C):yJ gr key h l (zaS gr key l perm rs) (ju gr key h l perm rs C) (ir gr key h l perm rs C):=
 ⟨P.m.key,P.m.n,P.m.c,v4 k P.m,by rw[k8,P.m.pl],P.hh,⟨bn _ _,T0 k P⟩,⟨bn _ _,zAz k P⟩,I1 k P,⟨(EG k P).1,zCt k P⟩,rfl,rfl,⟨bn _ _,bn _ _,bn _ _,bn _ _,bn _ _⟩⟩
def zHn(k:ap gr)(P:gT gr key h l perm rs C):sx gr l.length (ju gr key h l perm rs C)=Z:=by
 have V:=XT k P;have e1:=V.rs
 have hl:(ju gr key h l perm rs C).Pi.aG.length=5*l.length+2:=by
  rw[e1];have r:=V.r;simp only[Rp.cs,bT,d5,iz,r.s1,r.s2,r.s3,r.kk,r.mm];omega
 simp only[sx,bK,eO];exact⟨V.pl.1,V.pw.1,V.ch.1,V.cm.1,V.cl,hl,bm.2 V.pl.2,bm.2 V.pw.2,bm.2 V.ch.2,bm.2 V.cm.2,by rw[e1];exact Z9 (zG2 k P)⟩
end
section
variable {gr:an}{key h:Int}{l:List aq}{perm rs:List Int}{C:Pc}
variable{i:Nat}
def zHX(k:ap gr)(P:gT gr key h l perm rs C)(hi:i<l.length):q1 gr h (rB gr key h l perm rs C) (uj gr key h l perm rs C) (kq gr key h l perm rs C) (ju gr key h l perm rs C) (ir gr key h l perm rs C) i=Z:=by
 have hz:E9 gr.Q (uj gr key h l perm rs C):=mF k _ _;show(aQ gr [(hJ gr key h l perm rs C).getD i 0,ay gr (aQ gr [ay gr ((gN gr h perm C l.length).getD i 0) (rB gr key h l perm rs C),(ku gr key h l perm rs C).getD i 0,ay gr gr.G (i64.wrap (0-uj gr key h l perm rs C))]) (kq gr key h l perm rs C)]==vc gr h ((ir gr key h l perm rs C).s1.getD i 0) ((ir gr key h l perm rs C).s2.getD i 0))=Z;unfold hJ gN ku ir;dsimp only;rw[zMD hi,lj _ hi,lj _ hi,lj _ hi,lj _ hi];exact beq_iff_eq.2 (zNs k (kp k P.hh) (u:=lQ gr key h l perm rs C i) (ab:=abF gr.Q (rB gr key h l perm rs C) C i) (eZ _ _) (eZ _ _) (eZ _ _) (eZ _ _) (KR k hz))
def zGU(k:ap gr)(P:gT gr key h l perm rs C)(hi:i<l.length):q2 gr h (kq gr key h l perm rs C) (ju gr key h l perm rs C) (ir gr key h l perm rs C) l.length i=Z:=by
 show(aQ gr [(hJ gr key h l perm rs C).getD (l.length+i) 0,ay gr ((jS gr key h l perm rs C).getD i 0) (kq gr key h l perm rs C)]==aQ gr [ay gr (bef gr.G (jS gr key h l perm rs C) i) ((ir gr key h l perm rs C).s1.getD i 0),ay gr h ((ir gr key h l perm rs C).s3.getD i 0)])=Z;unfold hJ ir;dsimp only;rw[zNV hi,lj _ hi,lj _ hi];unfold c2F;have hb:bef gr.G (jS gr key h l perm rs C) i=pg gr (sU gr.Q (lQ gr key h l perm rs C) i+dl gr h*BO C i):=zyo k (kp k P.hh) hi;have hc:(jS gr key h l perm rs C).getD i 0=vc gr h (sU gr.Q (lQ gr key h l perm rs C) (i+1)) (C.c.getD i 0):=lj _ hi;rw[hc];exact beq_iff_eq.2 (zKj k (kp k P.hh) hb (u:=lQ gr key h l perm rs C i) (d:=dlF gr.Q (lQ gr key h l perm rs C) C i) (eZ _ _) (eZ _ _) (eZ _ _) (eZ _ _))
def zFX(k:ap gr)(P:gT gr key h l perm rs C)(hi:i<l.length):q4 gr h (kq gr key h l perm rs C) (ju gr key h l perm rs C) (ir gr key h l perm rs C) l.length i=Z:=by
 show(aQ gr [(hJ gr key h l perm rs C).getD (2*l.length+1+i) 0,ay gr ((ku gr key h l perm rs C).getD i 0) (kq gr key h l perm rs C)]==vc gr h ((ir gr key h l perm rs C).kk.getD i 0) ((ir gr key h l perm rs C).mm.getD i 0))=Z;unfold hJ ir ku;dsimp only;rw[zJ3 hi,lj _ hi,lj _ hi,lj _ hi];exact beq_iff_eq.2 (zMb k (kp k P.hh) (eZ _ _) (eZ _ _))
def zFY(k:ap gr)(P:gT gr key h l perm rs C):q3 gr h (tgN gr.Q (nK gr key h l perm rs C) (rB gr key h l perm rs C) (uj gr key h l perm rs C) l.length) (kq gr key h l perm rs C) (ju gr key h l perm rs C) (ir gr key h l perm rs C) l.length=Z:=by
 have hn:=P.m.n;have hq:=k.q;have hx:E9 gr.Q (nK gr key h l perm rs C):=mF k _ _;have ht:=zF6 (q:=gr.Q) (y:=rB gr key h l perm rs C) (z:=uj gr key h l perm rs C) (by omega) hx.1 P.pr P.m.pb;rw[P.m.pl]at ht;have hc:(jS gr key h l perm rs C).getD (l.length-1) 0=vc gr h (sU gr.Q (lQ gr key h l perm rs C) (l.length-1+1)) (C.c.getD (l.length-1) 0):=lj _ (by omega);rw[show l.length-1+1=l.length by omega]at hc;show(aQ gr [(hJ gr key h l perm rs C).getD (2*l.length) 0,ay gr (aQ gr [(jS gr key h l perm rs C).getD (l.length-1) 0,ay gr (ay gr gr.G (tgN gr.Q _ _ _ l.length)) (-1)]) (kq gr key h l perm rs C)]==ay gr h (ir gr key h l perm rs C).g)=Z;rw[hc];unfold hJ ir;dsimp only;rw[zNO];exact beq_iff_eq.2 (zNh k (kp k P.hh) (gF (· %gr.Q) ht) (eZ _ _))
def zCp(k:ap gr)(P:gT gr key h l perm rs C):dtN gr.Q rs (rg (kf gr key h l perm rs C) l.length) l.length%gr.Q=cq (λi=>rs.getD i 0*iK gr.Q (nK gr key h l perm rs C) (perm.getD i 0).toNat) perm.length%gr.Q:=by
 have hq:=k.q;rw[O9 (by omega),P.m.pl];refine gF (· %gr.Q) (Dt _ λi hi=>?_);rw[lj _ hi];unfold kf;rw[Tu (eN P.pr (by rw[P.m.pl];exact hi)).1]
def zG5(k:ap gr)(P:gT gr key h l perm rs C):qE gr (kq gr key h l perm rs C) ((hJ gr key h l perm rs C).getD (3*l.length+1) 0) gr.G (rg (iK gr.Q (nK gr key h l perm rs C)) l.length) (sdV l).1 (sdV (zaS gr key l perm rs)).1 (ir gr key h l perm rs C)=Z/\
 qE gr (kq gr key h l perm rs C) ((hJ gr key h l perm rs C).getD (3*l.length+2) 0) key (rg (iK gr.Q (nK gr key h l perm rs C)) l.length) (sdV l).2 (sdV (zaS gr key l perm rs)).2 (ir gr key h l perm rs C)=Z:=by
 have hq:=k.q;have dR:=P.m.pl;have fk:=m8 l;have lO:=m8 (zaS gr key l perm rs);rw[k8]at lO;have hk:=P.c.k.1;have hf:=KR k P.c.f;have hF:i64.wrap (0-(ir gr key h l perm rs C).f)=0-(ir gr key h l perm rs C).f:=KR k (gB (by omega) _)
 have hK:∀i,i<perm.length->(ir gr key h l perm rs C).kk.getD i 0%gr.Q=(C.k.getD i 0+kq gr key h l perm rs C*iK gr.Q (nK gr key h l perm rs C) (perm.getD i 0).toNat)%gr.Q:=λi hi=>by
  unfold ir;dsimp only;rw[lj _ (by omega)];unfold rF;rw[eZ];unfold kf;rw[Tu (eN P.pr hi).1]
 have hl:(ir gr key h l perm rs C).kk.length=perm.length:=by unfold ir;dsimp only;rw[bn,dR]
 have lu:(rg (iK gr.Q (nK gr key h l perm rs C)) l.length).length=perm.length:=by rw[bn,dR]
 have hu:∀j,j<perm.length->(rg (iK gr.Q (nK gr key h l perm rs C)) l.length).getD j 0=iK gr.Q (nK gr key h l perm rs C) j:=λj hj=>lj _ (by omega)
 have hFF:(ir gr key h l perm rs C).f%gr.Q=(C.f+kq gr key h l perm rs C*dtN gr.Q rs (rg (kf gr key h l perm rs C) l.length) l.length)%gr.Q:=eZ _ _;unfold qE hJ;rw[XN.1,XN.2];refine⟨beq_iff_eq.2 (Mj k (perm:=perm) (b0:=1) (UT k).symm P.m.pb (by omega) lO.1 lu (by omega) hl (al:=λj=>dl gr (l.getD j c0).A) (o:=λi=>dl gr (l.getD (perm.getD i 0).toNat c0).A+1*rs.getD i 0) (rs:=λi=>rs.getD i 0) (λj hj=>?_) hu (λi hi=>(zH k P.m hi).1) (λ_ _=>rfl) hK hFF (zCp k P) hf hF),beq_iff_eq.2 (Mj k (perm:=perm) (b0:=dl gr key) (kp k P.m.key) P.m.pb (by omega) lO.2 lu (by omega) hl (al:=λj=>dl gr (l.getD j c0).B) (o:=λi=>dl gr (l.getD (perm.getD i 0).toNat c0).B+dl gr key*rs.getD i 0) (rs:=λi=>rs.getD i 0) (λj hj=>?_) hu (λi hi=>(zH k P.m hi).2) (λ_ _=>rfl) hK hFF (zCp k P) hf hF)⟩
 ·rw[(HR (by omega)).1];exact kp k (J2 P.m.c (by omega)).1
 rw[(HR (by omega)).2];exact kp k (J2 P.m.c (by omega)).2
def zE8(k:ap gr)(P:gT gr key h l perm rs C):B8 gr key h l (zaS gr key l perm rs) (ju gr key h l perm rs C) (ir gr key h l perm rs C) (nK gr key h l perm rs C) (rB gr key h l perm rs C) (uj gr key h l perm rs C) (kq gr key h l perm rs C) l.length=Z:=by
 unfold B8;rw[WS λi hi=>by rw[zHX k P hi,zGU k P hi,zFX k P hi];rfl,zFY k P];have h1:=zG5 k P;have e:(ju gr key h l perm rs C).Pi.aE=hJ gr key h l perm rs C:=rfl;rw[e,h1.1,h1.2];rfl
def zBE(k:ap gr){B:cA}(P:gT gr key B.H l perm rs C):zW gr B key l (zaS gr key l perm rs) (ju gr key B.H l perm rs C)=J Z:=by
 rw[Zt k (XT k P) (zHn k P)];have h1:=zE8 k P;have e1:vpX gr key l (zaS gr key l perm rs) (ju gr key B.H l perm rs C)=nK gr key B.H l perm rs C:=rfl;have e2:vpY gr key l (zaS gr key l perm rs) (ju gr key B.H l perm rs C)=rB gr key B.H l perm rs C:=rfl;have e3:vpZ gr key l (zaS gr key l perm rs) (ju gr key B.H l perm rs C)=uj gr key B.H l perm rs C:=rfl;have e4:vpT gr key l (zaS gr key l perm rs) (ju gr key B.H l perm rs C)=kq gr key B.H l perm rs C:=rfl;have e5:(ju gr key B.H l perm rs C).Pi.aW.getD 0 0=kq gr key B.H l perm rs C:=rfl;rw[e1,e2,e3,e4,e5,h1,a1A];rfl
end
section
variable {gr:an}{key:Int}{B:cA}{l:List aq}{perm rs s t w x:List Int}{a b d f:Int}
variable{i:Nat}
def ZY(h:d8 perm=Z){j:Nat}(hi:i<perm.length)(hj:j<perm.length)(e:perm.getD i 0=perm.getD j 0):i=j:=by
 simp only[d8,bK,oE,eO]at h;rw[bZ hi,bZ hj]at e;exact(List.getElem_inj h.2).1 e
def zCR{Hs ss:List Int}(hp:d8 perm=Z)(hr:∀x∈perm,0<=x/\x<perm.length)(hi:i<perm.length):(zeG gr Hs perm ss).getD (perm.getD i 0).toNat 0=aQ gr [ay gr gr.G (ss.getD (perm.getD i 0).toNat 0),Hs.getD i 0]:=by
 have h:=Nv (f:=tK gr Hs perm ss) (I:=λm s=>s.length=perm.length/\∀i,i<m->i<perm.length->s.getD (perm.getD i 0).toNat 0=aQ gr [ay gr gr.G (ss.getD (perm.getD i 0).toNat 0),Hs.getD i 0]) (s0:=List.replicate perm.length 0) (m:=perm.length) ⟨by simp,λi hi=>by omega⟩ (λm s hm ⟨h1,h2⟩=>by
  refine⟨by simp[tK,h1],λi hi fP=>?_⟩;unfold tK;have hx:=eN hr fP;have hy:=eN hr hm;by_cases e:m=i
  ·subst e;rw[nP,a5F (by omega),xG]
  ·have hne:(perm.getD m 0).toNat≠(perm.getD i 0).toNat:=λe2=>e (ZY hp hm fP (by omega))
   rw[nP,a5G hne,<-nP]
   exact h2 i (by omega) fP) perm.length (cB _)
 exact h.2 i hi hi
def zBt(h:d8 perm=Z):∃kX:Nat->Nat,∀j,j<perm.length->kX j<perm.length/\perm.getD (kX j) 0=(j:Int):=by
 have key:∀j:Nat,∃i,j<perm.length->i<perm.length/\perm.getD i 0=(j:Int):=by
  intro j;by_cases hj:j<perm.length
  ·obtain⟨i,hi,e⟩:=Qe (UZ h (j:=(j:Int)) ⟨by omega,by omega⟩);exact⟨i,λ_=>⟨hi,by rw[bZ hi,e]⟩⟩
  ·exact⟨0,λhh=>absurd hh hj⟩
 exact⟨λj=>Classical.choose (key j),λj hj=>a5H (key j) hj⟩
def zNj(q u v a:Int):a*u%q*v%q=a*v%q*u%q:=by
 rw[ng (a*u%q),eZ,<-ng,ng (a*v%q),eZ,<-ng];congr 1;rw[Ma,a1z u v,Ma]
theorem Yp(q:Int)(e:List Int):∀n,((List.range n).map λ(i:Nat)=>(i:Int)).foldl (λa j=>a*e.getD j.toNat 0%q) 1=alN q e n
 |0=>rfl
 |n+1=>by
  rw[nc,mz,HO,Yp q e n];rfl
theorem Z5(q:Int)(e:List Int):∀n,n<=perm.length->alN q (qD e perm) n=(perm.take n).foldl (λa j=>a*e.getD j.toNat 0%q) 1
 |0,_=>rfl
 |n+1,h=>by
  rw[ON (by omega),<-Z5 q e n (by omega)];show alN q _ n*(qD e perm).getD n 0%q=_;have:(qD e perm).getD n 0=e.getD (perm.getD n 0).toNat 0:=by simp[qD,List.getD,show n<perm.length by omega]
  rw[this]
def zBB(h:d8 perm=Z)(q:Int)(e:List Int):alN q (qD e perm) perm.length=alN q e perm.length:=by
 rw[Z5 q e _ (cB _),gw,(Q3 h).foldl_eq' (λi _ j _ a=>zNj q _ _ a),Yp]
def YK{e:List Int}(hi:i<perm.length):(qD e perm).getD i 0=e.getD (perm.getD i 0).toNat 0:=by simp[qD,List.getD,hi]
def Pv(eta:Int)(own t:List Int):Nat->Int
 |0=>eta
 |i+1=>t.getD i 0+Pv eta own t i*own.getD i 0
theorem P4(k:ap gr){h eta:Int}(hh:h=pg gr eta)(own t:List Int):∀i,hN gr h own t i=pg gr (Pv eta own t i)
 |0=>hh
 |i+1=>by
  show aQ gr [ay gr gr.G (t.getD i 0),ay gr (hN gr h own t i) (own.getD i 0)]=_;rw[P4 k hh own t i,iq k];exact gR k _ _
theorem zCU{q:Int}(eta:Int)(own t:List Int):∀n,Pv eta own t n%q=(yN q own t n+eta*alN q own n)%q
 |0=>by
  show eta%q=(0+eta*1)%q;rw[Wi,L6]
 |n+1=>by
  obtain⟨m1,h1⟩:=ek (zCU (q:=q) eta own t n);obtain⟨m2,h2⟩:=mw (t.getD n 0+own.getD n 0*yN q own t n) q;obtain⟨m3,h3⟩:=mw (alN q own n*own.getD n 0) q;show(t.getD n 0+Pv eta own t n*own.getD n 0)%q=((t.getD n 0+own.getD n 0*yN q own t n)%q+eta*(alN q own n*own.getD n 0%q))%q;rw[h1,h2,h3];generalize t.getD n 0=a;generalize own.getD n 0=c;generalize yN q own t n=y;generalize alN q own n=p;have e:a+(y+eta*p+q*m1)*c=(a+c*y-q*m2+eta*(p*c-q*m3))+q*(m1*c+m2+eta*m3):=by grind
  rw[e,HQ]
end
section
variable {gr:an}{key:Int}{B:cA}{l:List aq}{perm rs s t w x:List Int}{a b d f:Int}
def zuV(k:ap gr){Hs ss:List Int}(hp:d8 perm=Z)(hr:∀x∈perm,0<=x/\x<perm.length)(hl:Hs.length=perm.length)(hH:∀x∈Hs,aM gr x=Z):∃cx:Nat->Int,(∀j,j<perm.length->(zeG gr Hs perm ss).getD j 0=pg gr (cx j))/\
 ∀U:Nat->Int,cq (λj=>cx j*U j) perm.length=cq (λj=>ss.getD j 0*U j) perm.length+cq (λi=>dl gr (Hs.getD i 0)*U (perm.getD i 0).toNat) perm.length:=by
 obtain⟨kX,hi⟩:=zBt hp;refine⟨λj=>ss.getD j 0+dl gr (Hs.getD (kX j) 0),λj hj=>?_,λU=>?_⟩
 ·obtain⟨h1,h2⟩:=hi j hj;have:=zCR (gr:=gr) (Hs:=Hs) (ss:=ss) hp hr h1;rw[h2,dL]at this;rw[this];have e:=kp k (eN hH (show kX j<Hs.length by omega));show _=pg gr (ss.getD j 0+dl gr (Hs.getD (kX j) 0));generalize Hs.getD (kX j) 0=v at e;rw[<-gR k,<-e];rfl
 have e1:cq (λj=>(ss.getD j 0+dl gr (Hs.getD (kX j) 0))*U j) perm.length=cq (λj=>ss.getD j 0*U j+dl gr (Hs.getD (kX j) 0)*U j) perm.length:=Dt _ λj _=>Int.add_mul _ _ _
 have e2:=zvx hp (λj=>dl gr (Hs.getD (kX j.toNat) 0)*U j.toNat)
 have e3:cq (λi=>dl gr (Hs.getD (kX (perm.getD i 0).toNat) 0)*U (perm.getD i 0).toNat) perm.length=cq (λi=>dl gr (Hs.getD i 0)*U (perm.getD i 0).toNat) perm.length:=Dt _ λi hlt=>by
  have hx:=eN hr hlt;obtain⟨h1,h2⟩:=hi (perm.getD i 0).toNat (by omega);rw[ZY hp h1 hlt (by omega)]
 have e4:cq (λi:Nat=>dl gr (Hs.getD (kX (i:Int).toNat) 0)*U (i:Int).toNat) perm.length=cq (λj=>dl gr (Hs.getD (kX j) 0)*U j) perm.length:=rfl;rw[e1,zCw,<-e4,<-e2,e3]
def zGQ{q z:Int}{eta xr xx oo:Nat->Int}{n:Nat}(h:∀i,i<n->xr i%q=(xx i+z*oo i)%q):cq (λi=>eta i*xr i) n%q=(cq (λi=>eta i*xx i) n+z*cq (λi=>eta i*oo i) n)%q:=by
 rw[<-Io]
 exact RV _ λi hi=>by
  rw[ng,h i hi,<-ng,show eta i*(xx i+z*oo i)=eta i*xx i+z*(eta i*oo i)by grind]
def zFe{q a Sc Ss Se z r0 sm n1 n2:Int}(h1:Sc=Ss+Se)(h2:r0=a+z*sm+q*n1)(h3:sm=Ss+q*n2):a+(Sc+Se*(-1))*z=r0+q*(0-(n1+z*n2)):=by
 rw[h2,h3,h1];grind
def zLT(k:ap gr){a z r0 sm:Int}{f8 Hs:List Int}{cx ex:Nat->Int}{Ss:Int}(hc:∀j,j<f8.length->f8.getD j 0=pg gr (cx j))(hH:∀j,j<Hs.length->Hs.getD j 0=pg gr (ex j))(h1:cq cx f8.length=Ss+cq ex Hs.length)(h2:r0%gr.Q=(a+z*sm)%gr.Q)(h3:sm%gr.Q=Ss%gr.Q):
 aQ gr [ay gr gr.G a,ay gr (aQ gr [aQ gr f8,ay gr (aQ gr Hs) (-1)]) z]=ay gr gr.G r0:=by
 obtain⟨n1,h2⟩:=ek h2;obtain⟨n2,h3⟩:=ek h3;rw[zxL k hc,zxL k hH,iq k,gR k,iq k,show ay gr gr.G a=pg gr a from rfl,show ay gr gr.G r0=pg gr r0 from rfl,gR k];exact Bf _ (zFe h1 h2 h3)
def zIh{q b Sx Sc z r1 D SsU SeU Sr n1 n2 n3:Int}(h1:Sc=SsU+SeU)(h2:r1=b+z*D+q*n1)(h3:D=SsU+q*n2)(h4:Sr=Sx+z*SeU+q*n3):(b+Sx)+Sc*z=(r1+Sr)+q*(0-(n1+z*n2+n3)):=by
 rw[h2,h3,h1,h4];grind
def zKC(k:ap gr){b z r1 D SsU SeU:Int}{f8 Hs e x xr:List Int}{cx ex:Nat->Int}(hc:∀j,j<f8.length->f8.getD j 0=pg gr (cx j))(hH:∀j,j<Hs.length->Hs.getD j 0=pg gr (ex j))(le:f8.length=e.length)(lx:Hs.length=x.length)(lr:Hs.length=xr.length)
(h1:cq (λj=>cx j*e.getD j 0) f8.length=SsU+SeU)(h2:r1%gr.Q=(b+z*D)%gr.Q)(h3:D%gr.Q=SsU%gr.Q)(h4:cq (λi=>ex i*xr.getD i 0) Hs.length%gr.Q=(cq (λi=>ex i*x.getD i 0) Hs.length+z*SeU)%gr.Q):
 aQ gr [aQ gr [ay gr gr.G b,zaQ gr Hs x 1],ay gr (zaQ gr f8 e 1) z]=aQ gr [ay gr gr.G r1,zaQ gr Hs xr 1]:=by
 obtain⟨n1,h2⟩:=ek h2;obtain⟨n2,h3⟩:=ek h3;obtain⟨n3,h4⟩:=ek h4;rw[t8 k (l:=f8) (m:=e) le hc,t8 k (l:=Hs) (m:=x) lx hH,t8 k (l:=Hs) (m:=xr) lr hH,show ay gr gr.G b=pg gr b from rfl,show ay gr gr.G r1=pg gr r1 from rfl,iq k,gR k,gR k,gR k];exact Bf _ (zIh h1 h2 h3 h4)
def zGg{q d gm eta al y z r2 n1 n2:Int}(h1:gm=y+eta*al+q*n1)(h2:r2=d+z*y+q*n2):d+(gm+eta*(0-al))*z=r2+q*(z*n1-n2):=by
 rw[h1,h2];grind
def zLi(k:ap gr){d z r2 gm eta al y h last:Int}(hh:h=pg gr eta)(hl:last=pg gr gm)(h1:gm%gr.Q=(y+eta*al)%gr.Q)(h2:r2%gr.Q=(d+z*y)%gr.Q):
 aQ gr [ay gr gr.G d,ay gr (aQ gr [last,ay gr h (0-al)]) z]=ay gr gr.G r2:=by
 obtain⟨n1,h1⟩:=ek h1;obtain⟨n2,h2⟩:=ek h2;rw[hh,hl,show ay gr gr.G d=pg gr d from rfl,show ay gr gr.G r2=pg gr r2 from rfl,iq k,gR k,iq k,gR k];exact Bf _ (zGg h1 h2)
def zFZ{q w gm x t own z En xr n1 n2:Int}(h1:En=w+z*t+q*n1)(h2:xr=x+z*own+q*n2):(w+gm*x)+(t+gm*own)*z=(En+gm*xr)+q*(0-(n1+gm*n2)):=by
 rw[h1,h2];grind
def zK6(k:ap gr){w gm x t own z En xr c0 c1:Int}(h0:c0=pg gr gm)(h1:c1=pg gr (t+gm*own))(h2:En%gr.Q=(w+z*t)%gr.Q)(h3:xr%gr.Q=(x+z*own)%gr.Q):
 aQ gr [aQ gr [ay gr gr.G w,ay gr c0 x],ay gr c1 z]=aQ gr [ay gr gr.G En,ay gr c0 xr]:=by
 obtain⟨n1,h2⟩:=ek h2;obtain⟨n2,h3⟩:=ek h3;rw[h0,h1,show ay gr gr.G w=pg gr w from rfl,show ay gr gr.G En=pg gr En from rfl,iq k,iq k,iq k,gR k,gR k,gR k];exact Bf _ (zFZ h2 h3)
end
section
variable {gr:an}{key:Int}{B:cA}{l:List aq}{perm rs s t w x:List Int}{a b d f:Int}
variable{i:Nat}{z:Int}
def GR{F:Nat->Int}{n:Nat}(hi:i<n):((List.range n).map F).getD i 0=F i:=lj F hi
def zIb{n:Nat}{e own:List Int}(hi:i<n):(xd gr z n e own rs s t w x a b d f).getD (4+i) 0=(w.getD i 0+z*t.getD i 0)%gr.Q:=by
 unfold xd;rw[tW (by simp;omega),ui (i:=4+i) (j:=i) rfl,GR hi];rfl
def zE7{n:Nat}{e own:List Int}:(xd gr z n e own rs s t w x a b d f).drop (n+4)=(List.range n).map (rsF gr.Q z x own):=by
 unfold xd;exact Qr (by simp)
def TN{h:Int}{es ts:List Int}(hi:i<es.length):(zcr gr h es ts).getD i 0=hN gr h es ts (i+1):=GR hi
def zBT{h:Int}{es ts:List Int}(hi:i<=es.length):bef h (zcr gr h es ts) i=hN gr h es ts i:=by
 unfold bef;cases i with
 |zero=>rfl
 |succ i=>rw[ui (a:=[h]) (j:=i) (by simp;omega),TN (by omega)]
def zEP(k:ap gr)(P:dT gr key B l perm rs s t w x a b d f)(z:Int):aQ gr [ay gr gr.G a,ay gr (aQ gr [aQ gr (zeG gr B.Hs perm s),ay gr (aQ gr B.Hs) (-1)]) z]=ay gr gr.G ((a+z*smN gr.Q s l.length)%gr.Q):=by
 have hq:=k.q;have dR:=P.m.pl;have Nn:=P.bs.l;have gX:=(P.f8 k).1;obtain⟨cx,c1,c2⟩:=zuV k (ss:=s) P.m.pb P.Nk (by omega) P.bs.s;have c3:=c2 (λ_=>1);simp only[Wi]at c3;refine zLT k (cx:=cx) (ex:=λi=>dl gr (B.Hs.getD i 0)) (Ss:=cq (λj=>s.getD j 0) perm.length) (λj hj=>c1 j (by omega)) (λj hj=>kp k (eN P.bs.s hj)) ?_ (eZ _ _) ?_
 ·rw[gX,Nn,<-dR];exact c3
 rw[<-dR];exact zAx (by omega) s _
def QU(P:dT gr key B l perm rs s t w x a b d f)(hi:i<perm.length):((List.range l.length).map (rsF gr.Q z x (pmO gr key B l perm rs s))).getD i 0%gr.Q=(x.getD i 0+z*(pmE gr key B l perm rs s).getD (perm.getD i 0).toNat 0)%gr.Q:=by
 have dR:=P.m.pl;rw[GR (by omega)];unfold rsF pmO;rw[eZ,YK hi]
def zGb(k:ap gr)(P:dT gr key B l perm rs s t w x a b d f)(z:Int):aQ gr [aQ gr [ay gr gr.G b,zaQ gr B.Hs x 1],ay gr (zaQ gr (zeG gr B.Hs perm s) (pmE gr key B l perm rs s) 1) z]=aQ gr [ay gr gr.G ((b+z*dtN gr.Q s (pmE gr key B l perm rs s) l.length)%gr.Q),zaQ gr B.Hs ((List.range l.length).map (rsF gr.Q z x (pmO gr key B l perm rs s))) 1]:=by
 have hq:=k.q;have dR:=P.m.pl;have Nn:=P.bs.l;have gX:=(P.f8 k).1;have sM:=(P.e k).1;have iv:=P.c.x.1;obtain⟨cx,c1,c2⟩:=zuV k (ss:=s) P.m.pb P.Nk (by omega) P.bs.s;have c3:=c2 (λj=>(pmE gr key B l perm rs s).getD j 0);refine zKC k (cx:=cx) (ex:=λi=>dl gr (B.Hs.getD i 0)) (D:=dtN gr.Q s (pmE gr key B l perm rs s) l.length) (λj hj=>c1 j (by omega)) (λj hj=>kp k (eN P.bs.s hj)) (by omega) (by omega) (by simp;omega) (SsU:=cq (λj=>s.getD j 0*(pmE gr key B l perm rs s).getD j 0) perm.length) (SeU:=cq (λi=>dl gr (B.Hs.getD i 0)*(pmE gr key B l perm rs s).getD (perm.getD i 0).toNat 0) perm.length) ?_ (eZ _ _) ?_ ?_
 ·rw[gX,<-dR];exact c3
 ·rw[<-dR];exact O9 (by omega) _ _ _
 rw[Nn,<-dR];exact zGQ λi hi=>by rw[dR];exact QU P hi
def zIc(k:ap gr)(P:dT gr key B l perm rs s t w x a b d f)(z:Int):aQ gr [ay gr gr.G d,ay gr (aQ gr [(zcr gr B.H (pmO gr key B l perm rs s) t).getD (l.length-1) 0,ay gr B.H (0-alN gr.Q (pmE gr key B l perm rs s) (pmE gr key B l perm rs s).length)]) z]=ay gr gr.G ((d+z*yN gr.Q (pmO gr key B l perm rs s) t l.length)%gr.Q):=by
 have hn:=P.m.n;have dR:=P.m.pl;have sM:=(P.e k).1;have hol:=(P.o k).1;have hH:=kp k P.bs.h;have CE:=zBB P.m.pb gr.Q (pmE gr key B l perm rs s);rw[TN (by omega),show l.length-1+1=l.length by omega,sM];refine zLi k hH (P4 k hH _ _ _) ?_ (eZ _ _);have:=zCU (q:=gr.Q) (dl gr B.H) (pmO gr key B l perm rs s) t l.length;rw[this];unfold pmO;rw[<-dR,CE]
def Zn(k:ap gr)(P:dT gr key B l perm rs s t w x a b d f):dtN gr.Q rs (pmO gr key B l perm rs s) l.length%gr.Q=cq (λi=>rs.getD i 0*(pmE gr key B l perm rs s).getD (perm.getD i 0).toNat 0) perm.length%gr.Q:=by
 have hq:=k.q;rw[O9 (by omega),<-P.m.pl];refine gF (· %gr.Q) (Dt _ λi hi=>?_);unfold pmO;rw[YK hi]
def XC(k:ap gr)(P:dT gr key B l perm rs s t w x a b d f)(z:Int):
 aQ gr [aQ gr [ay gr gr.G (i64.wrap (0-f)),zaQ gr (sdV (zaS gr key l perm rs)).1 x 1],ay gr (zaQ gr (sdV l).1 (pmE gr key B l perm rs s) 1) z]=aQ gr [ay gr gr.G (i64.wrap (0-(f+z*dtN gr.Q rs (pmO gr key B l perm rs s) l.length)%gr.Q)),zaQ gr (sdV (zaS gr key l perm rs)).1 ((List.range l.length).map (rsF gr.Q z x (pmO gr key B l perm rs s))) 1]/\
 aQ gr [aQ gr [ay gr key (i64.wrap (0-f)),zaQ gr (sdV (zaS gr key l perm rs)).2 x 1],ay gr (zaQ gr (sdV l).2 (pmE gr key B l perm rs s) 1) z]=aQ gr [ay gr key (i64.wrap (0-(f+z*dtN gr.Q rs (pmO gr key B l perm rs s) l.length)%gr.Q)),zaQ gr (sdV (zaS gr key l perm rs)).2 ((List.range l.length).map (rsF gr.Q z x (pmO gr key B l perm rs s))) 1]:=by
 have hq:=k.q;have dR:=P.m.pl;have sM:=(P.e k).1;have iv:=P.c.x.1;have fk:=m8 l;have lO:=m8 (zaS gr key l perm rs);rw[k8]at lO;have hf:=KR k P.c.f;have hF:i64.wrap (0-(f+z*dtN gr.Q rs (pmO gr key B l perm rs s) l.length)%gr.Q)=0-(f+z*dtN gr.Q rs (pmO gr key B l perm rs s) l.length)%gr.Q:=KR k (gB (by omega) _);refine⟨Mj k (perm:=perm) (b0:=1) (UT k).symm P.m.pb (by omega) lO.1 (by omega) (by omega) (by simp;omega) (al:=λj=>dl gr (l.getD j c0).A) (U:=λj=>(pmE gr key B l perm rs s).getD j 0) (o:=λi=>dl gr (l.getD (perm.getD i 0).toNat c0).A+1*rs.getD i 0) (rs:=λi=>rs.getD i 0) (λj hj=>?_) (λ_ _=>rfl) (λi hi=>(zH k P.m hi).1) (λ_ _=>rfl) (λi hi=>QU P hi) (eZ _ _) (Zn k P) hf hF,Mj k (perm:=perm) (b0:=dl gr key) (kp k P.m.key) P.m.pb (by omega) lO.2 (by omega) (by omega) (by simp;omega) (al:=λj=>dl gr (l.getD j c0).B) (U:=λj=>(pmE gr key B l perm rs s).getD j 0) (o:=λi=>dl gr (l.getD (perm.getD i 0).toNat c0).B+dl gr key*rs.getD i 0) (rs:=λi=>rs.getD i 0) (λj hj=>?_) (λ_ _=>rfl) (λi hi=>(zH k P.m hi).2) (λ_ _=>rfl) (λi hi=>QU P hi) (eZ _ _) (Zn k P) hf hF⟩
 ·rw[(HR (by omega)).1];exact kp k (J2 P.m.c (by omega)).1
 rw[(HR (by omega)).2];exact kp k (J2 P.m.c (by omega)).2
def zGC(k:ap gr)(P:dT gr key B l perm rs s t w x a b d f)(z:Int)(hi:i<l.length):aQ gr [zka gr B.H (pmO gr key B l perm rs s) t w x i,ay gr ((zcr gr B.H (pmO gr key B l perm rs s) t).getD i 0) z]=aQ gr [ay gr gr.G ((w.getD i 0+z*t.getD i 0)%gr.Q),ay gr (bef B.H (zcr gr B.H (pmO gr key B l perm rs s) t) i) (((List.range l.length).map (rsF gr.Q z x (pmO gr key B l perm rs s))).getD i 0)]:=by
 have hol:=(P.o k).1;have hH:=kp k P.bs.h;rw[TN (by omega),zBT (by omega),GR hi];exact zK6 k (P4 k hH _ _ _) (P4 k hH _ _ (i+1)) (eZ _ _) (eZ _ _)
def zDc(k:ap gr)(P:dT gr key B l perm rs s t w x a b d f):∀z∈pmC gr key B l perm rs s t w x a b d f,aM gr z=Z:=by
 have dR:=P.m.pl;have iv:=P.c.x.1;have Nn:=P.bs.l;have kR:(zaS gr key l perm rs).length=l.length:=by rw[k8,P.m.pl]
 have fk:=m8 (zaS gr key l perm rs)
 have d1:aM gr (zaQ gr (sdV (zaS gr key l perm rs)).1 x 1)=Z:=by
  rw[t8 k (f:=λi=>dl gr (l.getD (perm.getD i 0).toNat c0).A+1*rs.getD i 0) (by omega) λi hi=>(zH k P.m (by omega)).1];exact Hz k _
 have d2:aM gr (zaQ gr (sdV (zaS gr key l perm rs)).2 x 1)=Z:=by
  rw[t8 k (f:=λi=>dl gr (l.getD (perm.getD i 0).toNat c0).B+dl gr key*rs.getD i 0) (by omega) λi hi=>(zH k P.m (by omega)).2];exact Hz k _
 have d3:aM gr (zaQ gr B.Hs x 1)=Z:=by
  rw[t8 k (f:=λi=>dl gr (B.Hs.getD i 0)) (by omega) λi hi=>kp k (eN P.bs.s hi)];exact Hz k _
 have g:=om k;unfold pmC yX;refine jK (Z8 (kT k g _) (ru k (kT k g _) d3) (kT k g _) (ru k (kT k g _) d1) (ru k (kT k P.m.key _) d2)) (nv λi hi=>?_);exact ru k (kT k g _) (kT k (Ud k P.bs.h _ _ _) _)
def zG4(k:ap gr)(P:dT gr key B l perm rs s t w x a b d f):o7 gr l.length (kC gr key B l perm rs s t w x a b d f)=Z:=by
 have hq:=k.q;have cQ:0<gr.Q:=by omega
 have hr:∀(z:Int) (w t:List Int) (n:Nat),∀y∈(List.range n).map (rsF gr.Q z w t),E9 gr.Q y:=λz w t n=>nv λi _=>by unfold rsF;exact gB cQ _
 have h4:∀y∈(kC gr key B l perm rs s t w x a b d f).Pi.aG,E9 gr.Q y:=by
  refine jK (jK (λy hy=>?_) (hr _ _ _ _)) (hr _ _ _ _);simp only[f6,jy,jz]at hy;rcases hy with rfl|rfl|rfl|rfl<;>exact gB cQ _
 simp only[o7,bK,eO];exact⟨(P.f8 k).1,(P.mP k).1,(P.px k).1,rfl,by simp[kC,xd];omega,bm.2 (P.f8 k).2,bm.2 (P.mP k).2,bm.2 (zDc k P),Z9 h4⟩
def zHg(k:ap gr)(P:dT gr key B l perm rs s t w x a b d f):tH gr key B l (zaS gr key l perm rs) (kC gr key B l perm rs s t w x a b d f)=Z:=by
 have kR:(zaS gr key l perm rs).length=l.length:=by rw[k8,P.m.pl]
 have e1:wvE gr key l (zaS gr key l perm rs) (kC gr key B l perm rs s t w x a b d f)=pmE gr key B l perm rs s:=rfl;have e2:wvZ gr key l (zaS gr key l perm rs) (kC gr key B l perm rs s t w x a b d f)=pmZ gr key B l perm rs s t w x a b d f:=rfl;have e3:(kC gr key B l perm rs s t w x a b d f).Pi.aW.getD 0 0=pmZ gr key B l perm rs s t w x a b d f:=rfl;unfold tH;rw[uK kR,zG4 k P,e1,e2,e3,a1A,ig,ig,ig];have hr:(kC gr key B l perm rs s t w x a b d f).Pi.aG=xd gr (pmZ gr key B l perm rs s t w x a b d f) l.length (pmE gr key B l perm rs s) (pmO gr key B l perm rs s) rs s t w x a b d f:=rfl;have D5:(kC gr key B l perm rs s t w x a b d f).Pi.aE=yX gr key B.Hs (zaS gr key l perm rs) x a b d f++(List.range l.length).map (zka gr B.H (pmO gr key B l perm rs s) t w x):=rfl;unfold mR nu;rw[hr,D5,zE7];generalize pmZ gr key B l perm rs s t w x a b d f=z;have gX:(kC gr key B l perm rs s t w x a b d f).cy=zeG gr B.Hs perm s:=rfl;have CA:(kC gr key B l perm rs s t w x a b d f).aH=zcr gr B.H (pmO gr key B l perm rs s) t:=rfl;rw[gX,CA];refine bm.2 λi hi=>?_
 have hi:=kP.1 hi;unfold qd hlB;rw[xH];rcases i with _|_|_|_|_|j
 ·exact zEP k P z
 ·exact zGb k P z
 ·exact zIc k P z
 ·exact(XC k P z).1
 ·exact(XC k P z).2
 have hj:j<l.length:=by omega
 rw[ui (i:=j+1+1+1+1+1) (j:=j) (by simp[yX];omega),ui (i:=j+1+1+1+1+1) (j:=j) (by simp[JG];omega),ui (i:=j+1+1+1+1+1) (j:=j) (by simp[Gq];omega),GR hj,GR hj];unfold zjy;rw[zIb hj];exact zGC k P z hj
def zBC(k:ap gr)(P:dT gr key B l perm rs s t w x a b d f):Fi gr B key l (zaS gr key l perm rs) (kC gr key B l perm rs s t w x a b d f)=J Z:=by
 rw[zAk k P.m.key P.m.n P.m.c (v4 k P.m) P.bs,zHg k P]
end
section
variable {gr:an}{key:Int}{l:List aq}{perm rs:List Int}
def Og(m:nD gr key l perm rs):fH gr key l=Z/\kH gr l.length perm rs=Z:=B3.1 (P0.2 m)
def TH(k:ap gr)(m:nD gr key l perm rs):(dh 1 12 (zaS gr key l perm rs).length&&(zaS gr key l perm rs).all (ce gr))=Z:=by
 have hn:=m.n;rw[k8,m.pl,bK];exact⟨by simp[dh];omega,bm.2 (v4 k m)⟩
def zFw(k:ap gr){B:cA}(hB:kO gr (l.length:Int)=J (B,Z))(bs:sD gr l.length B)(m:nD gr key l perm rs){aJ:List Int}(hl:aJ.length=4*l.length+4)(he:aJ.all (dx gr)=Z):∃p,qq gr key l perm rs aJ=J (p,Z)/\tU gr key l (zaS gr key l perm rs) p=J (Z,Z):=by
 have hq:=k.q;have hp:=k.p;have hn:=m.n;obtain⟨h1,h2⟩:=Og m
 have w4:i64.wrap (i64.wrap (4*(l.length:Int))+4)=((4*l.length+4:Nat):Int):=by
  rw[aK (n:=4*(l.length:Int)) (by omega) (by omega)];exact cT (by omega) (by omega)
 have e3:((aJ.length:Int) !=((4*l.length+4:Nat):Int))=aa:=by rw[hl];simp
 have qW:=ze (gr:=gr) (by omega) (by omega) aJ;rw[he]at qW;obtain⟨s,t,w,x,a,b,d,f,rfl,hC⟩:=Yo hl he;have P:dT gr key B l perm rs s t w x a b d f:=⟨m,bs,hC⟩
 refine⟨kC gr key B l perm rs s t w x a b d f,?_,?_⟩
 ·unfold qq;rw[wh k key l hB,h1,AO k (by omega),show(decide (perm.length=l.length)&&d8 perm&&(decide (rs.length=l.length)&&rs.all (dx gr)))=kH gr l.length perm rs from rfl,h2,w4,e3,qW];exact bH (ag rfl (az (ψ:=(· =aa)) (bw rfl (ag rfl (bw rfl (bw rfl (ag rfl (am rfl)))))) λb hb=>by subst hb;exact bw rfl (ag (Zz k P) (am rfl))))
 unfold tU;rw[wh k key l hB,h1,zp k,TH k m];exact bH (ag rfl (az (ψ:=(· =aa)) (bw rfl (ag rfl (am rfl))) λb hb=>by subst hb;exact bw rfl (ag (zBC k P) (am rfl))))
def zE1(k:ap gr)(hd:okD gr=Z)(m:nD gr key l perm rs){aJ:List Int}(hl:aJ.length=8*l.length+2)(he:aJ.all (dx gr)=Z):∃p,sA gr key l perm rs aJ=J (p,Z)/\um gr key l (zaS gr key l perm rs) p=J (Z,Z):=by
 have hq:=k.q;have hp:=k.p;have hn:=m.n;obtain⟨h1,h2⟩:=Og m;obtain⟨B,b1,b2,b3,b4⟩:=PB k hd key (l:=l) (by omega)
 have w8:i64.wrap (i64.wrap (8*(l.length:Int))+2)=((8*l.length+2:Nat):Int):=by
  rw[aK (n:=8*(l.length:Int)) (by omega) (by omega)];exact cT (by omega) (by omega)
 have e3:((aJ.length:Int) !=((8*l.length+2:Nat):Int))=aa:=by rw[hl];simp
 have qW:=ze (gr:=gr) (by omega) (by omega) aJ;rw[he]at qW;obtain⟨C,rfl,hC⟩:=zz1 (q:=gr.Q) hl (BS he);have P:gT gr key B.H l perm rs C:=⟨m,b3,hC⟩
 refine⟨ju gr key B.H l perm rs C,?_,?_⟩
 ·unfold sA;rw[b4,h1,AO k (by omega),show(decide (perm.length=l.length)&&d8 perm&&(decide (rs.length=l.length)&&rs.all (dx gr)))=kH gr l.length perm rs from rfl,h2,w8,e3,qW];exact bH (ag rfl (az (ψ:=(· =aa)) (bw rfl (ag rfl (bw rfl (bw rfl (ag rfl (am rfl)))))) λb hb=>by subst hb;exact bw rfl (ag (Ys k P) (am rfl))))
 unfold um;rw[b4,h1,zp k,TH k m];exact bH (ag rfl (az (ψ:=(· =aa)) (bw rfl (ag rfl (am rfl))) λb hb=>by subst hb;exact bw rfl (ag (zBE k P) (am rfl))))
end
def ji(l:List aq):List Int:=(l.length:Int)::l.flatMap λc=>[c.A,c.B]
def gf(L:List (List Int)):List Int:=(L.length:Int)::L.flatMap dq
def WQ(l:List aq):(l.flatMap λc=>[c.A,c.B]).length=2*l.length:=by
 induction l with
 |nil=>rfl
 |cons e l ih=>show([e.A,e.B]++l.flatMap λc=>[c.A,c.B]).length=_;rw[bT,ih];simp;omega
def zBA(l:List aq):(ji l).length=2*l.length+1:=by unfold ji;rw[d5,WQ]
def Ra(L:List (List Int))(i:Nat):((L.take i).flatMap dq).length<=(L.flatMap dq).length:=by
 have h:(L.take i).flatMap dq++(L.drop i).flatMap dq=L.flatMap dq:=by rw[<-Mc,EA]
 rw[<-h,bT];omega
def ZF{L:List (List Int)}{i:Nat}(hi:i<L.length):L[i].length+1<=(L.flatMap dq).length:=by
 have h:=Ra L (i+1);rw[jd hi,Mc,bT]at h;have e:([L[i]].flatMap dq).length=L[i].length+1:=by simp[dq]
 omega
def zBQ{L:List (List Int)}(h:(gf L).length<=400)(hd:(gf L).all cI=Z):Ao L=J (gf L,Z):=by
 have hn:(L.flatMap dq).length+1<=400:=by simpa[gf]using h
 unfold Ao
 have e:aU (σ:=(List Int)) (β:=(List Int) ⊕ (List Int×Bool)) (λi5 s4=>(ix L i5).bind λaN=>(xO aN).bind λbr=>
  gd ((s4.length+br.length)*8<=140737488355328/\s4.length+br.length<=4611686018427387904)<|
  if decide (400<((s4++br).length:Int))=Z then(J (.out (.inr ([],aa))))else(J (.go (s4++br)))) (λs4=>.inl s4) (L.length) 0 [(L.length:Int)]=J (.inl (gf L)):=by
  refine bH (eo (λi s=>s=(L.length:Int)::(L.take i).flatMap dq/\i<=L.length) ⟨rfl,by omega⟩ ?_ λs h=>by rw[h.1,gw];rfl);rintro i s hi ⟨rfl,_⟩;have h1:=Ra L (i+1);have h2:=ZF hi
  have e1:(L.length:Int)::(L.take i).flatMap dq++dq L[i]=(L.length:Int)::(L.take (i+1)).flatMap dq:=by
   rw[jd hi,Mc];simp
  have e2:=gF List.length e1;rw[bT,d5,d5]at e2;refine bG hi (ag (HT (by omega)) (aI (by rw[d5];omega) (bw ?_ (am ⟨e1,by omega⟩))));rw[bT,d5];exact Ez (by omega)
 have hr:e7 (gf L)=Z:=by unfold e7;rw[hd,uK (by omega)];rfl
 have a4T:Bs (gf L)=J (gf L,Z):=by rw[MM,aD hr]
 rw[e,aS,Sum.elim_inl,a4T,aS]
def zBY(p:cb):(ja p).length=p.aE.length+p.aW.length+p.aG.length+3:=by simp[ja,dq];omega
def Jl(p:cb):Bool:=((p.aE.length:Int)==0)&&(((p.aW.length:Int)==0)&&((p.aG.length:Int)==0))
section
variable {gr:an}
def zz7(p:cb):E7 p=J (Jl p):=by
 unfold E7;rw[UD,UD];rfl
def Zc{p:cb}(h1:p.aE.length<=1048576)(h2:p.aW.length<=1048576)(h3:p.aG.length<=1048576):Gf p=J (Jl p):=by
 unfold Gf Jl;rw[aK (n:=(p.aE.length:Int)+(p.aW.length:Int)) (by omega) (by omega),aK (n:=(p.aE.length:Int)+(p.aW.length:Int)+(p.aG.length:Int)) (by omega) (by omega)];congr 1;rw[Wr];simp only[bK,xH];omega
end
variable{L:List (List Int)}
def ES(a:Int)(R:List Int)(b:Bool):wX (a::R) b=J (a,(R,b)):=by
 unfold wX;rw[aB (by simp;omega)];refine bH (ag (a:=a) rfl (aI (by simp) (am ?_)));rw[gw];rfl
def ML{p R:List Int}(hp:p.length<=1000)(hR:R.length<=1000):tP (dq p++R) Z=J (p,(R,Z)):=by
 unfold tP;have e:dq p++R=(p.length:Int)::(p++R):=rfl;rw[e,ES,aS,tG];have hl:(p++R).length=p.length+R.length:=bT;have h1:(decide (0<=(p.length:Int))&&decide ((p.length:Int)<=((p++R).length:Int)))=Z:=by simp;omega
 dsimp only;rw[h1];refine bH (ag rfl (bw rfl (aI (by omega) (aI (by rw[dL];omega) (ag (a:=p) ?_ (aI (by omega) (aI (by rw[dL];omega) (am ?_))))))))
 ·unfold vh;rw[dL,Qk,List.take_left,eV (by omega)]
 rw[dL,gw,Qd]
theorem zAv:Bc [] Z=J Z:=rfl
def zHj{l:List Int}(h:l.length<=400)(hd:l.all cI=Z):e7 l=Z:=by unfold e7;rw[hd,uK (by omega)];rfl
def zDV(h:(gf L).length<=400)(hd:(gf L).all cI=Z):Bx (gf L)=J (L,Z):=by
 have hn:(L.flatMap dq).length+1<=400:=by simpa[gf]using h
 have hlen:L.length<=(L.flatMap dq).length:=by
  clear h hd hn;induction L with
  |nil=>simp
  |cons p L ih=>rw[Ey,bT,d5];show L.length+1<=(p.length+1)+(L.flatMap dq).length;omega
 unfold Bx;rw[Ix,zHj h hd,aS];have e:gf L=(L.length:Int)::L.flatMap dq:=rfl
 have TW:(if((gf L).length:Int)<(L.length:Int)then((gf L).length:Int)else(L.length:Int))=(L.length:Int):=by
  rw[aB (by rw[e,d5];omega)]
 have hw:dP (σ:=(List Int×Bool)×(List (List Int))×Int) (λdu=>
  if decide (du.2.2<(L.length:Int))=Z then(
  (tP du.1.1 du.1.2).bind λiR=>
  gd ((du.2.1.length+1)*24<=140737488355328/\du.2.1.length+1<=4611686018427387904)<|
  J (.go ((iR.2.1,iR.2.2),du.2.1++[iR.1],i64.wrap (du.2.2+1))))else(
  J (.out ((du.1.1,du.1.2),du.2.1)))) ((L.flatMap dq,Z),[],0)=J (([],Z),L):=by
  refine bH (ll L.length (λi s=>s=(((L.drop i).flatMap dq,Z),L.take i,(i:Int))/\i<=L.length) ⟨rfl,by omega⟩ ?_ ?_)
  ·rintro i s hi ⟨rfl,_⟩;have lv:(L.drop i).flatMap dq=dq L[i]++(L.drop (i+1)).flatMap dq:=by rw[Qh hi,Ey]
   have da:((L.drop i).flatMap dq).length<=(L.flatMap dq).length:=by
    have h:(L.take i).flatMap dq++(L.drop i).flatMap dq=L.flatMap dq:=by rw[<-Mc,EA]
    rw[<-h,bT];omega
   rw[lv,bT]at da;have uk:=ZF hi;refine gk (by simpa using hi) (ag (a:=(L[i],((L.drop (i+1)).flatMap dq,Z))) (by dsimp only;rw[lv];exact ML (by omega) (by omega)) (aI (by rw[nO];omega) (am ⟨?_,by omega⟩)));dsimp only;rw[jd hi,aK (n:=(i:Int)+1) (by omega) (by omega)];rfl
  ·rintro s ⟨rfl,_⟩;refine bw (by simp) (am ?_);show((((L.drop L.length).flatMap dq,Z),L.take L.length):(List Int×Bool)×List (List Int))=_;rw[List.drop_length,gw];rfl
 refine bH (ag (a:=((L.length:Int),(L.flatMap dq,Z))) (by rw[e];exact ES _ _ _) (ag (a:=(([],Z),L)) (by rw[TW];exact hw) (ag (zBQ h hd) (az (ψ:=(· =aa)) (ag zAv (bw rfl (bw rfl (ag (Lp _ _) (am (by simp)))))) ?_))));rintro _ rfl;exact bw rfl (am rfl)
def zGm(l:List aq):JS l l=J Z:=by
 unfold JS;refine bH (bw (by simp) (az (ψ:=λv=>v=.inl ()) (eo (λ_ _=>True) trivial ?_ λs _=>rfl) ?_))
 ·rintro i s hi _;exact bG hi (bG hi (bw (by simp) (am trivial)))
 rintro _ rfl;exact am rfl
def Dz{l:List Int}:e7 l=Z↔l.length<=400/\l.all cI=Z:=by
 unfold e7;rw[bK,eO];constructor<;>rintro⟨a,b⟩<;>exact⟨by omega,b⟩
def zBG(p:cb):ja p=dq p.aE++(dq p.aW++(dq p.aG++[])):=by simp[ja]
def zAm(h1:L.length<=1048576)(h2:∀p∈L,p.length<=1048576):Ao L=J (if e7 (gf L)=Z then(gf L,Z)else([],aa)):=by
 unfold Ao;refine bH (az (ψ:=λc=>c=.inl (gf L)\/(c=.inr ([],aa)/\e7 (gf L)=aa)) (eo (λi s=>s=(L.length:Int)::(L.take i).flatMap dq/\(s.length<=400)) ⟨rfl,by simp⟩ ?_ λs h=>.inl (by rw[h.1,gw];rfl)) ?_)
 ·rintro i s hi ⟨rfl,hs⟩;have hx:=h2 _ (fm hi)
  have e1:(L.length:Int)::(L.take i).flatMap dq++dq L[i]=(L.length:Int)::(L.take (i+1)).flatMap dq:=by
   rw[jd hi,Mc];simp
  have hc:(dq L[i]).length=L[i].length+1:=rfl;refine bG hi (ag (HT (by omega)) (aI (by rw[hc];omega) ?_));rw[e1];refine aZ (λh=>am (.inr ⟨rfl,?_⟩)) λh=>am ⟨rfl,by have:=Wg h;omega⟩
  have hg:=xM h;have:=Ra L (i+1);cases hr:e7 (gf L)with
  |false=>rfl
  |true=>
   have:=(Dz.1 hr).1;unfold gf at this;rw[d5]at this hg;omega
 rintro c (rfl|⟨rfl,hr⟩)
 ·rw[Sum.elim_inl,MM,aS];exact am (by split<;>rfl)
 exact am (by rw[hr];rfl)
def Yl(R:List Int)(b:Bool):Rn (wX R b) λy=>y.2.1.length<=R.length:=by
 cases R with
 |nil=>exact⟨_,rfl,by simp⟩
 |cons a R=>exact⟨_,ES a R b,by simp⟩
def zHS{R:List Int}(h:R.length<=1048576)(b:Bool):Rn (tP R b) λy=>y.1.length<=R.length/\y.2.1.length<=R.length:=by
 unfold tP;refine az (Yl R b) λy hy=>ag (tG _ _ _) (aZ (λ_=>am ⟨by simp,hy⟩) λh2=>?_)
 have h2:0<=y.1/\y.1<=(y.2.1.length:Int):=by simpa using h2
 have hl:((y.2.1.take y.1.toNat).drop 0).length<=R.length:=by rw[Qk,nO];omega
 refine aI h2.1 (aI (by omega) (ag (zBK (by omega)) (aI h2.1 (aI (by omega) (am ⟨hl,?_⟩)))));dsimp only;rw[Qm,nO];omega
def zxD(R:List Int)(b:Bool):Bc R b=J (b&&((R.length:Int)==0)):=by
 unfold Bc;cases b<;>rfl
def zHD{l:List Int}(hl:l.length<=1048576):Rn (Bx l) λy=>y.2=Z->e7 l=Z/\l=gf y.1:=by
 unfold Bx;refine ag (Ix l) (az (Yl l _) λz hz=>?_);obtain⟨M,hM⟩:∃M:Int,M=if(l.length:Int)<z.1 then(l.length:Int)else z.1:=⟨_,rfl⟩
 rw[<-hM];have hM2:M<=l.length:=by rw[hM];split<;>omega
 refine az (ψ:=λc=>c.2.length<=1048576/\∀p∈c.2,p.length<=1048576) (ll M.toNat (λi s=>s.2.2=(i:Int)/\s.2.1.length=i/\s.1.1.length<=1048576/\∀p∈s.2.1,p.length<=1048576) ⟨rfl,rfl,by dsimp only;omega,λp h=>by cases h⟩ ?_ ?_) ?_
 ·rintro i ⟨⟨R,b⟩,o,k⟩ hi ⟨e1,h2,h3,h4⟩;have e1:k=(i:Int):=e1;subst e1;have h2:o.length=i:=h2;refine gk (uK (by dsimp only;omega)) (az (zHS h3 b) λy hy=>aI (by dsimp only;omega) (am ⟨?_,?_,gD hy.2 h3,λp hp=>?_⟩))
  ·show i64.wrap ((i:Int)+1)=_;rw[aK (by omega) (by omega)];rfl
  ·show(o++[y.1]).length=i+1;rw[bT,h2];rfl
  rcases kj.1 hp with h|h
  ·exact h4 p h
  rw[gP.1 h];exact gD hy.1 h3
 ·rintro⟨⟨R,b⟩,o,k⟩ ⟨e1,h2,h3,h4⟩;have e1:k=(M.toNat:Int):=e1;subst e1;have h2:o.length=M.toNat:=h2;exact bw (Ez (by dsimp only;omega)) (am ⟨by dsimp only;omega,h4⟩)
 rintro c ⟨c1,c2⟩;refine ag (zAm c1 c2) (az (ψ:=λb=>b=aa->e7 (gf c.2)=Z/\gf c.2=l) (ag (zxD _ _) (aZ (λ_=>am (by simp)) λ_=>aZ (λ_=>am (by simp)) λh2=>ag (Lp _ _) (am λe=>?_))) ?_)
 ·cases hr:e7 (gf c.2)with
  |false=>rw[hr]at h2;cases h2
  |true=>
   rw[hr]at e;exact⟨rfl,by simpa using e⟩
 intro b hb;refine aZ (λh=>am (by simp)) λh=>am λ_=>?_
 obtain⟨h1,h2⟩:=hb h;rw[<-h2];exact⟨h1,rfl⟩
def Yr{l:List aq}(hl:l.length<=1048576):He l=J (if e7 (ji l)=Z then(ji l,Z)else([],aa)):=by
 unfold He;refine bH (az (ψ:=(· =ji l)) (eo (λi s=>s=(l.length:Int)::((l.take i).flatMap λc=>[c.A,c.B])) rfl ?_ λs h=>by rw[h,gw];rfl) ?_)
 ·rintro i s hi rfl;have hn:=WQ (l.take i);rw[nO]at hn;refine bG hi (aI (by rw[d5];omega) (am ?_));show(l.length:Int)::_++_=(l.length:Int)::_;rw[jd hi,Mc];rfl
 rintro _ rfl;exact ag (MM _) (am (by cases e7 (ji l)<;>rfl))
def zDz{l:List aq}(h:e7 (ji l)=Z):Jq (ji l)=J (l,Z):=by
 have hn:=zBA l;have hl:=(Dz.1 h).1;have e:ji l=(l.length:Int)::l.flatMap (λc=>[c.A,c.B]):=rfl;have TW:(if((ji l).length:Int)<(l.length:Int)then((ji l).length:Int)else(l.length:Int))=(l.length:Int):=aB (by omega);unfold Jq;refine bH (ag (Ix _) (ag (a:=((l.length:Int),(l.flatMap (λc=>[c.A,c.B]),Z))) (by rw[h,e];exact ES _ _ _) ?_));dsimp only;rw[TW];refine az (ψ:=(· =(([],Z),l))) (ll l.length (λi s=>s=(((l.drop i).flatMap (λc=>[c.A,c.B]),Z),l.take i,(i:Int))/\i<=l.length) ⟨rfl,by omega⟩ ?_ ?_) ?_
 ·rintro i s hi ⟨rfl,_⟩;have lv:(l.drop i).flatMap (λc=>[c.A,c.B])=l[i].A::l[i].B::(l.drop (i+1)).flatMap (λc=>[c.A,c.B]):=by rw[Qh hi,Ey];rfl
  refine gk (by simpa using hi) (ag (a:=(l[i].A,(l[i].B::(l.drop (i+1)).flatMap (λc=>[c.A,c.B]),Z))) (by dsimp only;rw[lv];exact ES _ _ _) (ag (ES _ _ _) (aI (by rw[nO];omega) (am ⟨?_,by omega⟩))));dsimp only;rw[jd hi,aK (n:=(i:Int)+1) (by omega) (by omega)];rfl
 ·rintro s ⟨rfl,_⟩;refine bw (by simp) (am ?_);show((((l.drop l.length).flatMap (λc=>[c.A,c.B]),Z),l.take l.length):(List Int×Bool)×List aq)=_;rw[List.drop_length,gw];rfl
 rintro _ rfl;refine ag (Yr (l:=l) (by omega)) (az (ψ:=(· =aa)) (ag (zxD _ _) (bw rfl (bw (by rw[h];rfl) (ag (Lp _ _) (am (by simp[h])))))) ?_);rintro _ rfl;exact bw rfl (am rfl)
def zCu{p:cb}(h:e7 (ja p)=Z):Jn (ja p)=J (p,Z):=by
 have hl:=(Dz.1 h).1;have he:=zBY p;have h3:∀q:List Int,(dq q).length=q.length+1:=λq=>rfl
 unfold Jn;refine bH (ag (Ix _) ?_);rw[h,zBG];exact ag (ML (by omega) (by rw[bT,bT,h3,h3];simp;omega)) (ag (ML (by omega) (by rw[bT,h3];simp;omega)) (ag (ML (by omega) (by simp)) (ag zAv (bw rfl (am rfl)))))
def zCz(h:e7 (gf L)=Z):Bx (gf L)=J (L,Z):=zDV (Dz.1 h).1 (Dz.1 h).2
theorem Ow:((1:Int)==1)=Z:=rfl
theorem f7:((2:Int)==2)=Z:=rfl
def mS:¬((2:Int)==1)=Z:=by simp
abbrev nH:eg:=⟨0,[],⟨[],[],⟨[],[],[]⟩⟩,⟨[],[],[],⟨[],[],[]⟩⟩⟩
def zA8(l:List Int):LD l=J (decide (l.length<=24)&&d8 l):=by
 unfold LD;by_cases h:l.length<=24
 ·have h2:decide ((l.length:Int)<=24)=Z:=by simp;omega
  rw[h2,aD rfl,aK (n:=(l.length:Int)-1) (by omega) (by omega),SI,zBV (by omega)];unfold d8;show Option.bind (Option.bind (J (l.all (dh 0 ((l.length:Int)-1)))) _) _=_;cases l.all (dh 0 ((l.length:Int)-1))<;>simp[h]
 have h2:decide ((l.length:Int)<=24)=aa:=by simp;omega
 simp[h2,h]
def mX(arg:Int)(n:Nat):Nat:=if arg=1 then 5*n+4 else 9*n+2
def kZ(arg:Int):Bool:=arg==1||arg==2
def LI(a:Int):Ha a=J (kZ a):=by
 unfold Ha kZ;cases a==1<;>rfl
def zHs(a:Int){n:Nat}(hn:n<=100):JL a (n:Int)=J ((mX a n:Nat):Int):=by
 unfold JL mX;by_cases h:a=1
 ·subst h;rw[aD Ow,aD rfl,aK (n:=5*(n:Int)) (by omega) (by omega),aK (by omega) (by omega)];congr 1
 rw[aB (by simpa using h),aB h,aK (n:=9*(n:Int)) (by omega) (by omega),aK (by omega) (by omega)];congr 1
def U0(a:Int){n:Nat}(hn:n<=100):Gy a (n:Int)=J (if(dh 1 12 n&&kZ a)=Z then(((mX a n:Nat):Int),Z)else(0,aa)):=by
 unfold Gy;rw[sW,aS];show(if(!dh 1 12 (n:Int))=Z then _ else _)=_;cases dh 1 12 (n:Int)with
 |false=>rfl
 |true=>
  rw[xK,aB (by simp),ig];unfold kZ mX;by_cases h:a=1
  ·subst h;rw[aD Ow,aD (show((1:Int)==1||(1:Int)==2)=Z from rfl),aD rfl,aK (n:=5*(n:Int)) (by omega) (by omega),aK (by omega) (by omega)];congr 2
  ·by_cases h2:a=2
   ·subst h2;rw[aB mS,aD f7,aD (show((2:Int)==1||(2:Int)==2)=Z from rfl),aB h,aK (n:=9*(n:Int)) (by omega) (by omega),aK (by omega) (by omega)];congr 2
   ·rw[aB (by simpa using h),aB (by simpa using h2),aB (by simp[h,h2])]
structure Qv (gr:an) (key:Int) (l:List aq) (arg:Int) (s:eg):Prop where
 xk:ap gr
 xn:1<=l.length/\l.length<=12
 mb:fH gr key l=Z
 xo:∃perm rs,nD gr key l perm rs/\s.Out=zaS gr key l perm rs
 xa:s.dG=arg
 xm:arg=1->s.Poly=w9/\tU gr key l s.Out s.bt=J (Z,Z)
 xp:arg=2->s.bt=rZ/\um gr key l s.Out s.Poly=J (Z,Z)
 ar:kZ arg=Z
 ln:s.bt.cy.length<=1000/\s.bt.aH.length<=1000/\lp 1000 s.bt.Pi/\s.Poly.bV.length<=1000/\s.Poly.bM.length<=1000/\s.Poly.aH.length<=1000/\lp 1000 s.Poly.Pi
section
variable {gr:an}{key:Int}{l:List aq}{perm rs:List Int}
def zEN(k:ap gr){B:cA}(hB:kO gr (l.length:Int)=J (B,Z))(m:nD gr key l perm rs){aJ:List Int}(hl:aJ.length=4*l.length+4)(he:aJ.all (dx gr)=aa):qq gr key l perm rs aJ=J (rZ,aa):=by
 have hq:=k.q;have hp:=k.p;have hn:=m.n;obtain⟨h1,h2⟩:=Og m
 have w4:i64.wrap (i64.wrap (4*(l.length:Int))+4)=((4*l.length+4:Nat):Int):=by
  rw[aK (n:=4*(l.length:Int)) (by omega) (by omega)];exact cT (by omega) (by omega)
 have e3:((aJ.length:Int) !=((4*l.length+4:Nat):Int))=aa:=by rw[hl];simp
 have qW:=ze (gr:=gr) (by omega) (by omega) aJ;rw[he]at qW;unfold qq;rw[wh k key l hB,h1,AO k (by omega),show(decide (perm.length=l.length)&&d8 perm&&(decide (rs.length=l.length)&&rs.all (dx gr)))=kH gr l.length perm rs from rfl,h2,w4,e3,qW];exact bH (ag rfl (az (ψ:=(· =Z)) (bw rfl (ag rfl (bw rfl (bw rfl (ag rfl (am rfl)))))) λb hb=>by subst hb;exact gk rfl (am rfl)))
def zGW(k:ap gr)(hd:okD gr=Z)(m:nD gr key l perm rs){aJ:List Int}(hl:aJ.length=8*l.length+2)(he:aJ.all (dx gr)=aa):sA gr key l perm rs aJ=J (w9,aa):=by
 have hq:=k.q;have hp:=k.p;have hn:=m.n;obtain⟨h1,h2⟩:=Og m;obtain⟨B,b1,b2,b3,b4⟩:=PB k hd key (l:=l) (by omega)
 have w8:i64.wrap (i64.wrap (8*(l.length:Int))+2)=((8*l.length+2:Nat):Int):=by
  rw[aK (n:=8*(l.length:Int)) (by omega) (by omega)];exact cT (by omega) (by omega)
 have e3:((aJ.length:Int) !=((8*l.length+2:Nat):Int))=aa:=by rw[hl];simp
 have qW:=ze (gr:=gr) (by omega) (by omega) aJ;rw[he]at qW;unfold sA;rw[b4,h1,AO k (by omega),show(decide (perm.length=l.length)&&d8 perm&&(decide (rs.length=l.length)&&rs.all (dx gr)))=kH gr l.length perm rs from rfl,h2,w8,e3,qW];exact bH (ag rfl (az (ψ:=(· =Z)) (bw rfl (ag rfl (bw rfl (bw rfl (ag rfl (am rfl)))))) λb hb=>by subst hb;exact gk rfl (am rfl)))
end
def U8{l:List Int}(n:Nat):(l.take n).drop 0=l.take n:=by rw[Qk]
end Go.Pm
