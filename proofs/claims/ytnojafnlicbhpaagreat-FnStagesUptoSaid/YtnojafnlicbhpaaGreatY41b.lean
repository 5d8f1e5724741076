/-
  FnStages: plain laws.
  No condition.
-/
import Derived.Test.YtnojafnlicbhpaaGreatY41
namespace Go.Pm
set_option linter.defProp false
open Go.Am IntKind
open Bool renaming false→aa,true→Z
open Option renaming some→J
def KH:=@List.flatMap_append
def Acq:=@Classical.choose_spec
set_option linter.unusedVariables false
set_option linter.unusedSimpArgs false
section
attribute [local irreducible] chG ziG zdT zaO alN sdV wvL wvE wvZ
section
variable {gr:am}{key:Int}{B:ct}{l out:List an}{p:cF}
def zBB(k:ao gr){h:Int}(hh:aK gr h=Z){ch x r l5 r5:List Int}{n:Nat}(Cy:ch.length=n/\∀z∈ch,aK gr z=Z)(hx:x.length=n)(hr:r.length=2*n+4)(hn:n<=100)(h5:l5.length=5)(h6:r5.length=5):aS (σ:=(List Int)×List Int×Int) (λul iA=>
 (ix ch ul).bind λxW=>
 gd ((iA.1.length+1)*8<=140737488355328/\iA.1.length+1<=4611686018427387904)<|
 (ix r (i64.wrap (4+ul))).bind λNt=>
 (ix x ul).bind λqJ=>
 (cC gr gr.G Nt).bind λJt=>
 (cC gr iA.2.2 qJ).bind λGO=>
 (ej gr [Jt,GO]).bind λqj=>
 gd ((iA.2.1.length+1)*8<=140737488355328/\iA.2.1.length+1<=4611686018427387904)<|
 J (.go (iA.1++[xW],iA.2.1++[qj],xW))) (λiA=>(iA.1,iA.2.1)) ch.length 0 (l5,r5,h)=J (l5++ch,r5++(List.range n).map (zjx gr h ch x r)):=by
 refine bE (d7 (λi y=>y=(l5++ch.take i,r5++(List.range i).map (zjx gr h ch x r),bef h ch i)) (by simp[bef]) ?_ ?_)
 ·rintro i y hi rfl;have h4:4+i<r.length:=by omega
  have Cf:i<x.length:=by omega
  have hb:=(DI k hh Cy.2 i (by omega)).2;refine bD hi (aG (by simp;omega) ?_);rw[show i64.wrap (4+(i:Int))=((4+i:Nat):Int)from cM (by omega) (by omega)];refine bD h4 (bD Cf (ag (fb k (fG k) _) (ag (fb k hb _) (ag (iK k (bJ k _ _) (bJ k _ _)) (aG (by simp;omega) (aj ?_))))));show _=_
  have hbe:bef h ch (i+1)=ch[i]:=by
   have:i+1<([h]++ch).length:=by simp;omega
   unfold bef;rw[bT this];rfl
  rw[iO hi,mN,l8,hbe];simp only[jD,p8,zjx,bT h4,bT Cf,gU]
 rintro y rfl;rw[f6,Cy.1]
def Zu{P:Int->Prop}{a b c d e:Int}(h1:P a)(h2:P b)(h3:P c)(h4:P d)(h5:P e):∀x∈[a,b,c,d,e],P x:=by
 intro x hx;simp only[fK,jf,jg]at hx;rcases hx with rfl|rfl|rfl|rfl|rfl<;>assumption
set_option maxHeartbeats 4000000 in
def zF8(k:ao gr)(hk:aK gr key=Z)(hn:1<=l.length/\l.length<=12)(lc:∀c∈l,b8 gr c=Z)(oc:∀c∈out,b8 gr c=Z)(hb:tG gr l.length B):IX gr key B l out p=J (tu gr key B l out p):=by
 have hp:=k.p;have hq:=k.q;unfold IX;refine bE (ay (ψ:=(· = !(decide (out.length=l.length)&&(oa gr l.length p&&(p.Pi.aV.getD 0 0==wvZ gr key l out p))))) ?_ ?_)
 ·rw[show((out.length:Int) !=(l.length:Int))= !decide (out.length=l.length)by rw[bne,iC]];refine aZ (λg=>aj ?_) λg=>ag (zFY k (by omega) p) (aZ (λg2=>aj ?_) λg2=>?_)
  ·have:decide (out.length=l.length)=aa:=by simpa using g
   rw[this];rfl
  ·have g3:decide (out.length=l.length)=Z:=by simpa using g
   have g4:oa gr l.length p=aa:=by simpa using g2
   rw[g3,g4];rfl
  have g3:decide (out.length=l.length)=Z:=by simpa using g
  have g4:oa gr l.length p=Z:=by simpa using g2
  have V:=SZ (p:=p) hk hn lc oc hb (we g3) g4;have kd:0<p.Pi.aV.length:=by rw[V.cL];omega
  exact bD (k:=0) kd (ag (V.Ab1 k) (aj (by rw[g3,g4,bT kd];rfl)))
 rintro b rfl;refine aZ (λg=>aj ?_) λg=>?_
 ·rw[qc]at g;unfold tu;rw[<-KG (oa gr l.length p),<-KG,g];rfl
 rw[Bool.not_eq_false']at g;obtain⟨g1,g23⟩:=A3.1 g;obtain⟨g2,g3⟩:=A3.1 g23;have V:=SZ (p:=p) hk hn lc oc hb (we g1) g2;have hv:tu gr key B l out p=(List.range (5+l.length)).all (pi gr (wvZ gr key l out p) p.Pi.aC (mI gr B l (wvE gr key l out p) p) (m8 gr key B l.length out p)):=by unfold tu;rw[g1,g2,g3];rfl
 rw[hv];obtain⟨rY,zS⟩:=V.e k;have kd:0<p.Pi.aV.length:=by rw[V.cL];omega
 have hz:p.Pi.aV[0]=wvZ gr key l out p:=by
  have:=eq_of_beq g3
  rwa [bT kd]at this
 have w4:i64.wrap ((l.length:Int)+4)=((l.length+4:Nat):Int):=cM (by omega) (by omega);have w1:i64.wrap ((l.length:Int)-1)=((l.length-1:Nat):Int):=cM (by omega) (by omega);have yD:(p.Pi.aD.take p.Pi.aD.length).drop (l.length+4)=p.Pi.aD.drop (l.length+4):=by rw[f6]
 have fm:=V.rsp.1;have gZ:(p.Pi.aD.drop (l.length+4)).length=l.length:=by rw[OC,fm];omega
 have B3:=MI (show 1<gr.Q by omega) (wvE gr key l out p) (wvE gr key l out p).length;have wal:i64.wrap (0-alN gr.Q (wvE gr key l out p) (wvE gr key l out p).length)=0-alN gr.Q (wvE gr key l out p) (wvE gr key l out p).length:=aI (by have:=B3.1;have:=B3.2;omega) (by have:=B3.1;omega);rw[w4,w1,dG,yD];have e8:=rm k lc;have lj:=rm k oc;have rB:=mF l;have hol:=mF out;rw[V.ol]at hol;have hH:=dV k hb.h;have hK:=dV k hk;have Bv:=FW k hb.s;have Bc:=FW k V.fN.2;have Qr:=hb.l;have gP:=V.fN.1;have ZA:=V.mp.1;have AfQ:=V.n8.1;have r0:0<p.Pi.aD.length:=by omega
 have r1:1<p.Pi.aD.length:=by omega
 have r2:2<p.Pi.aD.length:=by omega
 have r3:3<p.Pi.aD.length:=by omega
 have BB:l.length-1<p.aF.length:=by omega
 have xP:=dV k (iD V.mp.2 BB);have qB:=FU k Bv;have qC:=FU k Bc
 have hL:mI gr B l (wvE gr key l out p) p=[aP gr [aP gr p.cu,av gr (aP gr B.Hs) (-1)],zaO gr p.cu (wvE gr key l out p) 1,aP gr [p.aF[l.length-1],av gr B.H (0-alN gr.Q (wvE gr key l out p) (wvE gr key l out p).length)],zaO gr (sdV l).1 (wvE gr key l out p) 1,zaO gr (sdV l).2 (wvE gr key l out p) 1]++p.aF:=by
  unfold mI JH;rw[bT BB]
 have W9:∀y∈mI gr B l (wvE gr key l out p) p,R9 y:=by
  rw[hL];intro y hy;rcases jY.1 hy with h|h
  ·exact Zu (P:=R9) (nC k qC (bJ k _ _)) (fC k _ _) (nC k xP (bJ k _ _)) (fC k _ _) (fC k _ _) y h
  ·exact dV k (V.mp.2 y h)
 have hR:m8 gr key B l.length out p=[av gr gr.G p.Pi.aD[0],aP gr [av gr gr.G p.Pi.aD[1],zaO gr B.Hs (p.Pi.aD.drop (l.length+4)) 1],av gr gr.G p.Pi.aD[2],aP gr [av gr gr.G (i64.wrap ((0:Int)-p.Pi.aD[3])),zaO gr (sdV out).1 (p.Pi.aD.drop (l.length+4)) 1],aP gr [av gr key (i64.wrap ((0:Int)-p.Pi.aD[3])),zaO gr (sdV out).2 (p.Pi.aD.drop (l.length+4)) 1]]++(List.range l.length).map (zjx gr B.H p.aF (p.Pi.aD.drop (l.length+4)) p.Pi.aD):=by
  unfold m8 Fs;rw[bT r0,bT r1,bT r2,bT r3]
 have hLl:(mI gr B l (wvE gr key l out p) p).length=5+l.length:=by rw[hL];simp[ZA];omega
 have VQ:(m8 gr key B l.length out p).length=5+l.length:=by rw[hR];simp;omega
 refine bD (k:=0) kd ?_;rw[hz];refine aG (by omega) (aG (by omega) (ag (V.YF k).2 (ag (zzk k zS) (ag (rO (by omega)).2 (ag (rO (by rw[V.ol];omega)).2 (bD BB ?_))))));rw[wal];refine ag (Ix k Bc) (ag (Ix k Bv) (ag (zCw k qB.1 qB.2) (ag (iK k qC (bJ k _ _)) (ag (oY k Bc (by omega)) (ag (fb k hH _) (ag (iK k xP (bJ k _ _)) (ag (oY k e8.1 (by omega)) (ag (oY k e8.2 (by omega)) (bD (k:=0) r0 (bD (k:=1) r1 (bD (k:=2) r2 (bD (k:=3) r3 ?_))))))))))));refine ag (fb k (fG k) _) (ag (fb k (fG k) _) (ag (oY k Bv (by omega)) (ag (iK k (bJ k _ _) (fC k _ _)) (ag (fb k (fG k) _) (ag (fb k (fG k) _) (ag (oY k lj.1 (by omega)) (ag (iK k (bJ k _ _) (fC k _ _)) (ag (fb k hK _) (ag (oY k lj.2 (by omega)) (ag (iK k (bJ k _ _) (fC k _ _)) (ag (a:=(mI gr B l (wvE gr key l out p) p,m8 gr key B l.length out p)) ((zBB k hb.h V.mp gZ fm (by omega) rfl rfl).trans (by rw[hL,hR])) ?_)))))))))));dsimp only;generalize rz:wvZ gr key l out p=z;rw[rz]at*;generalize mI gr B l (wvE gr key l out p) p=L at hLl W9;generalize m8 gr key B l.length out p=R at VQ;refine⟨_,zCW (pi gr z p.Pi.aC L R) aa Z λi hi=>?_,?_⟩
 ·have cH:i<p.Pi.aC.length:=by omega
  have FF:i<R.length:=by omega
  rw[jx hi,aR,jx cH,aR,jx FF,aR,fb k (iD W9 hi),aR,iK k (dV k (iD V.n8.2 cH)) (bJ k _ _),aR];unfold pi hlB;rw[bT hi,bT cH,bT FF,bne];cases (aP gr [p.Pi.aC[i],av gr L[i] z]==R[i])<;>rfl
 rw[hLl];cases (List.range (5+l.length)).all (pi gr z p.Pi.aC L R)<;>rfl
def zM4(gr:am)(key:Int){l:List an}(hl:l.length<=20)(out:List an)(p:cF):∃v t,tt gr key l out p=J (v,t)/\E5 gr key l out p=J (v,t):=by
 by_cases k:ao gr
 ·obtain⟨B,tb,b1,b2,b3⟩:=TU k (n:=l.length) (by omega);unfold tt E5;rw[u0 k key l b2,uK k,uK k,yh k,b1,show(aK gr key&&(cX 1 12 l.length&&l.all (b8 gr)))=fI gr key l from rfl];cases h1:fI gr key l
  ·exact⟨aa,aa,rfl,rfl⟩
  have jU:=h1;simp only[fI,cX,bI,eC]at jU;obtain⟨c1,c2,c3⟩:=jU;rw[c1];cases h2:(cX 1 12 out.length&&out.all (b8 gr))
  ·cases tb<;>exact⟨aa,aa,rfl,rfl⟩
  simp only[bI]at h2;cases tb
  ·exact⟨aa,aa,rfl,rfl⟩
  have e1:=Wb (p:=p) (out:=out) k c1 (l:=l) (by omega) (bm.1 c3) (bm.1 h2.2) (b3 rfl);have e2:=zF8 (p:=p) (out:=out) k c1 (l:=l) (by omega) (bm.1 c3) (bm.1 h2.2) (b3 rfl);refine⟨tu gr key B l out p,Z,?_,?_⟩
  ·simp[e1]
  simp[e2]
 refine⟨aa,aa,?_,?_⟩
 ·unfold tt;rw[L6 k];rfl
 unfold E5;rw[Eg k];rfl
end
end
section
variable {gr:am}{key:Int}{B:ct}{l:List an}{perm rs s t w x:List Int}{a b d f:Int}
def Vo{gr:am}{l:List Int}(h:∀z∈l,E9 gr.Q z):l.all (dn gr)=Z:=bm.2 λz hz=>WN.2 (h z hz)
end
def Ta(n:Nat)(h:Int->Int):Prop:=∃c:List Int,c.length<=n/\∀x,evI c x=h x
variable{at_ q dC:Int}{c0 code:List Int}{i n:Nat}{y:Nat×Nat}
def Ta.up{m:Nat}{h:Int->Int}(hh:Ta n h)(hm:n<=m):Ta m h:=by
 obtain⟨b,b1,b2⟩:=hh;exact⟨b,by omega,b2⟩
def cj(f:Nat->Int):Nat->Int
 |0=>0
 |n+1=>cj f n+f n
theorem O9{q:Int}{f g:Nat->Int}:∀n,(∀k,k<n->f k%q=g k%q)->cj f n%q=cj g n%q
 |0,_=>rfl
 |n+1,h=>by
  show(cj f n+f n)%q=(cj g n+g n)%q;exact zDn (O9 n λk hk=>h k (by omega)) (h n (by omega))
theorem Bb{f g:Nat->Int}:∀n,(∀k,k<n->f k=g k)->cj f n=cj g n
 |0,_=>rfl
 |n+1,h=>by show cj f n+f n=cj g n+g n;rw[Bb n λk hk=>h k (by omega),h n (by omega)]
def RG{α:Type}{e:Option α}{φ χ:α->Prop}(h1:Rn e φ)(h2:Rn e χ):Rn e (λx=>φ x/\χ x):=by
 obtain⟨a,e1,p1⟩:=h1;obtain⟨b,e2,p2⟩:=h2;rw[e1]at e2;cases e2;exact⟨a,e1,p1,p2⟩
def RC(gr:am)(s:ByteArray)(k:Int):Bool:=(List.range 60).any λc=>kJ gr s k (c:Int) !=1
def okD(gr:am):Bool:=RC gr ⟨#[104]⟩ 0&&(List.range 13).all λi=>RC gr ⟨#[104,115]⟩ (i:Int)
def Yb{gr:am}(k:ao gr){s:ByteArray}{i y:Int}(h:RC gr s i=Z)(hy:qw gr s i y):0<y:=by
 rcases hy with⟨c,hc,rfl,_,_⟩|⟨_,h4⟩
 ·have:=Qk k s i c;omega
 obtain⟨c,hc,h5⟩:=Aay.1 h;rw[h4 c (by have:=kp.1 hc;omega)]at h5;cases h5
def zy1{gr:am}(k:ao gr)(hd:okD gr=Z)(hn:n<=13):Rn (lN gr (n:Int)) (λx=>x.2=Z):=by
 obtain⟨d1,d2⟩:=A3.1 hd;obtain⟨y,_,J8,RR⟩:=LH k (s:=⟨#[104]⟩) (by decide) (i:=0) rfl;have hy:=Yb k d1 RR;unfold lN;refine ag J8 (ay (ψ:=λp=>p.2.2=Z) (kx n (λm p=>p.2.2.2=(m:Int)/\p.2.1.length=m/\p.2.2.1=Z) ⟨rfl,rfl,rfl⟩ ?_ ?_) ?_)
 ·rintro m ⟨w,l,t,c⟩ hm ⟨h1,h2,h3⟩;simp only at h1 h2 h3;subst h1 h3;obtain⟨z,_,z2,z3⟩:=LH k (s:=⟨#[104,115]⟩) (by decide) (i:=(m:Int)) (jn.2 ⟨by omega,by omega⟩);have hz:=Yb k (bm.1 d2 m (kp.2 (by omega))) z3;refine aZ (λ_=>?_) λh=>absurd h (by simp;omega)
  refine ag z2 (ay (ψ:=λb=>b=Z) (fU rfl (aj (by simpa using hz))) λb hb=>?_);subst hb;refine aG (by dsimp only;omega) (aj ⟨?_,by simp[h2],rfl⟩);show i64.wrap ((m:Int)+1)=_;rw[aI (by omega) (by omega)];rfl
 ·rintro⟨w,l,t,c⟩ ⟨h1,h2,h3⟩;simp only at h1 h2 h3;subst h1 h3;exact aZ (λh=>absurd h (by simp)) λ_=>aj rfl
 rintro⟨w,l,t⟩ h;have h:t=Z:=h;subst h;refine ay (ψ:=λb=>b=aa) (bt (by simpa using hy) (aj rfl)) λb hb=>?_
 subst hb;exact bt rfl (aj rfl)
def NQ{gr:am}(k:ao gr)(hd:okD gr=Z)(hn:n<=13):∃b,rC gr (n:Int)=J (b,Z)/\lN gr (n:Int)=J (b,Z)/\tG gr n b:=by
 obtain⟨b,t,h1,h2,h3⟩:=TU k (n:=n) (by omega);obtain⟨x,e1,e2⟩:=zy1 k hd hn;rw[h2]at e1;cases e1;have e2:t=Z:=e2;subst e2;exact⟨b,h1,h2,h3 rfl⟩
def MA(n b:Nat):Bool:=decide (2<=n)&&decide (n<b*b)&&(List.range b).all λd=>decide (d<2)||decide (n<d*d)||n%d !=0
def WC{b:Nat}(h:MA n b=Z):Pr n:=by
 simp only[MA,bI,eC]at h;obtain⟨⟨h1,h2⟩,h3⟩:=h;refine⟨h1,λd a1 a2=>?_⟩;have hd:d<b:=Aav λcU=>by have:=ri cU cU;omega
 have:=bm.1 h3 d (kp.2 hd);simp only[tY,eC,bne_iff_ne,ne_eq]at this;omega
def X1(n:Nat):Bool:=(List.range 3500).any λd=>decide (2<=d)&&(decide (d*d<=n)&&n%d==0)
def zHG(h:X1 n=Z):¬Pr n:=by
 obtain⟨d,_,hd⟩:=Aay.1 h;simp only[bI,eC,v9]at hd;exact λhp=>hp.2 d hd.1 hd.2.1 hd.2.2
def RP(q K:Nat):Bool:=decide (q<=1000000)&&(decide (1<=K)&&(decide (1+K*q<=2000000000)&&(MA q 1001&&(MA (1+K*q) 3500&&(2^K%(1+K*q) !=1&&(List.range K).all λk=>k==0||X1 (1+k*q))))))
def kg(x:Nat×Nat):am:=⟨((1+x.2*x.1:Nat):Int),(x.1:Int),((2^x.2%(1+x.2*x.1):Nat):Int)⟩
def zzX{q K:Nat}(h:RP q K=Z):uc (q:Int)=J (kg (q,K),Z):=by
 simp only[RP,bI,eC,bne_iff_ne,ne_eq]at h;obtain⟨h1,h2,h3,h4,h5,h6,h7⟩:=h;have pu:=WC h4;have Qv:=WC h5;have hq:=pu.1
 have hnp:∀k,1<=k->k<K->¬Pr (1+k*q):=λk a b=>by
  have:=bm.1 h7 k (kp.2 b);rw[tY,v9]at this;exact zHG (this.resolve_left (by omega))
 unfold uc;refine bE (ay (ψ:=λb=>b=aa) ?_ ?_)
 ·refine ag (rZ _ _ _) (bt (by simp;omega) (ag (Dy _ (by omega)) (aj ?_)));rw[mX.2 pu];rfl
 rintro _ rfl;refine bt rfl (ay (ψ:=λb=>b=.inr (kg (q,K),Z)) ?_ ?_)
 ·rw[aI (by omega) (by omega)];refine tH (λs=>∃k:Nat,1<=k/\k<=K/\s=((1+k*q:Nat):Int)) (λs=>(2001000001-s).toNat) ⟨1,by omega,h2,by rw[Kt];omega⟩ ?_;rintro s ⟨k,hk,hkK,rfl⟩;have cU:k*q<=K*q:=gA q hkK;refine fU (by simp;omega) (ag (Dy _ (by omega)) ?_);by_cases e:k=K
  ·subst e;rw[mX.2 Qv];refine bt rfl ?_
   have Ca:i64.wrap ((i64.wrap (((1+k*q:Nat):Int)-1)).tdiv (q:Int))=(k:Int):=by
    have e1:((1+k*q:Nat):Int)-1=(k:Int)*(q:Int):=by push_cast;omega
    have e2:(k:Int)*(q:Int)=((k*q:Nat):Int):=by push_cast;rfl
    have e3:k*1<=k*q:=Oz k (by omega);rw[e1,aI (n:=(k:Int)*(q:Int)) (by omega) (by omega),Acl _ (by omega),aI (by omega) (by omega)]
   simp only[Ca];have e3:k*1<=k*q:=Oz k (by omega);have CW:=(pT (a:=2) (e:=(k:Int)) (m:=((1+k*q:Nat):Int)) (by omega) (by omega) (by omega) (by omega) (by omega) (by omega)).2;rw[dG,dG]at CW;refine ay (ψ:=λh=>h=2) (tH (λs=>s=2) (λ_=>0) rfl ?_) ?_
   ·rintro _ rfl;refine aG (by omega) (ag CW (bt ?_ (aj rfl)));have h8:¬(((2^k%(1+k*q):Nat):Int)=1):=λe=>h6 (by exact_mod_cast e)
    exact beq_eq_false_iff_ne.2 h8
   rintro _ rfl;exact aG (by omega) (ag CW (aj rfl))
  have hn:=hnp k hk (by omega)
  have hf:kU ((1+k*q:Nat):Int)=aa:=by
   cases hb:kU ((1+k*q:Nat):Int)
   ·rfl
   ·exact absurd (mX.1 hb) hn
  rw[hf];have Ni:(k+1)*q<=K*q:=gA q (by omega);rw[jZ]at Ni
  have e1:i64.wrap (((1+k*q:Nat):Int)+(q:Int))=((1+(k+1)*q:Nat):Int):=by
   rw[aI (by omega) (by omega),jZ];omega
  refine fU rfl (aj ⟨⟨k+1,by omega,by omega,e1⟩,?_⟩);rw[e1,jZ];omega
 rintro _ rfl;exact aj rfl
def SC(gr:am):Bool:=decide (gr.Q<2)||(decide (gr.P<3)||((gr.Q%2==0&&gr.Q !=2)||((gr.P-1)%gr.Q !=0||okD gr)))
def Dg(gr:am):Prop:=ao gr->okD gr=Z
def zIe{gr:am}(h:SC gr=Z):Dg gr:=by
 intro k;have hp:=k.p;have hq:=k.q;have hd:=k.d;have pu:=k.pq;simp only[SC,tY,bI,eC,v9,bne_iff_ne,ne_eq]at h;rcases h with h|h|h|h|h
 ·omega
 ·omega
 ·exfalso;obtain⟨n,hn⟩:=fJ (show 0<=gr.Q by omega);rw[hn,dG]at pu;exact pu.2 2 (by omega) (by omega) (by omega)
 ·exfalso;apply h;obtain⟨n,hn⟩:=fJ (show 0<=gr.Q by omega);obtain⟨m,hm⟩:=fJ (show 0<=gr.P-1 by omega);have e:gr.P.toNat-1=m:=by omega
  rw[e,hn,dG]at hd;rw[hm,hn,<-o6,hd];rfl
 exact h
def Bq(gr:am):List am:=gr::([0,gr.P+2,4,-7].map λx=>⟨x,gr.Q,gr.G⟩)++([0,1,gr.Q+1,gr.P-1].map λx=>⟨gr.P,x,gr.G⟩)++([0,1,gr.P-1,gr.P,gr.G+1].map λx=>⟨gr.P,gr.Q,x⟩)
def zoY(gr:am):Bool:=(Bq gr).all SC
def om:List (Nat×Nat):=[(3,2),(5,2),(7,4),(11,2),(13,4),(23,2)]
def xL:List (Nat×Nat):=[(101,6),(1009,10),(1019,2),(65537,14),(999983,12)]
def zxw:((om++xL).all λx=>RP x.1 x.2)=Z:=by decide+kernel
def zAX:zoY ⟨1000000007,500000003,4⟩=Z:=by decide+kernel
def zBc:(xL.all λx=>zoY (kg x))=Z:=by decide+kernel
def zF3(x:Nat×Nat)(e:Nat):am:=⟨(kg x).P,(kg x).Q,(((kg x).G.toNat^e%(kg x).P.toNat:Nat):Int)⟩
def zzR:(om.all λx=>(List.range x.1).all λe=>zoY (zF3 x e))=Z:=by decide+kernel
attribute [local irreducible] okD zoY
def zDy{x:Int}(hx:x∈[(3:Int),5,5,7,11,11,13,23]):∃y∈om,x=(y.1:Int)/\3<=y.1/\y.1<=23:=by
 simp only[fK,jf,jg]at hx;rcases hx with rfl|rfl|rfl|rfl|rfl|rfl|rfl|rfl
 ·exact⟨(3,2),by simp[om],rfl,by decide⟩
 ·exact⟨(5,2),by simp[om],rfl,by decide⟩
 ·exact⟨(5,2),by simp[om],rfl,by decide⟩
 ·exact⟨(7,4),by simp[om],rfl,by decide⟩
 ·exact⟨(11,2),by simp[om],rfl,by decide⟩
 ·exact⟨(11,2),by simp[om],rfl,by decide⟩
 ·exact⟨(13,4),by simp[om],rfl,by decide⟩
 exact⟨(23,2),by simp[om],rfl,by decide⟩
def zGL{x:Int}(hx:x∈[(101:Int),1009,1019,65537,999983]):∃y∈xL,x=(y.1:Int):=by
 simp only[fK,jf,jg]at hx;rcases hx with rfl|rfl|rfl|rfl|rfl
 ·exact⟨(101,6),by simp[xL],rfl⟩
 ·exact⟨(1009,10),by simp[xL],rfl⟩
 ·exact⟨(1019,2),by simp[xL],rfl⟩
 ·exact⟨(65537,14),by simp[xL],rfl⟩
 exact⟨(999983,12),by simp[xL],rfl⟩
def zAJ(h:y∈om):uc (y.1:Int)=J (kg y,Z):=zzX (bm.1 zxw y (sG _ h))
def zC5(h:y∈xL):uc (y.1:Int)=J (kg y,Z):=zzX (bm.1 zxw y (yy _ h))
def zDF(h:y∈om):(kg y).Q=(y.1:Int)/\1<=(kg y).P/\(kg y).P<=100/\0<=(kg y).G/\(kg y).G<=100:=by
 simp only[om,fK,jf,jg]at h;rcases h with rfl|rfl|rfl|rfl|rfl|rfl<;>exact⟨rfl,by decide,by decide,by decide,by decide⟩
def ZX{n:Int}(hb:Bt code)(h:Cu code n (c0,at_,dC))(hn:n<=6000000000000000):Rn (zK c0 at_ dC) (λz=>zoY z.1=Z):=by
 unfold zK;refine ay (jF hb h (by omega)) λz ⟨z1,z2,z3,z4,z5⟩=>?_
 refine aZ (λ_=>aj zAX) λ_=>aZ (λ_=>?_) λ_=>?_
 ·refine ay (oB hb z5 (by omega) (by simp)) λy ⟨y1,y2⟩=>?_
  obtain⟨q,hq,e⟩:=zGL y1;rw[e];exact ag (zC5 hq) (aj (bm.1 zBc q hq))
 unfold FI;refine ay (ψ:=λw=>(∃q∈om,w.1=kg q/\3<=q.1/\q.1<=23)/\Cu code (n+8) w.2) (ay (oB hb z5 (by omega) (by simp)) λy ⟨y1,y2⟩=>?_) λy ⟨⟨q,hq,e,q3,q23⟩,y2⟩=>?_
 ·obtain⟨q,hq,e,q3⟩:=zDy y1;rw[e];exact ag (zAJ hq) (aj ⟨⟨q,hq,rfl,q3⟩,y2.mono (by omega)⟩)
 obtain⟨b1,b2,b3,b4,b5⟩:=zDF hq;rw[e,b1,aI (n:=(q.1:Int)-1) (by omega) (by omega)];refine ay (jF hb y2 (by omega)) λx ⟨x1,x2,x3,x4,x5⟩=>?_
 have x3:=x3 (by omega);rw[aI (n:=1+x.1) (by omega) (by omega)];have hm:=BQ (a:=1+x.1) (q:=(kg q).Q) (by omega) (by omega);have e1:(1+x.1)%(kg q).Q=1+x.1:=qe (by omega) (by omega);have hw:=(pT (a:=(kg q).G) (e:=1+x.1) (m:=(kg q).P) b4 (by omega) (by omega) (by omega) (by omega) (by omega)).2;refine ay (ψ:=λv=>v=(((kg q).G.toNat^(1+x.1).toNat%(kg q).P.toNat:Nat):Int)) ?_ ?_
 ·unfold cC;refine ag hm ?_;rw[e1];exact ag hw (aj rfl)
 rintro _ rfl;refine aj ?_;rw[<-b1];exact bm.1 (bm.1 zzR q hq) (1+x.1).toNat (kp.2 (by omega))
def JQ{gr g:am}(h:zoY gr=Z)(hm:g∈Bq gr):Dg g:=by
 unfold zoY at h;exact zIe (bm.1 h g hm)
def zt8{n:Int}(hb:Bt code)(h:Cu code n (c0,at_,dC))(hn:n<=5000000000000000):Rn (CC c0 at_ dC) (λz=>Dg z.1):=by
 unfold CC;refine ay (RG (SF hb h (by omega)) (ZX hb h (by omega))) λz ⟨⟨z1,z2⟩,z3⟩=>?_
 have g1:=z1.p;have g2:=z1.q;have g3:=z1.g;refine ay (jF hb z2 (by omega)) λy ⟨_,_,_,_,y5⟩=>?_
 rw[aI (n:=z.1.P+2) (by omega) (by omega),aI (n:=z.1.Q+1) (by omega) (by omega),aI (n:=z.1.P-1) (by omega) (by omega),aI (n:=z.1.G+1) (by omega) (by omega)];refine ay (ψ:=λx=>Dg (am.mk x.2.1 x.2.2.1 x.2.2.2)) ?_ λx hx=>aj hx
 refine aZ (λ_=>?_) λ_=>aZ (λ_=>?_) λ_=>aZ (λ_=>?_) λ_=>aj (JQ z3 (by simp[Bq]))
 ·exact ay (oB hb y5 (by omega) (by simp)) λx ⟨x1,x2⟩=>aj (JQ z3 (by unfold Bq;exact sG _ (sG _ (nU _ (jE.2 ⟨_,x1,rfl⟩)))))
 ·exact ay (oB hb y5 (by omega) (by simp)) λx ⟨x1,x2⟩=>aj (JQ z3 (by unfold Bq;exact sG _ (yy _ (jE.2 ⟨_,x1,rfl⟩))))
 exact ay (oB hb y5 (by omega) (by simp)) λx ⟨x1,x2⟩=>aj (JQ z3 (by unfold Bq;exact yy _ (jE.2 ⟨_,x1,rfl⟩)))
def zzi{n:Int}(hb:Bt code)(h:Cu code n (c0,at_,dC))(hn:n<=1000000000000000):Rn (H7 c0 at_ dC) (λz=>(Gw z.1/\Dg z.1)/\z.2.2.1.length<=13/\Cu code (n+400) z.2.2.2.2.2):=by
 unfold H7;refine ay (RG (SF hb h (by omega)) (ZX hb h (by omega))) λz ⟨⟨z1,z2⟩,z3⟩=>ay (LD hb z2 (by omega)) λy y1=>?_
 refine ay (ψ:=λx=>(Gw (am.mk x.2.1 x.2.2.1 x.2.2.2)/\Dg (am.mk x.2.1 x.2.2.1 x.2.2.2))/\Cu code (n+20) x.1) (aZ (λ_=>ay (RG (zv1 hb y1 (by omega)) (zt8 hb y1 (by omega))) λw ⟨⟨w1,w2⟩,w3⟩=>aj ⟨⟨w1,w3⟩,w2.mono (by omega)⟩) λ_=>aj ⟨⟨z1.w,JQ z3 (by simp[Bq])⟩,y1.mono (by omega)⟩) λx ⟨⟨x1,x0⟩,x2⟩=>?_
 refine ay (jF hb x2 (by omega)) λp ⟨p1,_,p3,_,p5⟩=>?_
 have p3:=p3 (by omega);obtain⟨K,hK⟩:=fJ p1;rw[hK,aI (n:=1+(K:Int)) (by omega) (by omega)];refine ay (ψ:=λr=>r.2.length=K+1/\Cu code (n+60) r.1) (kx (K+1) (λj s=>s.2.2=(K:Int)+1-j/\s.2.1.length=j/\Cu code (n+22+8*j) s.1) ⟨by dsimp only;omega,rfl,p5.mono (by omega)⟩ ?_ ?_) λr ⟨r1,r2⟩=>?_
 ·rintro j ⟨c,l,i⟩ hj ⟨h1,h2,h3⟩;have h1:i=(K:Int)+1-j:=h1;have h2:l.length=j:=h2;refine fU (by simp;omega) (ay (zyO hb h3 (by omega) x1) λw w1=>aG (by dsimp only;omega) (aj ⟨?_,by simp[h2],w1.mono (by push_cast;omega)⟩));show i64.wrap (i-1)=_;rw[aI (by omega) (by omega)];push_cast;omega
 ·rintro⟨c,l,i⟩ ⟨h1,h2,h3⟩;have h1:i=(K:Int)+1-((K+1:Nat):Int):=h1;exact bt (by simp;omega) (aj ⟨h2,h3.mono (by omega)⟩)
 refine ay (zDx hb r2 (by omega) (by omega)) λu ⟨u1,u2⟩=>?_
 refine ay (UO hb u2 (by omega) x1 (by omega)) λv ⟨v1,v2⟩=>?_
 refine ay (jF hb v2 (by omega)) λq ⟨_,_,_,_,q5⟩=>?_
 refine ay (ψ:=λx=>x.2.1.length<=13/\Cu code (n+300) x.1) (aZ (λ_=>?_) λ_=>aZ (λ_=>?_) λ_=>aZ (λ_=>aj ⟨by simp,q5.mono (by omega)⟩) λ_=>aZ (λ_=>?_) λ_=>aj ⟨by dsimp only;omega,q5.mono (by omega)⟩) λw ⟨w1,w2⟩=>?_
 ·exact ay (zuF hb q5 (by omega) x1) λw w1=>bD (k:=0) (by omega) (aj ⟨by show(r.2.set _ _).length<=_;rw[KC];omega,w1.mono (by omega)⟩)
 ·exact ay (oB hb q5 (by omega) (by simp)) λw ⟨_,w1⟩=>bD (k:=0) (by omega) (aj ⟨by dsimp only;omega,w1.mono (by omega)⟩)
 ·refine tH (λs=>1<=s.2.length/\s.2.length<=13/\Cu code (n+200+2*s.2.length) s.1) (λs=>13-s.2.length) ⟨by dsimp only;omega,by dsimp only;omega,q5.mono (by dsimp only;omega)⟩ ?_;rintro⟨c,l⟩ ⟨h1,h2,h3⟩;have h1:1<=l.length:=h1;have h2:l.length<=13:=h2;have h3:Cu code (n+200+2*l.length) c:=h3;refine ay (jF hb h3 (by omega)) λw ⟨w1,_,w3,_,w5⟩=>?_
  have w3:=w3 (by omega);dsimp only;rw[aI (n:=12+w.1) (by omega) (by omega)];refine aZ (λg=>?_) λ_=>aj ⟨by dsimp only;omega,w5.mono (by omega)⟩
  have g:(l.length:Int)<12+w.1:=by simpa using g
  exact bD (k:=0) (by omega) (aG (by omega) (aj ⟨⟨by simp,by simp;omega,w5.mono (by simp;omega)⟩,by simp;omega⟩))
 exact ay (HW hb w2 (by omega) x1) λt ⟨_,_,t3⟩=>aj ⟨⟨x1,x0⟩,w1,t3.mono (by omega)⟩
def rg(f:Nat->Int)(n:Nat):List Int:=(List.range n).map f
def bn(f:Nat->Int)(n:Nat):(rg f n).length=n:=by simp[rg]
theorem ug(f:Nat->Int):rg f 0=[]:=rfl
def oF(f:Nat->Int)(n:Nat):rg f (n+1)=rg f n++[f n]:=by simp[rg,mN]
def uO(f:Nat->Int)(n:Nat)(A:List Int):A++rg f (n+1)=(A++rg f n)++[f n]:=by rw[oF,gU]
def tx(f:Nat->Int)(h:i<n):ix (rg f n) (i:Int)=J (f i):=by
 rw[jx (by rw[bn];exact h)];simp[rg]
def kF(f:Nat->Int)(h:i<n):(rg f n).getD i 0=f i:=by
 rw[bT (by rw[bn];exact h)];simp[rg]
def nk{P:Int->Prop}{f:Nat->Int}(h:∀i,i<n->P (f i)):∀x∈rg f n,P x:=by
 intro x hx;obtain⟨i,hi,rfl⟩:=jE.1 hx;exact h i (kp.1 hi)
def eA{P:Int->Prop}{l:List Int}(h:∀x∈l,P x)(hi:i<l.length):P (l.getD i 0):=by
 rw[bT hi];exact h _ (e9 hi)
def dY{l:List Int}(hi:i<l.length):ix l (i:Int)=J (l.getD i 0):=by rw[jx hi,bT hi]
def pz{σ γ:Type}{body:Int->σ->Option (fe σ γ)}{stop:σ->γ}{s0:σ}(S:Nat->σ)(h0:s0=S 0)(hs:∀i,i<n->Rn (body (i:Int) (S i)) (· =.go (S (i+1)))):aS body stop n 0 s0=J (stop (S n)):=by
 refine bE (d7 (λi y=>y=S i) h0 ?_ ?_)
 ·rintro i y hi rfl;obtain⟨v,h1,rfl⟩:=hs i hi;exact⟨_,h1,rfl⟩
 rintro y rfl;rfl
def vc(gr:am)(h x r:Int):Int:=aP gr [av gr gr.G x,av gr h r]
def Wz{gr:am}(k:ao gr)(h x r:Int):R9 (vc gr h x r):=nC k (bJ k _ _) (bJ k _ _)
def IH{gr:am}(k:ao gr){h:Int}(hh:aK gr h=Z)(x r:Int):aK gr (vc gr h x r)=Z:=qW k (kH k (nG k) _) (kH k hh _)
def A7{gr:am}(k:ao gr){B:ct}(hh:R9 B.H)(x r:Int):oS gr B x r=J (vc gr B.H x r):=by
 unfold oS;rw[fh k (fG k),aR,fh k hh,aR,jL k (bJ k _ _) (bJ k _ _)];rfl
def Fk{gr:am}(k:ao gr){h:Int}(hh:R9 h)(x r:Int):nO gr h x r=J (vc gr h x r):=by
 unfold nO;rw[fb k (fG k),aR,fb k hh,aR,iK k (bJ k _ _) (bJ k _ _)];rfl
structure Pc where
 a:List Int
 b:List Int
 c:List Int
 w:List Int
 v:List Int
 s:List Int
 g:Int
 k:List Int
 m:List Int
 f:Int
structure ux (q:Int) (n:Nat) (C:Pc):Prop where
 a:C.a.length=n/\∀z∈C.a,E9 q z
 b:C.b.length=n/\∀z∈C.b,E9 q z
 c:C.c.length=n/\∀z∈C.c,E9 q z
 w:C.w.length=n/\∀z∈C.w,E9 q z
 v:C.v.length=n/\∀z∈C.v,E9 q z
 s:C.s.length=n/\∀z∈C.s,E9 q z
 g:E9 q C.g
 k:C.k.length=n/\∀z∈C.k,E9 q z
 m:C.m.length=n/\∀z∈C.m,E9 q z
 f:E9 q C.f
def plF(gr:am)(h:Int)(perm:List Int)(C:Pc)(i:Nat):Int:=vc gr h (perm.getD i 0+1) (C.a.getD i 0)
def eF(q x:Int)(perm:List Int)(i:Nat):Int:=((x.toNat^(perm.getD i 0+1).toNat%q.toNat:Nat):Int)
def pwF(gr:am)(h:Int)(e:Nat->Int)(C:Pc)(i:Nat):Int:=vc gr h (e i) (C.b.getD i 0)
def uF(q y z:Int)(e:Nat->Int)(perm:List Int)(i:Nat):Int:=(y*(perm.getD i 0+1)+e i-z)%q
def sB(q:Int)(u:Nat->Int):Nat->Int
 |0=>1
 |i+1=>(sB q u i*u i)%q
def chF(gr:am)(h:Int)(u:Nat->Int)(C:Pc)(i:Nat):Int:=vc gr h (sB gr.Q u (i+1)) (C.c.getD i 0)
def AS(C:Pc):Nat->Int
 |0=>0
 |i+1=>C.c.getD i 0
def dlF(q:Int)(u:Nat->Int)(C:Pc)(i:Nat):Int:=(C.c.getD i 0-AS C i*u i)%q
def Lt(gr:am)(h:Int)(C:Pc)(i:Nat):Int:=vc gr h (C.w.getD i 0) (C.v.getD i 0)
def c2F(gr:am)(h:Int)(ch:List Int)(C:Pc)(i:Nat):Int:=aP gr [av gr (bef gr.G ch i) (C.w.getD i 0),av gr h (C.s.getD i 0)]
def ZO(gr:am)(h:Int)(C:Pc)(i:Nat):Int:=vc gr h (C.k.getD i 0) (C.m.getD i 0)
def abF(q y:Int)(C:Pc)(i:Nat):Int:=(y*C.a.getD i 0+C.b.getD i 0)%q
def rF(q t:Int)(w:List Int)(u:Nat->Int)(i:Nat):Int:=(w.getD i 0+t*u i)%q
def Ms(hq:0<q)(x:Int)(perm:List Int)(i:Nat):E9 q (eF q x perm i):=by
 have h:=mM (x.toNat^(perm.getD i 0+1).toNat) (show 0<q.toNat by omega);exact⟨Int.natCast_nonneg _,by unfold eF;omega⟩
theorem zAv(hq:1<q)(u:Nat->Int):∀i,E9 q (sB q u i)
 |0=>⟨by show(0:Int)<=1;omega,hq⟩
 |i+1=>f8 (by omega) _
def Z8{C:Pc}(hq:0<q)(c:ux q n C)(hi:i<=n):E9 q (AS C i):=by
 cases i with
 |zero=>exact⟨A1 0,hq⟩
 |succ i=>exact eA c.c.2 (by have:=c.c.1;omega)
def RU{gr:am}(k:ao gr){x p:Int}(hx:E9 gr.Q x)(hp:0<=p/\p<=1000):nQ x (i64.wrap (p+1)) gr.Q=J ((x.toNat^(p+1).toNat%gr.Q.toNat:Nat):Int)/\kW x (i64.wrap (p+1)) gr.Q=J ((x.toNat^(p+1).toNat%gr.Q.toNat:Nat):Int):=by
 have hP:=k.p;have hq:=k.q;rw[aI (by omega) (by omega)];exact pT hx.1 (by have:=hx.2;omega) (by omega) (by omega) (by omega) (by omega)
def zAN{a b:Int}:(a-b%q)%q=(a-b)%q:=by rw[sH,eM,<-sH]
def e_u{y p e z:Int}(hq:0<q/\q<=2000000000)(hy:E9 q y)(hp:0<=p/\p<=1000)(he:E9 q e)(hz:E9 q z):i64.wrap (i64.wrap (i64.wrap (y*i64.wrap (p+1))+e)-z)=y*(p+1)+e-z:=by
 have h1:0<=y*(p+1):=sJ hy.1 (by omega);have h2:y*(p+1)<=2000000000*1001:=wg (by have:=hy.2;omega) (by omega) (by omega) (by omega);have:=he.1;have:=he.2;have:=hz.1;have:=hz.2;rw[aI (n:=p+1) (by omega) (by omega),aI (n:=y*(p+1)) (by omega) (by omega),aI (n:=y*(p+1)+e) (by omega) (by omega),aI (by omega) (by omega)]
def zJO{y p e z:Int}(hq:0<q/\q<=2000000000)(hy:E9 q y)(hp:0<=p/\p<=1000)(he:E9 q e)(hz:E9 q z):(i64.wrap (i64.wrap (i64.wrap (y*(i64.wrap (p+1)).tmod q)+e)-z))%q=(y*(p+1)+e-z)%q:=by
 have h0:E9 q ((p+1)%q):=f8 hq.1 _;rw[aI (n:=p+1) (by omega) (by omega),je (by omega)];have h1:0<=y*((p+1)%q):=sJ hy.1 h0.1;have h2:y*((p+1)%q)<=2000000000*2000000000:=wg (by have:=hy.2;omega) (by have:=h0.2;omega) h0.1 (by omega);have:=he.1;have:=he.2;have:=hz.1;have:=hz.2;rw[aI (n:=y*((p+1)%q)) (by omega) (by omega),aI (n:=y*((p+1)%q)+e) (by omega) (by omega),aI (by omega) (by omega)];have e1:(y*((p+1)%q))%q=(y*(p+1))%q:=by rw[mO,eM,<-mO]
 rw[sH,o8,e1,<-o8,<-sH]
section
variable {gr:am}{h:Int}{perm:List Int}{C:Pc}{n:Nat}
def zuT{CM:Int->Int->Option Int}(hC:∀x r,CM x r=J (vc gr h x r))(hp:∀x∈perm,0<=x/\x<=1000)(hl:perm.length=n)(ha:C.a.length=n)(hn:n<=100):aS (σ:=(List Int)) (λi5 s4=>
 (ix perm i5).bind λaU=>
 (ix C.a i5).bind λdf=>
 (CM (i64.wrap (aU+1)) df).bind λdk=>
 gd ((s4.length+1)*8<=140737488355328/\s4.length+1<=4611686018427387904)<|
 J (.go (s4++[dk]))) (λs4=>s4) perm.length 0 []=J (rg (plF gr h perm C) n):=by
 rw[hl];refine pz (λi=>rg (plF gr h perm C) i) rfl λi hi=>?_
 have hp:=eA hp (i:=i) (by omega);refine ag (dY (by omega)) (ag (dY (by omega)) ?_);rw[aI (n:=perm.getD i 0+1) (by omega) (by omega)];refine ag (hC _ _) (aG (by rw[bn];omega) (aj ?_));rw[oF];rfl
def zH0(k:ao gr){B:ct}(hh:R9 B.H)(hp:∀x∈perm,0<=x/\x<=1000)(hl:perm.length=n)(ha:C.a.length=n)(hn:n<=100):IC gr B perm C.a=J (rg (plF gr B.H perm C) n):=by
 unfold IC;rw[zuT (A7 k hh) hp hl ha hn];rfl
def zGc(k:ao gr)(hh:R9 h)(hp:∀x∈perm,0<=x/\x<=1000)(hl:perm.length=n)(ha:C.a.length=n)(hn:n<=100):Ko gr h perm C.a=J (rg (plF gr h perm C) n):=by
 unfold Ko;rw[zuT (Fk k hh) hp hl ha hn];rfl
end
abbrev sX:ByteArray:=⟨#[109,105,120,32,120]⟩
abbrev sY:ByteArray:=⟨#[109,105,120,32,121]⟩
abbrev sZ:ByteArray:=⟨#[109,105,120,32,122]⟩
abbrev sE:ByteArray:=⟨#[109,105,120,32,101,110,100]⟩
section
variable {gr:am}{h:Int}{perm:List Int}{C:Pc}{n:Nat}
variable{A:List Int}
def zBX(k:ao gr){B:ct}(hh:R9 B.H)(hp:∀x∈perm,0<=x/\x<=1000)(hl:perm.length=n)(hb:C.b.length=n)(hn:n<=100){x:Int}(hx:E9 gr.Q x) :aS (σ:=(List Int)×List Int×List Int×List Int×List Int×List Int×List Int) (λuQ dv=>
 (ix perm uQ).bind λuC=>
 (nQ x (i64.wrap (uC+1)) gr.Q).bind λuq=>
 gd ((dv.2.2.2.2.2.2.length+1)*8<=140737488355328/\dv.2.2.2.2.2.2.length+1<=4611686018427387904)<|
 (J (dv.2.2.2.2.2.2++[uq])).bind λuZ=>
 (ix uZ uQ).bind λuE=>
 (ix C.b uQ).bind λCU=>
 (oS gr B uE CU).bind λzY=>
 gd ((dv.2.1.length+1)*8<=140737488355328/\dv.2.1.length+1<=4611686018427387904)<|
 J (.go (dv.1,dv.2.1++[zY],dv.2.2.1,dv.2.2.2.1,dv.2.2.2.2.1,dv.2.2.2.2.2.1,uZ))) (λdv=>(dv.1,dv.2.1,dv.2.2.1,dv.2.2.2.1,dv.2.2.2.2.1,dv.2.2.2.2.2.1,dv.2.2.2.2.2.2)) perm.length 0 (A,[],[],[],[],[],[])=J (A,rg (pwF gr B.H (eF gr.Q x perm) C) n,[],[],[],[],rg (eF gr.Q x perm) n):=by
 rw[hl];refine pz (λi=>(A,rg (pwF gr B.H (eF gr.Q x perm) C) i,[],[],[],[],rg (eF gr.Q x perm) i)) rfl λi hi=>?_
 have hp:=eA hp (i:=i) (by omega);refine ag (dY (by omega)) (ag (RU k hx hp).1 (aG (by rw[bn];omega) (ag (a:=rg (eF gr.Q x perm) (i+1)) (by rw[oF];rfl) (ag (tx _ (by omega)) (ag (dY (by omega)) (ag (A7 k hh _ _) (aG (by rw[bn];omega) (aj ?_))))))));rw[oF (pwF gr B.H (eF gr.Q x perm) C)];rfl
def zA1(k:ao gr){B:ct}(hh:R9 B.H)(hp:∀x∈perm,0<=x/\x<=1000)(hl:perm.length=n)(c:ux gr.Q n C)(hn:n<=100){x y z:Int}(hy:E9 gr.Q y)(hz:E9 gr.Q z){W:List Int}:aS (σ:=(List Int)×List Int×List Int×List Int×List Int×List Int×List Int×Int×List Int) (λnB cG=>
 (ix perm nB).bind λpy=>
 (ix (rg (eF gr.Q x perm) n) nB).bind λNz=>
 (eU gr (i64.wrap ((i64.wrap ((i64.wrap (y*(i64.wrap (py+1))))+Nz))-z))).bind λoA=>
 gd ((cG.2.2.2.2.2.2.1.length+1)*8<=140737488355328/\cG.2.2.2.2.2.2.1.length+1<=4611686018427387904)<|
 (J (cG.2.2.2.2.2.2.1++[oA])).bind λxg=>
 (ix xg nB).bind λmi=>
 (eU gr (i64.wrap (cG.2.2.2.2.2.2.2.1*mi))).bind λDO=>
 (ix C.c nB).bind λjB=>
 (oS gr B DO jB).bind λod=>
 gd ((cG.2.2.1.length+1)*8<=140737488355328/\cG.2.2.1.length+1<=4611686018427387904)<|
 ((if decide (0<nB)=Z then(
 (ix C.c (i64.wrap (nB-1))).bind λQ6=>
 (eU gr (i64.wrap (Q6*mi))).bind λKq=>
 (eU gr (i64.wrap (jB-Kq))).bind λJP=>
 J JP)else(
 J jB):Option Int).bind λyl=>
 gd ((cG.2.2.2.2.2.2.2.2.length+1)*8<=140737488355328/\cG.2.2.2.2.2.2.2.2.length+1<=4611686018427387904)<|
 J (.go (cG.1,cG.2.1,cG.2.2.1++[od],cG.2.2.2.1,cG.2.2.2.2.1,cG.2.2.2.2.2.1,xg,DO,cG.2.2.2.2.2.2.2.2++[yl])))) (λcG=>(cG.1,cG.2.1,cG.2.2.1,cG.2.2.2.1,cG.2.2.2.2.1,cG.2.2.2.2.2.1,cG.2.2.2.2.2.2.1,cG.2.2.2.2.2.2.2.2)) perm.length 0 (A,W,[],[],[],[],[],1,[])=
  J (A,W,rg (chF gr B.H (uF gr.Q y z (eF gr.Q x perm) perm) C) n,[],[],[],rg (uF gr.Q y z (eF gr.Q x perm) perm) n,rg (dlF gr.Q (uF gr.Q y z (eF gr.Q x perm) perm) C) n):=by
 rw[hl];have hP:=k.p;have hq:=k.q;have cN:0<gr.Q/\gr.Q<=2000000000:=by omega
 generalize hu:uF gr.Q y z (eF gr.Q x perm) perm=u;have y7:∀i,E9 gr.Q (u i):=λi=>by rw[<-hu];exact f8 cN.1 _
 refine pz (λi=>(A,W,rg (chF gr B.H u C) i,[],[],[],rg u i,sB gr.Q u i,rg (dlF gr.Q u C) i)) rfl λi hi=>?_
 have hp:=eA hp (i:=i) (by omega);have hc:=eA c.c.2 (i:=i) (by have:=c.c.1;omega);have hm:=(uh (q:=gr.Q) (by omega) (zAv (by omega) u i) (y7 i)).1;refine ag (dY (by omega)) (ag (tx _ hi) (ag (kZ k _) ?_));rw[e_u cN hy hp (Ms cN.1 _ _ _) hz,show(y*(perm.getD i 0+1)+eF gr.Q x perm i-z)%gr.Q=u i by rw[<-hu];rfl];refine aG (by rw[bn];omega) (ag (a:=rg u (i+1)) (by rw[oF]) (ag (tx _ (by omega)) (ag (kZ k _) ?_)));rw[hm];refine ag (dY (by have:=c.c.1;omega)) (ag (A7 k hh _ _) (aG (by rw[bn];omega) (ay (ψ:=(· =dlF gr.Q u C i)) ?_ ?_)))
 ·refine aZ (λg=>?_) λg=>aj ?_
  ·have g:0<(i:Int):=by simpa using g
   obtain⟨j,rfl⟩:∃j,i=j+1:=⟨i-1,by omega⟩
   have hj:=eA c.c.2 (i:=j) (by have:=c.c.1;omega);rw[cM (m:=j) (by omega) (by omega)];refine ag (dY (by have:=c.c.1;omega)) (ag (kZ k _) ?_);rw[(uh (q:=gr.Q) (by omega) hj (y7 (j+1))).1];refine ag (kZ k _) (aj ?_);have hx:=f8 cN.1 (C.c.getD j 0*u (j+1));rw[aI (by have:=hc.1;have:=hx.2;omega) (by have:=hc.2;have:=hx.1;omega),zAN];rfl
  have g:¬0<(i:Int):=by simpa using g
  have e:i=0:=by omega
  subst e;show C.c.getD 0 0=(C.c.getD 0 0-0*u 0)%gr.Q;rw[Int.zero_mul,Uv,qe hc.1 hc.2]
 rintro _ rfl;refine aG (by rw[bn];omega) (aj ?_);rw[oF (chF gr B.H u C),oF (dlF gr.Q u C)];rfl
def XL{CM:Int->Int->Option Int}(hC:∀x r,CM x r=J (vc gr h x r)){w v:List Int}(hw:w.length=n)(hv:v.length=n)(hn:n<=100)(hA:A.length<=1000):aS (σ:=(List Int)) (λyH pm=>
 (ix w yH).bind λQS=>
 (ix v yH).bind λlO=>
 (CM QS lO).bind λEV=>
 gd ((pm.length+1)*8<=140737488355328/\pm.length+1<=4611686018427387904)<|
 J (.go (pm++[EV]))) (λpm=>pm) n 0 A=J (A++rg (λi=>vc gr h (w.getD i 0) (v.getD i 0)) n):=by
 refine pz (λi=>A++rg (λi=>vc gr h (w.getD i 0) (v.getD i 0)) i) (by rw[ug,rc]) λi hi=>?_
 refine ag (dY (by omega)) (ag (dY (by omega)) (ag (hC _ _) (aG (by rw[bP,bn];omega) (aj ?_))));rw[uO]
def zBH(k:ao gr)(hh:R9 h){ch:List Int}(hc:ch.length=n/\∀z∈ch,aK gr z=Z)(c:ux gr.Q n C)(hn:n<=100)(hA:A.length<=1000):aS (σ:=(List Int)) (λvr pS=>
 (ix ([gr.G]++ch) vr).bind λPb=>
 (ix C.w vr).bind λPf=>
 (ix C.s vr).bind λiw=>
 (cP gr Pb Pf).bind λPL=>
 (cP gr h iw).bind λIA=>
 (d9 gr [PL,IA]).bind λTY=>
 gd ((pS.length+1)*8<=140737488355328/\pS.length+1<=4611686018427387904)<|
 J (.go (pS++[TY]))) (λpS=>pS) n 0 A=J (A++rg (c2F gr h ch C) n):=by
 refine pz (λi=>A++rg (c2F gr h ch C) i) (by rw[ug,rc]) λi hi=>?_
 have hb:=DI k (nG k) hc.2 i (by omega);refine ag hb.1 (ag (dY (by have:=c.w.1;omega)) (ag (dY (by have:=c.s.1;omega)) (ag (fh k hb.2 _) (ag (fh k hh _) (ag (jL k (bJ k _ _) (bJ k _ _)) (aG (by rw[bP,bn];omega) (aj ?_)))))));rw[uO];rfl
def U5{q y a b:Int}(hq:q<=2000000000)(hy:E9 q y)(ha:E9 q a)(hb:E9 q b):i64.wrap (i64.wrap (y*a)+b)=y*a+b:=by
 have h1:0<=y*a:=sJ hy.1 ha.1;have h2:y*a<=2000000000*2000000000:=wg (by have:=hy.2;omega) (by have:=ha.2;omega) ha.1 (by omega);have:=hb.1;have:=hb.2;rw[aI (n:=y*a) (by omega) (by omega),aI (by omega) (by omega)]
def zAU(k:ao gr)(c:ux gr.Q n C){u d e:Nat->Int}(hu:∀i,E9 gr.Q (u i))(hd:∀i,E9 gr.Q (d i))(he:∀i,E9 gr.Q (e i))(hn:n<=100){y t:Int}(hy:E9 gr.Q y)(ht:E9 gr.Q t):aS (σ:=(List Int)×List Int×List Int×List Int×List Int) (λiY dj=>
 (ix C.w iY).bind λMZ=>
 (ix (rg u n) iY).bind λLV=>
 (eU gr (i64.wrap (MZ+(i64.wrap (t*LV))))).bind λLR=>
 gd ((dj.1.length+1)*8<=140737488355328/\dj.1.length+1<=4611686018427387904)<|
 (ix C.v iY).bind λN3=>
 (ix C.a iY).bind λNJ=>
 (ix C.b iY).bind λE6=>
 (eU gr (i64.wrap ((i64.wrap (y*NJ))+E6))).bind λL2=>
 (eU gr (i64.wrap (N3+(i64.wrap (t*L2))))).bind λOn=>
 gd ((dj.2.1.length+1)*8<=140737488355328/\dj.2.1.length+1<=4611686018427387904)<|
 (ix C.s iY).bind λMR=>
 (ix (rg d n) iY).bind λNF=>
 (eU gr (i64.wrap (MR+(i64.wrap (t*NF))))).bind λOm=>
 gd ((dj.2.2.1.length+1)*8<=140737488355328/\dj.2.2.1.length+1<=4611686018427387904)<|
 (ix C.k iY).bind λNV=>
 (ix (rg e n) iY).bind λCx=>
 (eU gr (i64.wrap (NV+(i64.wrap (t*Cx))))).bind λLj=>
 gd ((dj.2.2.2.1.length+1)*8<=140737488355328/\dj.2.2.2.1.length+1<=4611686018427387904)<|
 (ix C.m iY).bind λTX=>
 (eU gr (i64.wrap (TX+(i64.wrap (t*E6))))).bind λSw=>
 gd ((dj.2.2.2.2.length+1)*8<=140737488355328/\dj.2.2.2.2.length+1<=4611686018427387904)<|
 J (.go (dj.1++[LR],dj.2.1++[On],dj.2.2.1++[Om],dj.2.2.2.1++[Lj],dj.2.2.2.2++[Sw]))) (λdj=>(dj.1,dj.2.1,dj.2.2.1,dj.2.2.2.1,dj.2.2.2.2)) n 0 ([],[],[],[],[])=
  J (rg (rF gr.Q t C.w u) n,rg (rF gr.Q t C.v (abF gr.Q y C)) n,rg (rF gr.Q t C.s d) n,rg (rF gr.Q t C.k e) n,rg (rF gr.Q t C.m (λi=>C.b.getD i 0)) n):=by
 have hP:=k.p;have hq:=k.q;refine pz (λi=>(rg (rF gr.Q t C.w u) i,rg (rF gr.Q t C.v (abF gr.Q y C)) i,rg (rF gr.Q t C.s d) i,rg (rF gr.Q t C.k e) i,rg (rF gr.Q t C.m (λi=>C.b.getD i 0)) i)) rfl λi hi=>?_
 have BZ:∀{l:List Int},l.length=n->ix l (i:Int)=J (l.getD i 0):=λh=>dY (by omega)
 have g2:∀{l:List Int},(l.length=n/\∀z∈l,E9 gr.Q z)->E9 gr.Q (l.getD i 0):=λh=>eA h.2 (by omega)
 refine ag (BZ c.w.1) (ag (tx _ hi) (ag (kZ k _) (aG (by rw[bn];omega) (ag (BZ c.v.1) (ag (BZ c.a.1) (ag (BZ c.b.1) (ag (kZ k _) ?_)))))));rw[U5 (q:=gr.Q) (by omega) hy (g2 c.a) (g2 c.b),(iG (q:=gr.Q) (by omega) (g2 c.w) ht (hu i)).1];refine ag (kZ k _) (aG (by rw[bn];omega) (ag (BZ c.s.1) (ag (tx _ hi) (ag (kZ k _) (aG (by rw[bn];omega) (ag (BZ c.k.1) (ag (tx _ hi) (ag (kZ k _) (aG (by rw[bn];omega) (ag (BZ c.m.1) (ag (kZ k _) (aG (by rw[bn];omega) (aj ?_)))))))))))));rw[(iG (q:=gr.Q) (by omega) (g2 c.v) ht (f8 (by omega) _)).1,(iG (q:=gr.Q) (by omega) (g2 c.s) ht (hd i)).1,(iG (q:=gr.Q) (by omega) (g2 c.k) ht (he i)).1,(iG (q:=gr.Q) (by omega) (g2 c.m) ht (g2 c.b)).1];show _=fe.go _;simp only[oF];rfl
end
section
attribute [local irreducible] chG zaR zdT zaO
def gv(gr:am)(h:Int)(perm:List Int)(C:Pc)(n:Nat):List Int:=rg (plF gr h perm C) n
def mY(gr:am)(key h:Int)(l:List an)(perm rs:List Int)(C:Pc):Int:=chG gr sX (zdT key l (zaR gr key l perm rs) (gv gr h perm C l.length))
def jK(gr:am)(key h:Int)(l:List an)(perm rs:List Int)(C:Pc):Nat->Int:=eF gr.Q (mY gr key h l perm rs C) perm
def ki(gr:am)(key h:Int)(l:List an)(perm rs:List Int)(C:Pc):List Int:=rg (pwF gr h (jK gr key h l perm rs C) C) l.length
def oL(gr:am)(key h:Int)(l:List an)(perm rs:List Int)(C:Pc):List Int:=zdT key l (zaR gr key l perm rs) (gv gr h perm C l.length++ki gr key h l perm rs C)
def qo(gr:am)(key h:Int)(l:List an)(perm rs:List Int)(C:Pc):Int:=chG gr sY (oL gr key h l perm rs C)
def tW(gr:am)(key h:Int)(l:List an)(perm rs:List Int)(C:Pc):Int:=chG gr sZ (oL gr key h l perm rs C)
def lQ(gr:am)(key h:Int)(l:List an)(perm rs:List Int)(C:Pc):Nat->Int:=uF gr.Q (qo gr key h l perm rs C) (tW gr key h l perm rs C) (jK gr key h l perm rs C) perm
def jC(gr:am)(key h:Int)(l:List an)(perm rs:List Int)(C:Pc):List Int:=rg (chF gr h (lQ gr key h l perm rs C) C) l.length
def oR(gr:am)(key h:Int)(out:List an)(ch:List Int)(C:Pc)(n:Nat):List Int:=(rg (Lt gr h C) n++rg (c2F gr h ch C) n++[av gr h C.g])++rg (ZO gr h C) n++[aP gr [av gr gr.G (i64.wrap (0-C.f)),zaO gr (sdV out).1 C.k 1],aP gr [av gr key (i64.wrap (0-C.f)),zaO gr (sdV out).2 C.k 1]]
def gF(gr:am)(key h:Int)(l:List an)(perm rs:List Int)(C:Pc):List Int:=oR gr key h (zaR gr key l perm rs) (jC gr key h l perm rs C) C l.length
def kf(gr:am)(key h:Int)(l:List an)(perm rs:List Int)(C:Pc):Int:=chG gr sE (oL gr key h l perm rs C++jC gr key h l perm rs C++gF gr key h l perm rs C)
def MY(q y t:Int)(u e:Nat->Int)(rs:List Int)(C:Pc)(n:Nat):List Int:=rg (rF q t C.w u) n++(rg (rF q t C.v (abF q y C)) n++(rg (rF q t C.s (dlF q u C)) n++([(C.g+t*C.c.getD (n-1) 0)%q]++(rg (rF q t C.k e) n++(rg (rF q t C.m (λi=>C.b.getD i 0)) n++[(C.f+t*dtN q rs (rg e n) n)%q])))))
def i9(gr:am)(key h:Int)(l:List an)(perm rs:List Int)(C:Pc):cn:=
 ⟨gv gr h perm C l.length,ki gr key h l perm rs C,jC gr key h l perm rs C,⟨gF gr key h l perm rs C,[kf gr key h l perm rs C],MY gr.Q (qo gr key h l perm rs C) (kf gr key h l perm rs C) (lQ gr key h l perm rs C) (jK gr key h l perm rs C) rs C l.length⟩⟩
structure gQ (gr:am) (key h:Int) (l:List an) (perm rs:List Int) (C:Pc):Prop where
 m:mQ gr key l perm rs
 hh:aK gr h=Z
 c:ux gr.Q l.length C
section
variable {gr:am}{key h:Int}{l:List an}{perm rs:List Int}{C:Pc}
variable{L:List Int}
def gQ.pr(P:gQ gr key h l perm rs C):∀z∈perm,0<=z/\z<=1000:=λz hz=>by have:=P.m.pr z hz;have:=P.m.n;omega
def QU(k:ao gr)(P:gQ gr key h l perm rs C):∀z∈gv gr h perm C l.length,aK gr z=Z:=nk λi hi=>IH k P.hh _ _
def Yr(k:ao gr)(P:gQ gr key h l perm rs C):∀z∈ki gr key h l perm rs C,aK gr z=Z:=nk λi hi=>IH k P.hh _ _
def IL(k:ao gr)(P:gQ gr key h l perm rs C):(jC gr key h l perm rs C).length=l.length/\∀z∈jC gr key h l perm rs C,aK gr z=Z:=⟨bn _ _,nk λi hi=>IH k P.hh _ _⟩
def jp{P:Int->Prop}{l m:List Int}(h1:∀x∈l,P x)(h2:∀x∈m,P x):∀x∈l++m,P x:=λx hx=>(jY.1 hx).elim (h1 x) (h2 x)
def DB(k:ao gr)(P:gQ gr key h l perm rs C):(gF gr key h l perm rs C).length=3*l.length+3/\∀z∈gF gr key h l perm rs C,R9 z:=by
 have v2:∀i,R9 (c2F gr h (jC gr key h l perm rs C) C i):=λi=>nC k (bJ k _ _) (bJ k _ _)
 refine⟨by unfold gF oR;simp[bn];omega,?_⟩;unfold gF oR;refine jp (jp (jp (jp (nk λi _=>Wz k _ _ _) (nk λi _=>v2 i)) ?_) (nk λi _=>Wz k _ _ _)) ?_
 ·intro x hx;rw[gB]at hx;rw[hx];exact bJ k _ _
 intro x hx;simp only[fK,jf,jg]at hx;rcases hx with rfl|rfl<;>exact nC k (bJ k _ _) (fC k _ _)
def MB(k:ao gr)(P:gQ gr key h l perm rs C):(oL gr key h l perm rs C).length=1+6*l.length/\(oL gr key h l perm rs C).all cD=Z:=by
 have dM:=P.m.pl;refine⟨by unfold oL;rw[Fp,kv,bP,gv,ki,bn,bn];omega,?_⟩;unfold oL;exact Fe k P.m.key P.m.c (vx k P.m) (oH k (bm.2 (jp (QU k P) (Yr k P))))
def KI(k:ao gr)(P:gQ gr key h l perm rs C):(zdT key l (zaR gr key l perm rs) (gv gr h perm C l.length)).length=1+5*l.length/\(zdT key l (zaR gr key l perm rs) (gv gr h perm C l.length)).all cD=Z:=by
 have dM:=P.m.pl;exact⟨by rw[Fp,kv,gv,bn];omega,Fe k P.m.key P.m.c (vx k P.m) (oH k (bm.2 (QU k P)))⟩
def Y0(k:ao gr)(P:gQ gr key h l perm rs C):(oL gr key h l perm rs C++jC gr key h l perm rs C++gF gr key h l perm rs C).length=4+10*l.length/\(oL gr key h l perm rs C++jC gr key h l perm rs C++gF gr key h l perm rs C).all cD=Z:=by
 have h1:=MB k P;have h2:=IL k P;have h3:=DB k P;refine⟨by rw[bP,bP,h1.1,h2.1,h3.1];omega,?_⟩;rw[kq,kq,h1.2,oH k (bm.2 h2.2),ZK h3.2];rfl
def pd(k:ao gr){s:ByteArray}(hs:s.size<=40)(hl:L.length<=300)(hd:L.all cD=Z):mt gr s L=J (chG gr s L,Z)/\pY gr s L=J (chG gr s L):=by
 refine⟨?_,Lw k (by omega) (by omega) hd⟩;rw[L1 k _ (by omega),aB (LW k hs (by omega) hd)]
def Zz(h:L.length<=1000):vj L=J L:=eE (by omega)
def WT(k:ao gr)(hl:L.length<=300)(hd:L.all cD=Z):Bx gr L=J (chG gr sY L,chG gr sZ L,Z):=by
 unfold Bx;exact bE (ag (pd k (by decide) hl hd).1 (ag (pd k (by decide) hl hd).1 (ay (ψ:=(· =aa)) (bt rfl (aj rfl)) λb hb=>by subst hb;exact bt rfl (aj rfl))))
def Pc.cs(C:Pc):List Int:=C.a++(C.b++(C.c++(C.w++(C.v++(C.s++(C.g::(C.k++(C.m++[C.f]))))))))
attribute [local irreducible] rg plF pwF chF uF dlF c2F rF abF eF dtN sdV vc
set_option maxHeartbeats 4000000 in
def zAn(k:ao gr){B:ct}(P:gQ gr key B.H l perm rs C):FX gr B key l perm rs C.cs=J (i9 gr key B.H l perm rs C,Z):=by
 have hp:=k.p;have hq:=k.q;have cN:0<gr.Q/\gr.Q<=2000000000:=by omega
 have hn:=P.m.n;have dM:=P.m.pl;have fm:=P.m.rl;have hk:=dV k P.m.key;have hH:=dV k P.hh;have kA:(zaR gr key l perm rs).length=l.length:=by rw[kv,P.m.pl]
 have gf:=rm k (vx k P.m);have e8:=mF (zaR gr key l perm rs);rw[kA]at e8;have hx:E9 gr.Q (mY gr key B.H l perm rs C):=me k _ _;have hy:E9 gr.Q (qo gr key B.H l perm rs C):=me k _ _;have hz:E9 gr.Q (tW gr key B.H l perm rs C):=me k _ _;have ht:E9 gr.Q (kf gr key B.H l perm rs C):=me k _ _;have a1:=KI k P;have a2:=MB k P;have a3:=Y0 k P;have a4:=DB k P;have a5:=IL k P;have ee:∀i,E9 gr.Q (jK gr key B.H l perm rs C i):=λi=>Ms cN.1 _ _ _
 have ue:∀i,E9 gr.Q (lQ gr key B.H l perm rs C i):=λi=>by unfold lQ uF;exact f8 cN.1 _
 have de:∀i,E9 gr.Q (dlF gr.Q (lQ gr key B.H l perm rs C) C i):=λi=>by unfold dlF;exact f8 cN.1 _
 have lP:(gv gr B.H perm C l.length).length=l.length:=bn _ _;have lW:(ki gr key B.H l perm rs C).length=l.length:=bn _ _;have c1:=O5 k P.m;have c2:=zH0 (B:=B) k hH P.pr dM P.c.a.1 (by omega);have c3:=Gn (key:=key) (l:=l) (out:=zaR gr key l perm rs) (m:=gv gr B.H perm C l.length) (by omega) (by omega) (by omega);have c4:=(pd k (s:=sX) (by decide) (by omega) a1.2).1;have c5:=zBX (B:=B) (A:=gv gr B.H perm C l.length) k hH P.pr dM P.c.b.1 (by omega) hx;have c6:=Gn (key:=key) (l:=l) (out:=zaR gr key l perm rs) (m:=gv gr B.H perm C l.length++ki gr key B.H l perm rs C) (by omega) (by omega) (by rw[bP];omega);have c7:=WT k (L:=oL gr key B.H l perm rs C) (by omega) a2.2;have c8:=zA1 (B:=B) (A:=gv gr B.H perm C l.length) (W:=ki gr key B.H l perm rs C) k hH P.pr dM P.c (by omega) (x:=mY gr key B.H l perm rs C) hy hz;have c9:=(XL (A:=[]) (A7 (B:=B) k hH) P.c.w.1 P.c.v.1 (by omega) (by simp)).trans (show _=J (rg (Lt gr B.H C) l.length)from by rw[mL];rfl);have yo:=λA hA=>zBH (A:=A) k hH a5 P.c (by omega) hA
 have sA:=λA hA=>XL (A:=A) (A7 (B:=B) k hH) P.c.k.1 P.c.m.1 (by omega) hA
 have To:=(rO (l:=zaR gr key l perm rs) (by omega)).1;have Qw:=oV (m:=C.k) k gf.1 (by have:=P.c.k.1;omega);have TN:=oV (m:=C.k) k gf.2 (by have:=P.c.k.1;omega)
 have c15:pj [oL gr key B.H l perm rs C,jC gr key B.H l perm rs C,gF gr key B.H l perm rs C]=J (oL gr key B.H l perm rs C++jC gr key B.H l perm rs C++gF gr key B.H l perm rs C):=by
  have e:[oL gr key B.H l perm rs C,jC gr key B.H l perm rs C,gF gr key B.H l perm rs C].flatten=oL gr key B.H l perm rs C++jC gr key B.H l perm rs C++gF gr key B.H l perm rs C:=by simp
  rw[En _ (by rw[e,a3.1];omega),e]
 have Qe:=(pd k (s:=sE) (by decide) (by omega) a3.2).1;have c17:=zAU k P.c ue de ee (by omega) hy ht;have lE:(rg (jK gr key B.H l perm rs C) l.length).length=l.length:=bn _ _;have RE:=((PI cN (l:=rs) (m:=rg (jK gr key B.H l perm rs C) l.length) (zD P.m.re) (nk λi _=>ee i) (by omega)).trans (by rw[fm]):t9 rs (rg (jK gr key B.H l perm rs C) l.length) gr.Q=J (dtN gr.Q rs (rg (jK gr key B.H l perm rs C) l.length) l.length))
 have Rd:=AG cN.1 rs (rg (jK gr key B.H l perm rs C) l.length) l.length;have gP:ix C.c ((l.length-1:Nat):Int)=J (C.c.getD (l.length-1) 0):=dY (by have:=P.c.c.1;omega);have QL:E9 gr.Q (C.c.getD (l.length-1) 0):=eA P.c.c.2 (by have:=P.c.c.1;omega);have x1:=(kZ k _).trans (gn (λv=>J (v%gr.Q)) (iG (by omega) P.c.g ht QL).1);have x2:=(kZ k _).trans (gn (λv=>J (v%gr.Q)) (iG (by omega) P.c.f ht Rd).1);have w1:i64.wrap ((l.length:Int)-1)=((l.length-1:Nat):Int):=cM (by omega) (by omega);unfold FX Pc.cs;refine bE (ag (ma P.c.a.1) (ag (ma P.c.b.1) (ag (ma P.c.c.1) (ag (ma P.c.w.1) (ag (ma P.c.v.1) (ag (ma P.c.s.1) (ag (zg _ _) (ag (ma P.c.k.1) (ag (ma P.c.m.1) (ag (zg _ _) ?_))))))))));dsimp only;refine ag c1 (ag c2 (ag c3 (ag c4 (ag c5 ?_))));dsimp only;refine ag (Zz (by show(gv gr B.H perm C l.length).length<=_;omega)) (aG (by rw[lP,bn];omega) (ag c6 (ag c7 (ag c8 ?_))));dsimp only;refine aG (by rw[bn];simp;omega) (ag rfl (ag c9 (ag (yo _ ?_) (ag (fh k hH _) (aG ?_ (ag (sA _ ?_) (ag To ?_)))))))
 ·rw[bn];omega
 ·simp only[bP,bn];omega
 ·simp only[bP,bn,dX,ia];omega
 refine ag (fh k (fG k) _) (ag Qw (ag (jL k (bJ k _ _) (fC k _ _)) (ag (fh k hk _) (ag TN (ag (jL k (bJ k _ _) (fC k _ _)) (aG ?_ (ag c15 (ag Qe (ay (ψ:=(· =aa)) (bt rfl (bt rfl (aj rfl))) ?_)))))))))
 ·simp only[bP,bn,dX,ia];omega
 rintro _ rfl;refine bt rfl (ag c17 ?_);rw[w1];refine ag gP (ag x1 (ag RE (ag x2 (ag (En _ ?_) (aj ?_)))))
 ·simp[bn];omega
 unfold i9 MY;simp only[Gt,List.flatten_nil,rc];rfl
end
end
section
variable {gr:am}{h:Int}{perm:List Int}{C:Pc}{n:Nat}
variable{A W:List Int}
def zH6(k:ao gr)(hp:∀x∈perm,0<=x/\x<=1000)(hl:perm.length=n)(hn:n<=100){x:Int}(hx:E9 gr.Q x):Jn gr perm x=J (rg (eF gr.Q x perm) n):=by
 unfold Jn;rw[hl];refine bE (ag (pz (λi=>rg (eF gr.Q x perm) i) rfl λi hi=>?_) (aj rfl));have hp:=eA hp (i:=i) (by omega);refine ag (dY (by omega)) (ag (RU k hx hp).2 (aG (by rw[bn];omega) (aj ?_)));rw[oF];rfl
def zzh(k:ao gr)(hh:R9 h)(hb:C.b.length=n)(hn:n<=100){e:Nat->Int}:aS (σ:=(List Int)×List Int×List Int×List Int×List Int×List Int) (λfQ bV=>
 (ix (rg e n) fQ).bind λiv=>
 (ix C.b fQ).bind λke=>
 (nO gr h iv ke).bind λeY=>
 gd ((bV.2.1.length+1)*8<=140737488355328/\bV.2.1.length+1<=4611686018427387904)<|
 J (.go (bV.1,bV.2.1++[eY],bV.2.2.1,bV.2.2.2.1,bV.2.2.2.2.1,bV.2.2.2.2.2))) (λbV=>(bV.1,bV.2.1,bV.2.2.1,bV.2.2.2.1,bV.2.2.2.2.1,bV.2.2.2.2.2)) n 0 (A,[],[],[],[],[])=J (A,rg (pwF gr h e C) n,[],[],[],[]):=by
 refine pz (λi=>(A,rg (pwF gr h e C) i,[],[],[],[])) rfl λi hi=>?_
 refine ag (tx _ hi) (ag (dY (by omega)) (ag (Fk k hh _ _) (aG (by rw[bn];omega) (aj ?_))));rw[oF];rfl
def zy9(k:ao gr)(hh:R9 h)(hp:∀x∈perm,0<=x/\x<=1000)(hl:perm.length=n)(c:ux gr.Q n C)(hn:n<=100){x y z:Int}(hy:E9 gr.Q y)(hz:E9 gr.Q z) :aS (σ:=(List Int)×List Int×List Int×List Int×List Int×List Int×List Int×List Int×Int×Int) (λua cB=>
 (ix perm ua).bind λn7=>
 gd (gr.Q≠0)<|
 (ix (rg (eF gr.Q x perm) n) ua).bind λN8=>
 (qk (i64.wrap ((i64.wrap ((i64.wrap (y*((i64.wrap (n7+1)).tmod gr.Q)))+N8))-z)) gr.Q).bind λsn=>
 gd ((cB.2.2.2.2.2.2.1.length+1)*8<=140737488355328/\cB.2.2.2.2.2.2.1.length+1<=4611686018427387904)<|
 gd (gr.Q≠0)<|
 (ix C.c ua).bind λqS=>
 (nO gr h ((i64.wrap (cB.2.2.2.2.2.2.2.2.1*sn)).tmod gr.Q) qS).bind λA4=>
 gd ((cB.2.2.1.length+1)*8<=140737488355328/\cB.2.2.1.length+1<=4611686018427387904)<|
 (qk (i64.wrap (qS-(i64.wrap (cB.2.2.2.2.2.2.2.2.2*sn)))) gr.Q).bind λBE=>
 gd ((cB.2.2.2.2.2.2.2.1.length+1)*8<=140737488355328/\cB.2.2.2.2.2.2.2.1.length+1<=4611686018427387904)<|
 J (.go (cB.1,cB.2.1,cB.2.2.1++[A4],cB.2.2.2.1,cB.2.2.2.2.1,cB.2.2.2.2.2.1,cB.2.2.2.2.2.2.1++[sn],cB.2.2.2.2.2.2.2.1++[BE],(i64.wrap (cB.2.2.2.2.2.2.2.2.1*sn)).tmod gr.Q,qS))) (λcB=>(cB.1,cB.2.1,cB.2.2.1,cB.2.2.2.1,cB.2.2.2.2.1,cB.2.2.2.2.2.1,cB.2.2.2.2.2.2.1,cB.2.2.2.2.2.2.2.1)) perm.length 0 (A,W,[],[],[],[],[],[],1,0)=
  J (A,W,rg (chF gr h (uF gr.Q y z (eF gr.Q x perm) perm) C) n,[],[],[],rg (uF gr.Q y z (eF gr.Q x perm) perm) n,rg (dlF gr.Q (uF gr.Q y z (eF gr.Q x perm) perm) C) n):=by
 rw[hl];have hP:=k.p;have hq:=k.q;have cN:0<gr.Q/\gr.Q<=2000000000:=by omega
 have hQ:gr.Q≠0:=by omega
 generalize hu:uF gr.Q y z (eF gr.Q x perm) perm=u;have y7:∀i,E9 gr.Q (u i):=λi=>by rw[<-hu];exact f8 cN.1 _
 refine pz (λi=>(A,W,rg (chF gr h u C) i,[],[],[],rg u i,rg (dlF gr.Q u C) i,sB gr.Q u i,AS C i)) rfl λi hi=>?_
 have hp:=eA hp (i:=i) (by omega);have hc:=eA c.c.2 (i:=i) (by have:=c.c.1;omega);have hm:=(uh (q:=gr.Q) (by omega) (zAv (by omega) u i) (y7 i)).2;have hls:=(uh (q:=gr.Q) (by omega) (Z8 cN.1 c (i:=i) (by omega)) (y7 i)).1
 have xP:0<=AS C i*u i/\AS C i*u i<=2000000000*2000000000:=by
  have a:=Z8 cN.1 c (i:=i) (by omega);have b:=y7 i;exact⟨sJ a.1 b.1,wg (by have:=a.2;omega) (by have:=b.2;omega) b.1 (by omega)⟩
 refine ag (dY (by omega)) (aG hQ (ag (tx _ hi) (ag (BQ (by omega) (by omega)) ?_)));rw[zJO cN hy hp (Ms cN.1 _ _ _) hz,show(y*(perm.getD i 0+1)+eF gr.Q x perm i-z)%gr.Q=u i by rw[<-hu];rfl];refine aG (by rw[bn];omega) (aG hQ (ag (dY (by have:=c.c.1;omega)) ?_));dsimp only;rw[hm,hls,aI (n:=C.c.getD i 0-AS C i*u i) (by have:=hc.1;omega) (by have:=hc.2;omega)];refine ag (Fk k hh _ _) (aG (by rw[bn];omega) (ag (BQ (by omega) (by omega)) (aG (by rw[bn];omega) (aj ?_))));simp only[oF];rfl
def WE(k:ao gr)(hh:R9 h){w v:List Int}(hw:w.length=n)(hv:v.length=n)(hn:n<=100){H D:List Int}{X Y:List Int}(hD:D.length<=1000):aS (σ:=(List Int)×List Int×List Int×List Int×List Int×List Int) (λAh dL=>
 (ix w Ah).bind λiS=>
 (ix v Ah).bind λjB=>
 (nO gr h iS jB).bind λod=>
 gd ((dL.2.2.2.1.length+1)*8<=140737488355328/\dL.2.2.2.1.length+1<=4611686018427387904)<|
 J (.go (dL.1,dL.2.1,dL.2.2.1,dL.2.2.2.1++[od],dL.2.2.2.2.1,dL.2.2.2.2.2))) (λdL=>(dL.1,dL.2.1,dL.2.2.1,dL.2.2.2.1,dL.2.2.2.2.1,dL.2.2.2.2.2)) n 0 (A,W,H,D,X,Y)=J (A,W,H,D++rg (λi=>vc gr h (w.getD i 0) (v.getD i 0)) n,X,Y):=by
 refine pz (λi=>(A,W,H,D++rg (λi=>vc gr h (w.getD i 0) (v.getD i 0)) i,X,Y)) (by rw[ug,rc]) λi hi=>?_
 refine ag (dY (by omega)) (ag (dY (by omega)) (ag (Fk k hh _ _) (aG (by dsimp only;rw[bP,bn];omega) (aj ?_))));rw[uO]
def zzB(k:ao gr)(hh:R9 h){ch:List Int}(hc:ch.length=n/\∀z∈ch,aK gr z=Z)(c:ux gr.Q n C)(hn:n<=100){D X Y:List Int}(hD:D.length<=1000):aS (σ:=(List Int)×List Int×List Int×List Int×List Int×List Int×Int) (λuW dm=>
 (ix C.w uW).bind λNT=>
 (ix C.s uW).bind λNs=>
 (cC gr dm.2.2.2.2.2.2 NT).bind λMp=>
 (cC gr h Ns).bind λN6=>
 (ej gr [Mp,N6]).bind λHc=>
 gd ((dm.2.2.2.1.length+1)*8<=140737488355328/\dm.2.2.2.1.length+1<=4611686018427387904)<|
 (ix dm.2.2.1 uW).bind λJZ=>
 J (.go (dm.1,dm.2.1,dm.2.2.1,dm.2.2.2.1++[Hc],dm.2.2.2.2.1,dm.2.2.2.2.2.1,JZ))) (λdm=>(dm.1,dm.2.1,dm.2.2.1,dm.2.2.2.1,dm.2.2.2.2.1,dm.2.2.2.2.2.1)) n 0 (A,W,ch,D,X,Y,gr.G)=J (A,W,ch,D++rg (c2F gr h ch C) n,X,Y):=by
 refine pz (λi=>(A,W,ch,D++rg (c2F gr h ch C) i,X,Y,bef gr.G ch i)) (by rw[ug,rc];rfl) λi hi=>?_
 have hb:=DI k (nG k) hc.2 i (by omega);refine ag (dY (by have:=c.w.1;omega)) (ag (dY (by have:=c.s.1;omega)) (ag (fb k hb.2 _) (ag (fb k hh _) (ag (iK k (bJ k _ _) (bJ k _ _)) (aG (by dsimp only;rw[bP,bn];omega) (ag (dY (by have:=hc.1;dsimp only;omega)) (aj ?_)))))));have e:ch.getD i 0=bef gr.G ch (i+1):=by unfold bef;simp
 rw[uO,e];rfl
def Np(k:ao gr){w:List Int}(hw:w.length=n/\∀z∈w,E9 gr.Q z){L:List Int}{u:Nat->Int}(hu:∀i,i<n->ix L (i:Int)=J (u i)/\E9 gr.Q (u i))(hn:n<=100){t:Int}(ht:E9 gr.Q t)(hA:A.length<=1000):aS (σ:=(List Int)) (λzJ oT=>
 (ix w zJ).bind λJk=>
 (ix L zJ).bind λIs=>
 gd (gr.Q≠0)<|
 gd ((oT.length+1)*8<=140737488355328/\oT.length+1<=4611686018427387904)<|
 J (.go (oT++[(i64.wrap (Jk+(i64.wrap (t*Is)))).tmod gr.Q]))) (λoT=>oT) n 0 A=J (A++rg (rF gr.Q t w u) n):=by
 have hP:=k.p;have hq:=k.q;refine pz (λi=>A++rg (rF gr.Q t w u) i) (by rw[ug,rc]) λi hi=>?_
 refine ag (dY (by omega)) (ag (hu i hi).1 (aG (by omega) (aG (by rw[bP,bn];omega) (aj ?_))));rw[(iG (q:=gr.Q) (by omega) (eA hw.2 (by omega)) ht (hu i hi).2).2,uO];rfl
def zzb(k:ao gr)(c:ux gr.Q n C)(hn:n<=100){y t:Int}(hy:E9 gr.Q y)(ht:E9 gr.Q t)(hA:A.length<=1000):aS (σ:=(List Int)) (λvi oE=>
 (ix C.v vi).bind λJI=>
 (ix C.a vi).bind λJw=>
 (ix C.b vi).bind λKd=>
 gd (gr.Q≠0)<|
 gd (gr.Q≠0)<|
 gd ((oE.length+1)*8<=140737488355328/\oE.length+1<=4611686018427387904)<|
 J (.go (oE++[(i64.wrap (JI+(i64.wrap (t*((i64.wrap ((i64.wrap (y*Jw))+Kd)).tmod gr.Q))))).tmod gr.Q]))) (λoE=>oE) n 0 A=J (A++rg (rF gr.Q t C.v (abF gr.Q y C)) n):=by
 have hP:=k.p;have hq:=k.q;refine pz (λi=>A++rg (rF gr.Q t C.v (abF gr.Q y C)) i) (by rw[ug,rc]) λi hi=>?_
 have g2:∀{l:List Int},(l.length=n/\∀z∈l,E9 gr.Q z)->E9 gr.Q (l.getD i 0):=λh=>eA h.2 (by omega)
 refine ag (dY (by have:=c.v.1;omega)) (ag (dY (by have:=c.a.1;omega)) (ag (dY (by have:=c.b.1;omega)) (aG (by omega) (aG (by omega) (aG (by rw[bP,bn];omega) (aj ?_))))));have e0:(y*C.a.getD i 0+C.b.getD i 0).tmod gr.Q=(y*C.a.getD i 0+C.b.getD i 0)%gr.Q:=je (by have:=sJ hy.1 (g2 c.a).1;have:=(g2 c.b).1;omega);rw[U5 (q:=gr.Q) (by omega) hy (g2 c.a) (g2 c.b),e0,(iG (q:=gr.Q) (by omega) (g2 c.v) ht (f8 (by omega) _)).2,uO];rfl
end
def xc{α:Type}{A X R L:List α}{p q:Nat}(e:L=A++(X++R))(h1:A.length=p)(h2:p+X.length=q):(L.take q).drop p=X:=by
 rw[e,<-gU,AaK (by simp;omega),OI h1]
def Ll(key:Int)(l out:List an)(m w:List Int):zdT key l out m++w=zdT key l out (m++w):=by simp[zdT]
def zFX{q:Int}{n:Nat}{C:Pc}(c:ux q n C):C.cs.length=8*n+2/\(C.cs.take n).drop 0=C.a/\(C.cs.take (2*n)).drop n=C.b/\(C.cs.take (3*n)).drop (2*n)=C.c/\(C.cs.take (4*n)).drop (3*n)=C.w/\(C.cs.take (5*n)).drop (4*n)=C.v/\(C.cs.take (6*n)).drop (5*n)=C.s/\(C.cs.take (7*n+1)).drop (6*n+1)=C.k/\(C.cs.take (8*n+1)).drop (7*n+1)=C.m/\ix C.cs ((6*n:Nat):Int)=J C.g/\ix C.cs ((8*n+1:Nat):Int)=J C.f:=by
 have lA:=c.a.1;have lB:=c.b.1;have lC:=c.c.1;have lW:=c.w.1;have lV:=c.v.1;have lS:=c.s.1;have lK:=c.k.1;have lM:=c.m.1;refine⟨by simp[Pc.cs];omega,?_,?_,?_,?_,?_,?_,?_,?_,?_,?_⟩
 ·exact xc (A:=[]) (R:=(C.b++(C.c++(C.w++(C.v++(C.s++(C.g::(C.k++(C.m++[C.f]))))))))) (by simp[Pc.cs]) rfl (by omega)
 ·exact xc (A:=C.a) (R:=(C.c++(C.w++(C.v++(C.s++(C.g::(C.k++(C.m++[C.f])))))))) (by simp[Pc.cs]) lA (by omega)
 ·exact xc (A:=(C.a++C.b)) (R:=(C.w++(C.v++(C.s++(C.g::(C.k++(C.m++[C.f]))))))) (by simp[Pc.cs]) (by simp;omega) (by omega)
 ·exact xc (A:=(C.a++(C.b++C.c))) (R:=(C.v++(C.s++(C.g::(C.k++(C.m++[C.f])))))) (by simp[Pc.cs]) (by simp;omega) (by omega)
 ·exact xc (A:=(C.a++(C.b++(C.c++C.w)))) (R:=(C.s++(C.g::(C.k++(C.m++[C.f]))))) (by simp[Pc.cs]) (by simp;omega) (by omega)
 ·exact xc (A:=(C.a++(C.b++(C.c++(C.w++C.v))))) (R:=(C.g::(C.k++(C.m++[C.f])))) (by simp[Pc.cs]) (by simp;omega) (by omega)
 ·exact xc (A:=(C.a++(C.b++(C.c++(C.w++(C.v++(C.s++[C.g]))))))) (R:=(C.m++[C.f])) (by simp[Pc.cs]) (by simp;omega) (by omega)
 ·exact xc (A:=(C.a++(C.b++(C.c++(C.w++(C.v++(C.s++([C.g]++C.k)))))))) (R:=[C.f]) (by simp[Pc.cs]) (by simp;omega) (by omega)
 ·have e:C.cs=(C.a++(C.b++(C.c++(C.w++(C.v++C.s)))))++(C.g::(C.k++(C.m++[C.f]))):=by simp[Pc.cs]
  have h0:(C.a++(C.b++(C.c++(C.w++(C.v++C.s))))).length=6*n:=by simp;omega
  exact J7 (by rw[e,fT (by omega),h0,Nat.sub_self];rfl)
 have e:C.cs=(C.a++(C.b++(C.c++(C.w++(C.v++(C.s++([C.g]++(C.k++C.m))))))))++[C.f]:=by simp[Pc.cs]
 have h0:(C.a++(C.b++(C.c++(C.w++(C.v++(C.s++([C.g]++(C.k++C.m)))))))).length=8*n+1:=by simp;omega
 exact J7 (by rw[e,fT (by omega),h0,Nat.sub_self];rfl)
section
attribute [local irreducible] chG zaR zdT zaO
section
variable {gr:am}{key h:Int}{l:List an}{perm rs:List Int}{C:Pc}
def zGP(k:ao gr)(P:gQ gr key h l perm rs C):AU gr key l (zaR gr key l perm rs) (gv gr h perm C l.length) (ki gr key h l perm rs C)=J (qo gr key h l perm rs C,tW gr key h l perm rs C):=by
 have hn:=P.m.n;have kA:(zaR gr key l perm rs).length=l.length:=by rw[kv,P.m.pl]
 have lP:(gv gr h perm C l.length).length=l.length:=bn _ _;have lW:(ki gr key h l perm rs C).length=l.length:=bn _ _;have a1:=KI k P;have a2:=MB k P;unfold AU;refine bE (ag (yG (by omega) (by omega) (by omega)) (aG (by omega) ?_));rw[Ll];exact ag (pd k (s:=sY) (by decide) (by have:=a2.1;omega) a2.2).2 (ag (pd k (s:=sZ) (by decide) (by have:=a2.1;omega) a2.2).2 (aj rfl))
def zGT(k:ao gr)(P:gQ gr key h l perm rs C){x y:List Int}:AE gr key l (zaR gr key l perm rs) ⟨gv gr h perm C l.length,ki gr key h l perm rs C,jC gr key h l perm rs C,⟨gF gr key h l perm rs C,x,y⟩⟩=J (kf gr key h l perm rs C):=by
 have hn:=P.m.n;have kA:(zaR gr key l perm rs).length=l.length:=by rw[kv,P.m.pl]
 have lP:(gv gr h perm C l.length).length=l.length:=bn _ _;have lW:(ki gr key h l perm rs C).length=l.length:=bn _ _;have lH:=(IL k P).1;have lM:=(DB k P).1;have a1:=KI k P;have a2:=MB k P;have a3:=Y0 k P;have a2':(zdT key l (zaR gr key l perm rs) (gv gr h perm C l.length++ki gr key h l perm rs C)).length=1+6*l.length:=a2.1;unfold AE;dsimp only;refine bE (ag (yG (by omega) (by omega) (by omega)) (aG (by omega) ?_));rw[Ll];exact aG (by omega) (aG (by rw[bP];omega) (ag (pd k (s:=sE) (by decide) (by have:=a3.1;unfold oL at this;omega) a3.2).2 (aj rfl)))
attribute [local irreducible] rg plF pwF chF uF dlF c2F rF abF eF dtN sdV vc
set_option maxHeartbeats 4000000 in
def zEN(k:ao gr)(P:gQ gr key h l perm rs C):D1 gr key h l perm rs C.cs=J (i9 gr key h l perm rs C):=by
 have hp:=k.p;have hq:=k.q;have cN:0<gr.Q/\gr.Q<=2000000000:=by omega
 have hQ:gr.Q≠0:=by omega
 have hn:=P.m.n;have dM:=P.m.pl;have fm:=P.m.rl;have hk:=dV k P.m.key;have hH:=dV k P.hh;have kA:(zaR gr key l perm rs).length=l.length:=by rw[kv,P.m.pl]
 have gf:=rm k (vx k P.m);have e8:=mF (zaR gr key l perm rs);rw[kA]at e8;have hx:E9 gr.Q (mY gr key h l perm rs C):=me k _ _;have hy:E9 gr.Q (qo gr key h l perm rs C):=me k _ _;have hz:E9 gr.Q (tW gr key h l perm rs C):=me k _ _;have ht:E9 gr.Q (kf gr key h l perm rs C):=me k _ _;have a1:=KI k P;have a4:=DB k P;have a5:=IL k P;have ee:∀i,E9 gr.Q (jK gr key h l perm rs C i):=λi=>Ms cN.1 _ _ _
 have ue:∀i,E9 gr.Q (lQ gr key h l perm rs C i):=λi=>by unfold lQ uF;exact f8 cN.1 _
 have de:∀i,E9 gr.Q (dlF gr.Q (lQ gr key h l perm rs C) C i):=λi=>by unfold dlF;exact f8 cN.1 _
 have lP:(gv gr h perm C l.length).length=l.length:=bn _ _;have c1:=PQ k P.m;have c2:=zGc (h:=h) k hH P.pr dM P.c.a.1 (by omega);have c3:=yG (key:=key) (l:=l) (out:=zaR gr key l perm rs) (m:=gv gr h perm C l.length) (by omega) (by omega) (by omega);have c4:=(pd k (s:=sX) (by decide) (by omega) a1.2).2;have c5:=zH6 k P.pr dM (by omega) hx;have c6:=zzh (A:=gv gr h perm C l.length) (e:=jK gr key h l perm rs C) k hH P.c.b.1 (by omega);have c7:=zGP k P;have c8:=zy9 (A:=gv gr h perm C l.length) (W:=ki gr key h l perm rs C) k hH P.pr dM P.c (by omega) (x:=mY gr key h l perm rs C) hy hz;have c9:=(WE (A:=gv gr h perm C l.length) (W:=ki gr key h l perm rs C) (H:=jC gr key h l perm rs C) (D:=[]) (X:=[]) (Y:=[]) k hH P.c.w.1 P.c.v.1 (by omega) (by simp)).trans (show _=J (gv gr h perm C l.length,ki gr key h l perm rs C,jC gr key h l perm rs C,rg (Lt gr h C) l.length,[],[])from by rw[mL];rfl);have yo:=λD hD=>zzB (A:=gv gr h perm C l.length) (W:=ki gr key h l perm rs C) (D:=D) (X:=[]) (Y:=[]) k hH a5 P.c (by omega) hD
 have sA:=λD hD=>WE (A:=gv gr h perm C l.length) (W:=ki gr key h l perm rs C) (H:=jC gr key h l perm rs C) (D:=D) (X:=[]) (Y:=[]) k hH P.c.k.1 P.c.m.1 (by omega) hD
 have To:=(rO (l:=zaR gr key l perm rs) (by omega)).2;have Qw:=oY (m:=C.k) k gf.1 (by rw[e8.1,P.c.k.1];exact cy _);have TN:=oY (m:=C.k) k gf.2 (by rw[e8.2,P.c.k.1];exact cy _);have Qe:=zGT k P (x:=[]) (y:=[]);have r1:=λA hA=>Np (A:=A) k P.c.w (L:=rg (lQ gr key h l perm rs C) l.length) (u:=lQ gr key h l perm rs C) (λi hi=>⟨tx _ hi,ue i⟩) (by omega) ht hA
 have r2:=λA hA=>zzb (A:=A) k P.c (by omega) hy ht hA
 have r3:=λA hA=>Np (A:=A) k P.c.s (L:=rg (dlF gr.Q (lQ gr key h l perm rs C) C) l.length) (u:=dlF gr.Q (lQ gr key h l perm rs C) C) (λi hi=>⟨tx _ hi,de i⟩) (by omega) ht hA
 have r4:=λA hA=>Np (A:=A) k P.c.k (L:=rg (jK gr key h l perm rs C) l.length) (u:=jK gr key h l perm rs C) (λi hi=>⟨tx _ hi,ee i⟩) (by omega) ht hA
 have r5:=λA hA=>Np (A:=A) k P.c.m (L:=C.b) (u:=λi=>C.b.getD i 0) (λi hi=>⟨dY (by rw[P.c.b.1];exact hi),eA P.c.b.2 (by rw[P.c.b.1];exact hi)⟩) (by omega) ht hA
 have RE:=((Rf cN (l:=rs) (m:=rg (jK gr key h l perm rs C) l.length) (zD P.m.re) (nk λi _=>ee i) ((bn _ _).trans fm.symm)).trans (by rw[fm]):v5 rs (rg (jK gr key h l perm rs C) l.length) gr.Q=J (dtN gr.Q rs (rg (jK gr key h l perm rs C) l.length) l.length))
 have Rd:=AG cN.1 rs (rg (jK gr key h l perm rs C) l.length) l.length;have gP:ix C.c ((l.length-1:Nat):Int)=J (C.c.getD (l.length-1) 0):=dY (by rw[P.c.c.1];omega);have QL:E9 gr.Q (C.c.getD (l.length-1) 0):=eA P.c.c.2 (by rw[P.c.c.1];omega);have x1:=(iG (q:=gr.Q) (by omega) P.c.g ht QL).2;have x2:=(iG (q:=gr.Q) (by omega) P.c.f ht Rd).2;have w1:i64.wrap ((l.length:Int)-1)=((l.length-1:Nat):Int):=cM (by omega) (by omega);have w2:i64.wrap (2*(l.length:Int))=((2*l.length:Nat):Int):=cM (by omega) (by omega);have w3:i64.wrap (3*(l.length:Int))=((3*l.length:Nat):Int):=cM (by omega) (by omega);have w4:i64.wrap (4*(l.length:Int))=((4*l.length:Nat):Int):=cM (by omega) (by omega);have w5:i64.wrap (5*(l.length:Int))=((5*l.length:Nat):Int):=cM (by omega) (by omega);have w6:i64.wrap (6*(l.length:Int))=((6*l.length:Nat):Int):=cM (by omega) (by omega);have w7:i64.wrap (7*(l.length:Int))=((7*l.length:Nat):Int):=cM (by omega) (by omega);have w8:i64.wrap (8*(l.length:Int))=((8*l.length:Nat):Int):=cM (by omega) (by omega);have w61:i64.wrap (((6*l.length:Nat):Int)+1)=((6*l.length+1:Nat):Int):=cM (by omega) (by omega);have w71:i64.wrap (((7*l.length:Nat):Int)+1)=((7*l.length+1:Nat):Int):=cM (by omega) (by omega);have w81:i64.wrap (((8*l.length:Nat):Int)+1)=((8*l.length+1:Nat):Int):=cM (by omega) (by omega);obtain⟨Abp,hA,hB,hCc,hW,hV,hS,hK,hM,hg,hf⟩:=zFX P.c;generalize C.cs=aH at*;clear e8 gf;unfold D1;simp only[w1,w2,w3,w4,w5,w6,w7,w8,w61,w71,w81,dG,hA,hB,hCc,hW,hV,hS,hK,hM,P.c.w.1,P.c.k.1];refine bE (ag c1 ?_)
 iterate 17 refine aG (by omega) ?_
 refine ag hg ?_
 iterate 6 refine aG (by omega) ?_
 refine ag hf (ag c2 (ag c3 (ag c4 (ag c5 ?_))));rw[show(rg (eF gr.Q (mY gr key h l perm rs C) perm) l.length).length=l.length from bn _ _];refine ag c6 (ag c7 (ag c8 (ag To (ag c9 (ag (yo _ ?_) ?_)))))
 ·rw[bn];omega
 dsimp only;refine ag (fb k hH _) (aG ?_ (ag (sA _ ?_) ?_))
 ·simp only[bP,bn];omega
 ·simp only[bP,bn,dX,ia];omega
 dsimp only;refine ag (fb k (fG k) _) (ag Qw (ag (iK k (bJ k _ _) (fC k _ _)) (ag (fb k hk _) (ag TN (ag (iK k (bJ k _ _) (fC k _ _)) (aG ?_ (ag Qe ?_)))))))
 ·simp only[bP,bn,dX,ia];omega
 refine ag (r1 _ (by simp)) (ag (r2 _ ?_) (ag (r3 _ ?_) (ag gP (aG hQ (aG ?_ (ag (r4 _ ?_) (ag (r5 _ ?_) (ag RE (aG hQ (aG ?_ (aj ?_)))))))))))
 ·simp only[bP,bn,ia];omega
 ·simp only[bP,bn,ia];omega
 ·simp only[bP,bn,ia];omega
 ·simp only[bP,bn,dX,ia];omega
 ·simp only[bP,bn,dX,ia];omega
 ·simp only[bP,bn,dX,ia];omega
 have eR:∀R1 R2 R3 R4 R5:List Int,∀a b:Int,[]++R1++R2++R3++[a]++R4++R5++[b]=R1++(R2++(R3++([a]++(R4++(R5++[b]))))):=λR1 R2 R3 R4 R5 a b=>by simp
 rw[x1,x2,eR];unfold i9 MY;rfl
end
end
abbrev vt:cn:=⟨[],[],[],⟨[],[],[]⟩⟩
variable{q:Int}
def qP{l:List Int}{n m:Nat}(h:l.length=n+m):∃a r,l=a++r/\a.length=n/\r.length=m:=⟨l.take n,l.drop n,(De n l).symm,by simp;omega,by simp;omega⟩
def zAy{n:Nat}{aH:List Int}(hl:aH.length=8*n+2)(he:∀z∈aH,E9 q z):∃C:Pc,aH=C.cs/\ux q n C:=by
 obtain⟨a,r,rfl,ha,h1⟩:=qP (l:=aH) (n:=n) (m:=7*n+2) (by omega);obtain⟨b,r,rfl,hb,h2⟩:=qP (l:=r) (n:=n) (m:=6*n+2) (by omega);obtain⟨c,r,rfl,hc,h3⟩:=qP (l:=r) (n:=n) (m:=5*n+2) (by omega);obtain⟨w,r,rfl,hw,h4⟩:=qP (l:=r) (n:=n) (m:=4*n+2) (by omega);obtain⟨v,r,rfl,hv,h5⟩:=qP (l:=r) (n:=n) (m:=3*n+2) (by omega);obtain⟨s,r,rfl,hs,h6⟩:=qP (l:=r) (n:=n) (m:=2*n+2) (by omega)
 match r,h6 with
 |g::r,h6=>
  simp only[dX]at h6;obtain⟨k,r,rfl,hk,h7⟩:=qP (l:=r) (n:=n) (m:=n+1) (by omega);obtain⟨m,r,rfl,hm,h8⟩:=qP (l:=r) (n:=n) (m:=1) (by omega)
  match r,h8 with
  |[f],_=>
   refine⟨⟨a,b,c,w,v,s,g,k,m,f⟩,rfl,⟨ha,λz hz=>he z ?_⟩,⟨hb,λz hz=>he z ?_⟩,⟨hc,λz hz=>he z ?_⟩,⟨hw,λz hz=>he z ?_⟩,⟨hv,λz hz=>he z ?_⟩,⟨hs,λz hz=>he z ?_⟩,he g ?_,⟨hk,λz hz=>he z ?_⟩,⟨hm,λz hz=>he z ?_⟩,he f ?_⟩<;>simp_all
  |[],h=>simp at h
  |_::_::_,h=>simp at h
 |[],h6=>simp at h6
structure VD (gr:am) (key:Int) (l:List an) (perm rs aH:List Int) (p:cn):Prop where
 k:ao gr
 x:∃(B:ct) (C:Pc),aH=C.cs/\gQ gr key B.H l perm rs C/\p=i9 gr key B.H l perm rs C/\lN gr 0=J (B,Z)
def BD{gr:am}(k:ao gr)(hd:okD gr=Z)(key:Int){l:List an}(hl:l.length<=13):∃B,rC gr 0=J (B,Z)/\lN gr 0=J (B,Z)/\aK gr B.H=Z/\yu gr key l=J (if fI gr key l=Z then(B,Z)else(⟨0,[]⟩,aa)):=by
 obtain⟨Bn,_,b2,_⟩:=NQ k hd (n:=l.length) hl;obtain⟨B,c1,c2,c3⟩:=NQ k hd (n:=0) (by omega);have c2:lN gr 0=J (B,Z):=c2;refine⟨B,c1,c2,c3.h,?_⟩;unfold yu;rw[u0 k key l b2,c2];cases fI gr key l<;>rfl
def OT{gr:am}(k:¬ao gr)(key:Int)(l:List an):yu gr key l=J (⟨0,[]⟩,aa):=by
 unfold yu;rw[L6 k];rfl
def zLx(gr:am)(hg:Dg gr)(key:Int){l:List an}(hl:l.length<=13)(perm rs aH:List Int):∃p t,rn gr key l perm rs aH=J (p,t)/\Ad gr key l perm rs aH=J (p,t)/\(t=aa->p=vt)/\(t=Z->VD gr key l perm rs aH p):=by
 have w8:i64.wrap (i64.wrap (8*(l.length:Int))+2)=((8*l.length+2:Nat):Int):=by
  rw[aI (n:=8*(l.length:Int)) (by omega) (by omega)];exact cM (by omega) (by omega)
 by_cases k:ao gr
 ·have hq:=k.q;have hp:=k.p;obtain⟨B,b1,b2,b3,b4⟩:=BD k (hg k) key hl;have e2:((rs.length:Int) !=(l.length:Int))= !decide (rs.length=l.length):=by by_cases h:rs.length=l.length<;>simp[h];omega
  have e3:((aH.length:Int) !=((8*l.length+2:Nat):Int))= !decide (aH.length=8*l.length+2):=by by_cases h:aH.length=8*l.length+2<;>simp[h];omega
  have I:rn gr key l perm rs aH=if(fI gr key l&&(j5 gr l.length perm rs&&(decide (aH.length=8*l.length+2)&&aH.all (dn gr))))=Z then(FX gr B key l perm rs aH).bind (λz=>J (z.1,z.2))else J (vt,aa):=by
   unfold rn;rw[b4,AA k (by omega),show(decide (perm.length=l.length)&&d4 perm&&(decide (rs.length=l.length)&&rs.all (dn gr)))=j5 gr l.length perm rs from rfl,w8,e3,yd (by omega) (by omega)];cases fI gr key l<;>cases j5 gr l.length perm rs<;>cases decide (aH.length=8*l.length+2)<;>cases aH.all (dn gr)<;>rfl
  have S:Ad gr key l perm rs aH=if(fI gr key l&&(j5 gr l.length perm rs&&(decide (aH.length=8*l.length+2)&&aH.all (dn gr))))=Z then(D1 gr key B.H l perm rs aH).bind (λz=>J (z,Z))else J (vt,aa):=by
   unfold Ad EM;rw[uK k,show(aK gr key&&(cX 1 12 l.length&&l.all (b8 gr)))=fI gr key l from rfl,Q7 perm l.length (by omega),zH (l:=rs) (by omega) (by omega),zH (l:=aH) (by omega) (by omega),e2,w8,e3,b1];unfold j5;cases fI gr key l<;>cases (decide (perm.length=l.length)&&d4 perm)<;>cases decide (rs.length=l.length)<;>cases rs.all (dn gr)<;>cases decide (aH.length=8*l.length+2)<;>cases aH.all (dn gr)<;>rfl
  by_cases hc:(fI gr key l&&(j5 gr l.length perm rs&&(decide (aH.length=8*l.length+2)&&aH.all (dn gr))))=Z
  ·rw[aB hc]at I S;obtain⟨h1,SQ⟩:=A3.1 hc;obtain⟨h2,PM⟩:=A3.1 SQ;obtain⟨h3,h4⟩:=A3.1 PM;have m:=Nc.1 (show(fI gr key l&&j5 gr l.length perm rs)=Z by rw[h1,h2];rfl);obtain⟨C,rfl,hC⟩:=zAy (we h3) (zD h4);have P:gQ gr key B.H l perm rs C:=⟨m,b3,hC⟩
   rw[zAn k P]at I;rw[zEN k P]at S;exact⟨i9 gr key B.H l perm rs C,Z,I,S,λh=>(by cases h),λ_=>⟨k,B,C,rfl,P,rfl,b2⟩⟩
  rw[az hc]at I S;exact⟨vt,aa,I,S,λ_=>rfl,λh=>by cases h⟩
 refine⟨vt,aa,?_,?_,λ_=>rfl,λh=>by cases h⟩
 ·unfold rn;rw[OT k];rfl
 unfold Ad;rw[Eg k];rfl
def zCz{gr:am}{key:Int}{l:List an}(hl:l.length<=13){perm rs aH:List Int}{p:cn}(h:VD gr key l perm rs aH p):p.bQ.length<=1000/\p.bL.length<=1000/\p.aF.length<=1000/\p.Pi.aC.length<=1000/\p.Pi.aV.length<=1000/\p.Pi.aD.length<=1000:=by
 obtain⟨k,B,C,_,P,rfl,_⟩:=h;have h4:=(DB k P).1;refine⟨?_,?_,?_,?_,by simp[i9],by simp[i9,MY,bn];omega⟩
 ·show(rg _ l.length).length<=_;rw[bn];omega
 ·show(rg _ l.length).length<=_;rw[bn];omega
 ·show(rg _ l.length).length<=_;rw[bn];omega
 show(gF gr key B.H l perm rs C).length<=_;omega
def rP(gr:am)(n:Nat)(p:cn):Bool:=decide (p.bQ.length=n)&&(decide (p.bL.length=n)&&(decide (p.aF.length=n)&&(decide (p.Pi.aC.length=3*n+3)&&(decide (p.Pi.aV.length=1)&&(decide (p.Pi.aD.length=5*n+2)&&(p.bQ.all (aK gr)&&(p.bL.all (aK gr)&&(p.aF.all (aK gr)&&(p.Pi.aC.all (aK gr)&&p.Pi.aD.all (dn gr))))))))))
def Wu{gr:am}(k:ao gr){n:Nat}(hn:n<=1000)(p:cn):GN gr p (n:Int)=J (rP gr n p):=by
 have hq:=k.q;have hp:=k.p
 have e1:i64.wrap (i64.wrap (3*(n:Int))+3)=((3*n+3:Nat):Int):=by
  rw[aI (n:=3*(n:Int)) (by omega) (by omega)];exact cM (by omega) (by omega)
 have e2:i64.wrap (i64.wrap (5*(n:Int))+2)=((5*n+2:Nat):Int):=by
  rw[aI (n:=5*(n:Int)) (by omega) (by omega)];exact cM (by omega) (by omega)
 have e3:((p.Pi.aV.length:Int)==1)=decide (p.Pi.aV.length=1):=iC _ 1;unfold GN;rw[e1,e2,iC,iC,iC,iC,iC,e3,A8 k,A8 k,A8 k,A8 k,yd (by omega) (by omega)];unfold rP;generalize decide (p.bQ.length=n)=a1;generalize decide (p.bL.length=n)=a2;generalize decide (p.aF.length=n)=a3;generalize decide (p.Pi.aC.length=3*n+3)=a4;generalize decide (p.Pi.aV.length=1)=a5;generalize decide (p.Pi.aD.length=5*n+2)=a6;generalize p.bQ.all (aK gr)=a7;generalize p.bL.all (aK gr)=a8;generalize p.aF.all (aK gr)=a9;generalize p.Pi.aC.all (aK gr)=HF;generalize p.Pi.aD.all (dn gr)=a11;cases a1
 ·rfl
 cases a2
 ·rfl
 cases a3
 ·rfl
 cases a4
 ·rfl
 cases a5
 ·rfl
 cases a6
 ·rfl
 cases a7
 ·rfl
 cases a8
 ·rfl
 cases a9
 ·rfl
 cases HF<;>rfl
def YC{gr:am}(k:ao gr){n:Nat}(hn:n<=1000)(p:cn):JN gr (n:Int) p=J (rP gr n p):=by
 have hq:=k.q;have hp:=k.p
 have e1:i64.wrap (i64.wrap (3*(n:Int))+3)=((3*n+3:Nat):Int):=by
  rw[aI (n:=3*(n:Int)) (by omega) (by omega)];exact cM (by omega) (by omega)
 have e2:i64.wrap (i64.wrap (5*(n:Int))+2)=((5*n+2:Nat):Int):=by
  rw[aI (n:=5*(n:Int)) (by omega) (by omega)];exact cM (by omega) (by omega)
 have e3:((p.Pi.aV.length:Int)==1)=decide (p.Pi.aV.length=1):=iC _ 1;unfold JN;rw[e1,e2,iC,iC,iC,iC,iC,e3,xD k,xD k,xD k,xD k,zH (by omega) (by omega)];unfold rP;generalize decide (p.bQ.length=n)=a1;generalize decide (p.bL.length=n)=a2;generalize decide (p.aF.length=n)=a3;generalize decide (p.Pi.aC.length=3*n+3)=a4;generalize decide (p.Pi.aV.length=1)=a5;generalize decide (p.Pi.aD.length=5*n+2)=a6;generalize p.bQ.all (aK gr)=a7;generalize p.bL.all (aK gr)=a8;generalize p.aF.all (aK gr)=a9;generalize p.Pi.aC.all (aK gr)=HF;generalize p.Pi.aD.all (dn gr)=a11;cases a1
 ·rfl
 cases a2
 ·rfl
 cases a3
 ·rfl
 cases a4
 ·rfl
 cases a5
 ·rfl
 cases a6
 ·rfl
 cases a7
 ·rfl
 cases a8
 ·rfl
 cases a9
 ·rfl
 cases HF<;>rfl
def kc(q x:Int):Nat->Int
 |0=>1
 |i+1=>(kc q x i*x)%q
def tgN(q x y z:Int):Nat->Int
 |0=>1
 |i+1=>(tgN q x y z i*((y*((i:Int)+1)+kc q x (i+1)-z)%q))%q
theorem zAj(hq:1<q)(x:Int):∀i,E9 q (kc q x i)
 |0=>⟨by show(0:Int)<=1;omega,hq⟩
 |i+1=>f8 (by omega) _
theorem QB(hq:1<q)(x y z:Int):∀i,E9 q (tgN q x y z i)
 |0=>⟨by show(0:Int)<=1;omega,hq⟩
 |i+1=>f8 (by omega) _
def zCy(hq:0<q/\q<=2000000000)(a:Int):zo a q=J (a%q):=SS hq.1 hq.2
def zEX(hq:1<q/\q<=2000000000){n:Nat}(hn:n<=100){x y z:Int}(hx:E9 q x)(hy:E9 q y)(hz:E9 q z):Hw q (n:Int) x y z=J (tgN q x y z n):=by
 have cN:0<q/\q<=2000000000:=by omega
 have hQ:q≠0:=by omega
 unfold Hw;refine bE (ay (ψ:=(· =tgN q x y z n)) (kx n (λi s=>s=(tgN q x y z i,kc q x i,(i:Int)+1)/\i<=n) ⟨rfl,by omega⟩ ?_ ?_) λv hv=>aj hv)
 ·rintro i s hi ⟨rfl,_⟩;have uS:=zAj hq.1 x i;have TW:=QB hq.1 x y z i;have m1:=(uh (q:=q) hq.2 uS hx).2;have h1:0<=y*((i:Int)+1):=sJ hy.1 (by omega);have h2:y*((i:Int)+1)<=2000000000*101:=wg (by have:=hy.2;omega) (by omega) (by omega) (by omega);have b1:=f8 cN.1 (y*((i:Int)+1));have b2:=f8 cN.1 (kc q x i*x);refine fU (by simp;omega) (aG hQ (aG hQ ?_));dsimp only;rw[m1,aI (n:=y*((i:Int)+1)) (by omega) (by omega),je h1,aI (n:=y*((i:Int)+1)%q+kc q x i*x%q) (by have:=b1.1;have:=b2.1;omega) (by have:=b1.2;have:=b2.2;omega),aI (by have:=b1.1;have:=b2.1;have:=hz.2;omega) (by have:=b1.2;have:=b2.2;have:=hz.1;omega)];refine ag (zCy cN _) (aG hQ (aj ?_))
  have e:(y*((i:Int)+1)%q+kc q x i*x%q-z)%q=(y*((i:Int)+1)+kc q x (i+1)-z)%q:=by
   show _=(y*((i:Int)+1)+kc q x i*x%q-z)%q;rw[sH,o8,eM,eM,sH (y*((i:Int)+1)+_),o8 (y*((i:Int)+1)),eM]
  rw[e,(uh (q:=q) hq.2 TW (f8 cN.1 _)).2,aI (n:=(i:Int)+1+1) (by omega) (by omega)];refine⟨?_,by omega⟩;show _=(tgN q x y z (i+1),kc q x (i+1),((i+1:Nat):Int)+1);rfl
 rintro s ⟨rfl,_⟩;exact bt (by simp;omega) (aj rfl)
def zF4(hq:1<q/\q<=2000000000){n:Nat}(hn:n<=100){x y z:Int}(hx:E9 q x)(hy:E9 q y)(hz:E9 q z):Km q (n:Int) x y z=J (tgN q x y z n):=by
 have cN:0<q/\q<=2000000000:=by omega
 have hQ:q≠0:=by omega
 unfold Km;refine bE (aG hQ (ay (ψ:=(· =tgN q x y z n)) (kx n (λi s=>s=(tgN q x y z i,kc q x i,(i:Int)+1)/\i<=n) ⟨?_,by omega⟩ ?_ ?_) λv hv=>aj hv))
 ·have e:(1:Int).tmod q=1:=by rw[je (by omega),qe (by omega) (by omega)]
  rw[e];rfl
 ·rintro i s hi ⟨rfl,_⟩;have uS:=zAj hq.1 x i;have TW:=QB hq.1 x y z i;have m1:=(uh (q:=q) hq.2 uS hx).2;have b0:=f8 cN.1 ((i:Int)+1);have h1:0<=y*(((i:Int)+1)%q):=sJ hy.1 b0.1;have h2:y*(((i:Int)+1)%q)<=2000000000*2000000000:=wg (by have:=hy.2;omega) (by have:=b0.2;omega) b0.1 (by omega);have b2:=f8 cN.1 (kc q x i*x);refine fU (by simp;omega) (aG hQ (aG hQ ?_));dsimp only;rw[m1,je (a:=(i:Int)+1) (by omega),aI (n:=y*(((i:Int)+1)%q)) (by omega) (by omega),aI (n:=y*(((i:Int)+1)%q)+kc q x i*x%q) (by have:=b2.1;omega) (by have:=b2.2;omega),aI (by have:=b2.1;have:=hz.2;omega) (by have:=b2.2;have:=hz.1;omega)];refine ag (BQ cN.1 cN.2) (aG hQ (aj ?_))
  have e:(y*(((i:Int)+1)%q)+kc q x i*x%q-z)%q=(y*((i:Int)+1)+kc q x (i+1)-z)%q:=by
   show _=(y*((i:Int)+1)+kc q x i*x%q-z)%q;rw[sH,o8,mO,eM,<-mO,<-o8,<-sH]
  rw[e,(uh (q:=q) hq.2 TW (f8 cN.1 _)).2,aI (n:=(i:Int)+1+1) (by omega) (by omega)];exact⟨rfl,by omega⟩
 rintro s ⟨rfl,_⟩;exact bt (by simp;omega) (aj rfl)
def iu(q x:Int)(i:Nat):Int:=((x.toNat^(i+1)%q.toNat:Nat):Int)
def zAC{gr:am}(k:ao gr){x:Int}(hx:E9 gr.Q x){i:Nat}(hi:i<=100):nQ x (i64.wrap ((i:Int)+1)) gr.Q=J (iu gr.Q x i)/\kW x ((i:Int)+1) gr.Q=J (iu gr.Q x i):=by
 have h:=RU k hx (p:=(i:Int)) (by omega);have e:((i:Int)+1).toNat=i+1:=by omega
 have w:i64.wrap ((i:Int)+1)=(i:Int)+1:=aI (by omega) (by omega);rw[e]at h;exact⟨h.1,by rw[w]at h;exact h.2⟩
def zHM{gr:am}(k:ao gr){n:Nat}(hn:n<=100){x:Int}(hx:E9 gr.Q x):Em gr (n:Int) x=J (rg (iu gr.Q x) n):=by
 unfold Em;refine bE (ay (ψ:=(· =rg (iu gr.Q x) n)) (kx n (λi s=>s=(rg (iu gr.Q x) i,(i:Int)+1)/\i<=n) ⟨rfl,by omega⟩ ?_ ?_) λv hv=>aj hv)
 ·rintro i s hi ⟨rfl,_⟩;refine fU (by simp;omega) (ag (zAC k hx (by omega)).2 (aG (by dsimp only;rw[bn];omega) (aj ⟨?_,by omega⟩)));dsimp only;rw[aI (n:=(i:Int)+1+1) (by omega) (by omega),oF];rfl
 rintro s ⟨rfl,_⟩;exact bt (by simp;omega) (aj rfl)
def Dt{gr:am}(k:ao gr){x y w z:Int}(b:Bool)(hx:R9 x)(hy:R9 y):qH x y w b gr.P gr.Q gr.G z=J (b&&(aP gr [x,av gr y z]==w)):=by
 unfold qH;cases b
 ·rfl
 show(cP gr y z).bind _=_;rw[fh k hy,aR];show(d9 gr _).bind _=_;rw[jL k hx (bJ k _ _),aR];rfl
structure Rp where
 s1:List Int
 s2:List Int
 s3:List Int
 g:Int
 kk:List Int
 mm:List Int
 f:Int
def Rp.cs(R:Rp):List Int:=R.s1++(R.s2++(R.s3++(R.g::(R.kk++(R.mm++[R.f])))))
structure Cv (n:Nat) (R:Rp):Prop where
 s1:R.s1.length=n
 s2:R.s2.length=n
 s3:R.s3.length=n
 kk:R.kk.length=n
 mm:R.mm.length=n
def zHR{n:Nat}{r:List Int}(hl:r.length=5*n+2):∃R:Rp,r=R.cs/\Cv n R:=by
 obtain⟨a,r,rfl,ha,h1⟩:=qP (l:=r) (n:=n) (m:=4*n+2) (by omega);obtain⟨b,r,rfl,hb,h2⟩:=qP (l:=r) (n:=n) (m:=3*n+2) (by omega);obtain⟨c,r,rfl,hc,h3⟩:=qP (l:=r) (n:=n) (m:=2*n+2) (by omega)
 match r,h3 with
 |g::r,h3=>
  simp only[dX]at h3;obtain⟨k,r,rfl,hk,h7⟩:=qP (l:=r) (n:=n) (m:=n+1) (by omega);obtain⟨m,r,rfl,hm,h8⟩:=qP (l:=r) (n:=n) (m:=1) (by omega)
  match r,h8 with
  |[f],_=>exact⟨⟨a,b,c,g,k,m,f⟩,rfl,ha,hb,hc,hk,hm⟩
  |[],h=>simp at h
  |_::_::_,h=>simp at h
 |[],h3=>simp at h3
def alB(f:Nat->Bool):Nat->Bool
 |0=>Z
 |i+1=>alB f i&&f i
def q1(gr:am)(h y z T:Int)(p:cn)(R:Rp)(i:Nat):Bool:=aP gr [p.Pi.aC.getD i 0,av gr (aP gr [av gr (p.bQ.getD i 0) y,p.bL.getD i 0,av gr gr.G (i64.wrap (0-z))]) T]==vc gr h (R.s1.getD i 0) (R.s2.getD i 0)
def q2(gr:am)(h T:Int)(p:cn)(R:Rp)(n i:Nat):Bool:=aP gr [p.Pi.aC.getD (n+i) 0,av gr (p.aF.getD i 0) T]==aP gr [av gr (bef gr.G p.aF i) (R.s1.getD i 0),av gr h (R.s3.getD i 0)]
def q4(gr:am)(h T:Int)(p:cn)(R:Rp)(n i:Nat):Bool:=aP gr [p.Pi.aC.getD (2*n+1+i) 0,av gr (p.bL.getD i 0) T]==vc gr h (R.kk.getD i 0) (R.mm.getD i 0)
section
variable {gr:am}{p:cn}{R:Rp}{n:Nat}
def Rh(k:ao gr){x y z:Int}(hx:R9 x)(hy:R9 y)(hz:R9 z):R9 (aP gr [x,y,z])/\d9 gr [x,y,z]=J (aP gr [x,y,z])/\ej gr [x,y,z]=J (aP gr [x,y,z]):=by
 have h:∀v∈[x,y,z],0<=v/\v<=2000000000:=by
  intro v hv;simp only[fK,jf,jg]at hv;rcases hv with rfl|rfl|rfl<;>assumption
 exact⟨FU k h,AL k h,Ix k h⟩
def zB0(k:ao gr){B:ct}(hh:R9 B.H)(hn:n<=12)(hp:p.bQ.length=n/\∀z∈p.bQ,aK gr z=Z)(hw:p.bL.length=n/\∀z∈p.bL,aK gr z=Z)(hc:p.aF.length=n/\∀z∈p.aF,aK gr z=Z)(hm:p.Pi.aC.length=3*n+3/\∀z∈p.Pi.aC,aK gr z=Z)(hr:Cv n R){x y z T:Int}(hx:E9 gr.Q x):aS (σ:=(List Int)×Bool) (λf9 kY=>
 (nQ x (i64.wrap (f9+1)) gr.Q).bind λoM=>
 gd ((kY.1.length+1)*8<=140737488355328/\kY.1.length+1<=4611686018427387904)<|
 (ix p.Pi.aC f9).bind λLE=>
 (ix p.bQ f9).bind λLy=>
 (ix p.bL f9).bind λEE=>
 (ix R.s1 f9).bind λww=>
 (ix R.s2 f9).bind λko=>
 (cP gr Ly y).bind λCB=>
 (cP gr gr.G (i64.wrap (0-z))).bind λBf=>
 (d9 gr [CB,EE,Bf]).bind λvl=>
 (oS gr B ww ko).bind λnc=>
 (qH LE vl nc kY.2 gr.P gr.Q gr.G T).bind λBK=>
 (ix p.Pi.aC (i64.wrap ((n:Int)+f9))).bind λLF=>
 (ix p.aF f9).bind λBe=>
 (ix ([gr.G]++p.aF) f9).bind λFL=>
 (ix R.s3 f9).bind λpy=>
 (cP gr FL ww).bind λyr=>
 (cP gr B.H py).bind λoA=>
 (d9 gr [yr,oA]).bind λCL=>
 (qH LF Be CL BK gr.P gr.Q gr.G T).bind λK6=>
 (ix p.Pi.aC (i64.wrap ((i64.wrap ((i64.wrap (2*(n:Int)))+1))+f9))).bind λmi=>
 (ix R.kk f9).bind λiS=>
 (ix R.mm f9).bind λjB=>
 (oS gr B iS jB).bind λod=>
 (qH mi EE od K6 gr.P gr.Q gr.G T).bind λN2=>
 J (.go (kY.1++[oM],N2))) (λkY=>(kY.1,kY.2)) n 0 ([],Z)=J (rg (iu gr.Q x) n,alB (λi=>q1 gr B.H y z T p R i&&q2 gr B.H T p R n i&&q4 gr B.H T p R n i) n):=by
 refine pz (λi=>(rg (iu gr.Q x) i,alB (λi=>q1 gr B.H y z T p R i&&q2 gr B.H T p R n i&&q4 gr B.H T p R n i) i)) rfl λi hi=>?_
 have w1:i64.wrap ((n:Int)+(i:Int))=((n+i:Nat):Int):=cM (by omega) (by omega)
 have w2:i64.wrap (i64.wrap (i64.wrap (2*(n:Int))+1)+(i:Int))=((2*n+1+i:Nat):Int):=by
  rw[aI (n:=2*(n:Int)) (by omega) (by omega),aI (n:=2*(n:Int)+1) (by omega) (by omega)];exact cM (by omega) (by omega)
 have g0:∀{l:List Int},l.length=n->ix l (i:Int)=J (l.getD i 0):=λh=>dY (by omega)
 have gc:∀j,j<3*n+3->ix p.Pi.aC (j:Int)=J (p.Pi.aC.getD j 0)/\R9 (p.Pi.aC.getD j 0):=λj hj=>⟨dY (by omega),dV k (eA hm.2 (by omega))⟩
 have a1:=dV k (eA hp.2 (i:=i) (by omega));have a2:=dV k (eA hw.2 (i:=i) (by omega));have a3:=dV k (eA hc.2 (i:=i) (by omega));have hb:=DI k (nG k) hc.2 i (by omega);have m3:=Rh k (bJ k (p.bQ.getD i 0) y) a2 (bJ k gr.G (i64.wrap (0-z)));rw[w1,w2];refine ag (zAC k hx (by omega)).1 (aG (by rw[bn];omega) (ag (gc i (by omega)).1 (ag (g0 hp.1) (ag (g0 hw.1) (ag (g0 hr.s1) (ag (g0 hr.s2) (ag (fh k a1 _) (ag (fh k (fG k) _) (ag m3.2.1 (ag (A7 k hh _ _) (ag (Dt k _ (gc i (by omega)).2 m3.1) ?_)))))))))));refine ag (gc (n+i) (by omega)).1 (ag (g0 hc.1) (ag hb.1 (ag (g0 hr.s3) (ag (fh k hb.2 _) (ag (fh k hh _) (ag (jL k (bJ k _ _) (bJ k _ _)) (ag (Dt k _ (gc (n+i) (by omega)).2 a3) ?_)))))));refine ag (gc (2*n+1+i) (by omega)).1 (ag (g0 hr.kk) (ag (g0 hr.mm) (ag (A7 k hh _ _) (ag (Dt k _ (gc (2*n+1+i) (by omega)).2 a2) (aj ?_)))));rw[oF];show fe.go (_,_)=fe.go (_,alB _ i&&_);unfold q1 q2 q4;simp only[KG]
end
section
attribute [local irreducible] chG zdT zaO
def mq(key:Int)(l out:List an)(p:cn):List Int:=zdT key l out (p.bQ++p.bL)
def vpX(gr:am)(key:Int)(l out:List an)(p:cn):Int:=chG gr sX (zdT key l out p.bQ)
def vpY(gr:am)(key:Int)(l out:List an)(p:cn):Int:=chG gr sY (mq key l out p)
def vpZ(gr:am)(key:Int)(l out:List an)(p:cn):Int:=chG gr sZ (mq key l out p)
def vpT(gr:am)(key:Int)(l out:List an)(p:cn):Int:=chG gr sE (mq key l out p++p.aF++p.Pi.aC)
def q3(gr:am)(h tg T:Int)(p:cn)(R:Rp)(n:Nat):Bool:=aP gr [p.Pi.aC.getD (2*n) 0,av gr (aP gr [p.aF.getD (n-1) 0,av gr (av gr gr.G tg) (-1)]) T]==av gr h R.g
def qE(gr:am)(T c base:Int)(BT Ft yS:List Int)(R:Rp):Bool:=aP gr [c,av gr (zaO gr Ft BT 1) T]==aP gr [av gr base (i64.wrap (0-R.f)),zaO gr yS R.kk 1]
def Cl(gr:am)(key h:Int)(l out:List an)(p:cn)(R:Rp)(x y z T:Int)(n:Nat):Bool:=
 (((alB (λi=>q1 gr h y z T p R i&&q2 gr h T p R n i&&q4 gr h T p R n i) n&&q3 gr h (tgN gr.Q x y z n) T p R n)&&qE gr T (p.Pi.aC.getD (3*n+1) 0) gr.G (rg (iu gr.Q x) n) (sdV l).1 (sdV out).1 R)&&qE gr T (p.Pi.aC.getD (3*n+2) 0) key (rg (iu gr.Q x) n) (sdV l).2 (sdV out).2 R)
structure xY (gr:am) (key h:Int) (l out:List an) (p:cn) (R:Rp):Prop where
 key:aK gr key=Z
 n:1<=l.length/\l.length<=12
 lc:∀c∈l,b8 gr c=Z
 oc:∀c∈out,b8 gr c=Z
 ol:out.length=l.length
 hh:aK gr h=Z
 pl:p.bQ.length=l.length/\∀z∈p.bQ,aK gr z=Z
 pw:p.bL.length=l.length/\∀z∈p.bL,aK gr z=Z
 ch:p.aF.length=l.length/\∀z∈p.aF,aK gr z=Z
 cm:p.Pi.aC.length=3*l.length+3/\∀z∈p.Pi.aC,aK gr z=Z
 cl:p.Pi.aV.length=1
 rs:p.Pi.aD=R.cs
 r:Cv l.length R
section
variable {gr:am}{key h:Int}{l out:List an}{p:cn}{R:Rp}
def zFQ(hk:aK gr key=Z)(hn:1<=l.length/\l.length<=12)(lc:∀c∈l,b8 gr c=Z)(oc:∀c∈out,b8 gr c=Z)(hh:aK gr h=Z)(ho:out.length=l.length)(hs:rP gr l.length p=Z):∃R,xY gr key h l out p R:=by
 simp only[rP,bI,eC]at hs;obtain⟨a1,a2,a3,a4,a5,a6,a7,a8,a9,HF,_⟩:=hs;obtain⟨R,r1,r2⟩:=zHR a6;exact⟨R,hk,hn,lc,oc,ho,hh,⟨a1,bm.1 a7⟩,⟨a2,bm.1 a8⟩,⟨a3,bm.1 a9⟩,⟨a4,bm.1 HF⟩,a5,r1,r2⟩
def LO(k:ao gr)(V:xY gr key h l out p R):(zdT key l out p.bQ).length=1+5*l.length/\(zdT key l out p.bQ).all cD=Z:=by
 have h1:=V.pl.1;have h2:=V.ol;exact⟨by rw[Fp];omega,Fe k V.key V.lc V.oc (oH k (bm.2 V.pl.2))⟩
def Lp(k:ao gr)(V:xY gr key h l out p R):(mq key l out p).length=1+6*l.length/\(mq key l out p).all cD=Z:=by
 have h1:=V.pl.1;have h2:=V.ol;have h3:=V.pw.1;unfold mq;exact⟨by rw[Fp,bP];omega,Fe k V.key V.lc V.oc (oH k (bm.2 (jp V.pl.2 V.pw.2)))⟩
def zAl(k:ao gr)(V:xY gr key h l out p R):(mq key l out p++p.aF++p.Pi.aC).length=4+10*l.length/\(mq key l out p++p.aF++p.Pi.aC).all cD=Z:=by
 have h1:=Lp k V;have h2:=V.ch.1;have h3:=V.cm.1;refine⟨by rw[bP,bP,h1.1,h2,h3];omega,?_⟩;rw[kq,kq,h1.2,oH k (bm.2 V.ch.2),oH k (bm.2 V.cm.2)];rfl
attribute [local irreducible] rg sdV vc vpX vpY vpZ vpT tgN alB q1 q2 q4
set_option maxHeartbeats 2000000 in
def V4(k:ao gr){B:ct}(V:xY gr key B.H l out p R)(hs:rP gr l.length p=Z):Ap gr B key l out p=J ((p.Pi.aV.getD 0 0==vpT gr key l out p)&&Cl gr key B.H l out p R (vpX gr key l out p) (vpY gr key l out p) (vpZ gr key l out p) (vpT gr key l out p) l.length):=by
 have hp:=k.p;have hq:=k.q;have hn:=V.n;have hol:=V.ol;have hH:=dV k V.hh;have hK:=dV k V.key;have lP:=V.pl.1;have lW:=V.pw.1;have lH:=V.ch.1;have lM:=V.cm.1;have l1:=LO k V;have l2:=Lp k V;have l3:=zAl k V;have hx:E9 gr.Q (vpX gr key l out p):=by unfold vpX;exact me k _ _
 have hy:E9 gr.Q (vpY gr key l out p):=by unfold vpY;exact me k _ _
 have hz:E9 gr.Q (vpZ gr key l out p):=by unfold vpZ;exact me k _ _
 have c1:=Gn (key:=key) (l:=l) (out:=out) (m:=p.bQ) (by omega) (by omega) (by omega);have c2:mt gr sX (zdT key l out p.bQ)=J (vpX gr key l out p,Z):=by unfold vpX;exact(pd k (by decide) (by omega) l1.2).1
 have c3:qG key l out (p.bQ++p.bL)=J (mq key l out p):=Gn (by omega) (by omega) (by rw[bP];omega);have c4:Bx gr (mq key l out p)=J (vpY gr key l out p,vpZ gr key l out p,Z):=by unfold vpY vpZ;exact WT k (by omega) l2.2
 have c5:pj [mq key l out p,p.aF,p.Pi.aC]=J (mq key l out p++p.aF++p.Pi.aC):=by
  have e:[mq key l out p,p.aF,p.Pi.aC].flatten=mq key l out p++p.aF++p.Pi.aC:=by simp
  rw[En _ (by rw[e,l3.1];omega),e]
 have c6:mt gr sE (mq key l out p++p.aF++p.Pi.aC)=J (vpT gr key l out p,Z):=by unfold vpT;exact(pd k (by decide) (by omega) l3.2).1
 have c7:=zB0 (B:=B) (y:=vpY gr key l out p) (z:=vpZ gr key l out p) (T:=vpT gr key l out p) k hH hn.2 V.pl V.pw V.ch V.cm V.r hx;have c8:=zEX (q:=gr.Q) (by omega) (n:=l.length) (by omega) hx hy hz;have c9:=(rO (l:=l) (by omega)).1;have yo:=(rO (l:=out) (by omega)).1;have e8:=rm k V.lc;have lj:=rm k V.oc;have rB:=mF l;have hlo:=mF out;have u1:=oV k (m:=rg (iu gr.Q (vpX gr key l out p)) l.length) e8.1 (by rw[bn,rB.1];exact cy _);have u2:=oV k (m:=rg (iu gr.Q (vpX gr key l out p)) l.length) e8.2 (by rw[bn,rB.2];exact cy _);have u3:=oV k (m:=R.kk) lj.1 (by rw[hlo.1,V.r.kk];omega);have u4:=oV k (m:=R.kk) lj.2 (by rw[hlo.2,V.r.kk];omega);have w1:i64.wrap ((l.length:Int)-1)=((l.length-1:Nat):Int):=cM (by omega) (by omega);have w2:i64.wrap (2*(l.length:Int))=((2*l.length:Nat):Int):=cM (by omega) (by omega);have w3:i64.wrap (3*(l.length:Int))=((3*l.length:Nat):Int):=cM (by omega) (by omega);have O6:i64.wrap (((3*l.length:Nat):Int)+1)=((3*l.length+1:Nat):Int):=cM (by omega) (by omega);have w32:i64.wrap (((3*l.length:Nat):Int)+2)=((3*l.length+2:Nat):Int):=cM (by omega) (by omega);have gc:∀j,j<3*l.length+3->ix p.Pi.aC (j:Int)=J (p.Pi.aC.getD j 0)/\R9 (p.Pi.aC.getD j 0):=λj hj=>⟨dY (by omega),dV k (eA V.cm.2 (by omega))⟩
 have gh:ix p.aF ((l.length-1:Nat):Int)=J (p.aF.getD (l.length-1) 0):=dY (by omega);have rh:=dV k (eA V.ch.2 (i:=l.length-1) (by omega));have rp:=bJ k gr.G (tgN gr.Q (vpX gr key l out p) (vpY gr key l out p) (vpZ gr key l out p) l.length);have ov:=RM k (b:=p.aF.getD (l.length-1) 0) (x:=av gr gr.G (tgN gr.Q (vpX gr key l out p) (vpY gr key l out p) (vpZ gr key l out p) l.length)) rh.1 rh.2 rp.1 rp.2;have ho:((out.length:Int) !=(l.length:Int))=aa:=by rw[hol];simp
 have kd:0<p.Pi.aV.length:=by rw[V.cl];omega
 unfold Ap;refine bE (ay (ψ:=(· =aa)) (bt ho (ag (Wu k (by omega) p) (aj (by rw[hs];rfl)))) ?_);rintro _ rfl;refine bt rfl (ag c1 (ag c2 (ag (Zz (by omega)) (aG (by omega) (ag c3 (ag c4 (ag c5 (ag c6 (ay (ψ:=(· =(p.Pi.aV.getD 0 0 !=vpT gr key l out p))) (bt rfl (bt rfl (bt rfl (ag (dY (i:=0) kd) (aj rfl))))) ?_)))))))));rintro _ rfl;refine aZ (λg=>aj ?_) λg=>?_
 ·have:(p.Pi.aV.getD 0 0==vpT gr key l out p)=aa:=by simpa[bne]using g
  rw[this];rfl
 have g2:(p.Pi.aV.getD 0 0==vpT gr key l out p)=Z:=by simpa[bne]using g
 rw[g2,gV,V.rs];unfold Rp.cs;refine ag (ma V.r.s1) (ag (ma V.r.s2) (ag (ma V.r.s3) (ag (zg _ _) (ag (ma V.r.kk) (ag (ma V.r.mm) (ag (zg _ _) ?_))))));dsimp only;refine aG (by simp;omega) (ag rfl (ag c7 ?_));rw[w1,w2,w3,O6,w32];refine ag (gc (2*l.length) (by omega)).1 (ag gh (ag c8 (ag (fh k (fG k) _) (ag ov (ag (fh k hH _) (ag (Dt k _ (gc (2*l.length) (by omega)).2 (nC k rh (bJ k _ _))) (ag c9 (ag yo ?_))))))));refine ag (gc (3*l.length+1) (by omega)).1 (ag u1 (ag (fh k (fG k) _) (ag u3 (ag (jL k (bJ k _ _) (fC k _ _)) (ag (Dt k _ (gc (3*l.length+1) (by omega)).2 (fC k _ _)) ?_)))));exact ag (gc (3*l.length+2) (by omega)).1 (ag u2 (ag (fh k hK _) (ag u4 (ag (jL k (bJ k _ _) (fC k _ _)) (ag (Dt k _ (gc (3*l.length+2) (by omega)).2 (fC k _ _)) (aj rfl))))))
end
end
def EG{A X Y:List Int}{a i:Nat}(ha:A.length=a)(hi:i<X.length):ix (A++(X++Y)) ((a+i:Nat):Int)=J (X.getD i 0):=by
 refine J7 ?_;rw[fT (by omega),ha,UF,fw hi,cE hi,bT hi]
def N9{n:Nat}{R:Rp}(r:Cv n R):(∀i,i<n->ix R.cs (i:Int)=J (R.s1.getD i 0)/\ix R.cs ((n+i:Nat):Int)=J (R.s2.getD i 0)/\ix R.cs ((2*n+i:Nat):Int)=J (R.s3.getD i 0)/\ix R.cs ((4*n+1+i:Nat):Int)=J (R.mm.getD i 0))/\ix R.cs ((3*n:Nat):Int)=J R.g/\ix R.cs ((5*n+1:Nat):Int)=J R.f/\(R.cs.take (4*n+1)).drop (3*n+1)=R.kk:=by
 have h1:=r.s1;have h2:=r.s2;have h3:=r.s3;have h4:=r.kk;have h5:=r.mm;refine⟨λi hi=>⟨?_,?_,?_,?_⟩,?_,?_,?_⟩
 ·have:=EG (A:=[]) (X:=R.s1) (Y:=R.s2++(R.s3++(R.g::(R.kk++(R.mm++[R.f]))))) (a:=0) (i:=i) rfl (by omega)
  rwa [gk]at this
 ·exact EG (A:=R.s1) (X:=R.s2) h1 (by omega)
 ·have:=EG (A:=R.s1++R.s2) (X:=R.s3) (Y:=R.g::(R.kk++(R.mm++[R.f]))) (a:=2*n) (i:=i) (by rw[bP];omega) (by omega);rw[gU]at this;exact this
 ·have:=EG (A:=R.s1++(R.s2++(R.s3++(R.g::R.kk)))) (X:=R.mm) (Y:=[R.f]) (a:=4*n+1) (i:=i) (by simp;omega) (by omega);have e:R.s1++(R.s2++(R.s3++(R.g::R.kk)))++(R.mm++[R.f])=R.cs:=by simp[Rp.cs]
  rwa [e]at this
 ·have:=EG (A:=R.s1++(R.s2++R.s3)) (X:=[R.g]) (Y:=R.kk++(R.mm++[R.f])) (a:=3*n) (i:=0) (by simp;omega) (by simp);have e:R.s1++(R.s2++R.s3)++([R.g]++(R.kk++(R.mm++[R.f])))=R.cs:=by simp[Rp.cs]
  rw[e]at this;exact this
 ·have:=EG (A:=R.s1++(R.s2++(R.s3++(R.g::(R.kk++R.mm))))) (X:=[R.f]) (Y:=[]) (a:=5*n+1) (i:=0) (by simp;omega) (by simp);have e:R.s1++(R.s2++(R.s3++(R.g::(R.kk++R.mm))))++([R.f]++[])=R.cs:=by simp[Rp.cs]
  rw[e]at this;exact this
 exact xc (A:=R.s1++(R.s2++(R.s3++[R.g]))) (R:=R.mm++[R.f]) (by simp[Rp.cs]) (by simp;omega) (by omega)
def Hq(gr:am)(y z:Int)(p:cn)(i:Nat):Int:=aP gr [av gr (p.bQ.getD i 0) y,p.bL.getD i 0,av gr gr.G (i64.wrap (0-z))]
def Jq(gr:am)(h:Int)(R:Rp)(i:Nat):Int:=vc gr h (R.s1.getD i 0) (R.s2.getD i 0)
def Je(gr:am)(h:Int)(p:cn)(R:Rp)(i:Nat):Int:=aP gr [av gr (bef gr.G p.aF i) (R.s1.getD i 0),av gr h (R.s3.getD i 0)]
def JY(gr:am)(h:Int)(R:Rp)(i:Nat):Int:=vc gr h (R.kk.getD i 0) (R.mm.getD i 0)
section
variable {gr:am}{p:cn}{R:Rp}{n:Nat}{h:Int}
def zBp(k:ao gr)(hh:R9 h)(hn:n<=12)(hp:p.bQ.length=n/\∀z∈p.bQ,aK gr z=Z)(hw:p.bL.length=n/\∀z∈p.bL,aK gr z=Z)(hr:Cv n R){y z:Int}:dI (σ:=(List Int)×List Int×Int) (β:=(List Int)×List Int) (λfi=>
 if decide (fi.2.2<(n:Int))=Z then(
 (ix p.bQ fi.2.2).bind λBj=>
 (ix p.bL fi.2.2).bind λqx=>
 (cC gr Bj y).bind λiT=>
 (cC gr gr.G (i64.wrap (0-z))).bind λnm=>
 (ej gr [iT,qx,nm]).bind λfS=>
 gd ((fi.1.length+1)*8<=140737488355328/\fi.1.length+1<=4611686018427387904)<|
 (ix R.cs fi.2.2).bind λke=>
 (ix R.cs (i64.wrap ((n:Int)+fi.2.2))).bind λEb=>
 (nO gr h ke Eb).bind λgw=>
 gd ((fi.2.1.length+1)*8<=140737488355328/\fi.2.1.length+1<=4611686018427387904)<|
 J (.go (fi.1++[fS],fi.2.1++[gw],i64.wrap (fi.2.2+1))))else(
 J (.out (fi.1,fi.2.1)))) ([],[],0)=J (rg (Hq gr y z p) n,rg (Jq gr h R) n):=by
 refine bE (kx n (λi s=>s=(rg (Hq gr y z p) i,rg (Jq gr h R) i,(i:Int))/\i<=n) ⟨rfl,by omega⟩ ?_ ?_)
 ·rintro i s hi ⟨rfl,_⟩;have g0:∀{l:List Int},l.length=n->ix l (i:Int)=J (l.getD i 0):=λh=>dY (by omega)
  have a1:=dV k (eA hp.2 (i:=i) (by omega));have a2:=dV k (eA hw.2 (i:=i) (by omega));have m3:=Rh k (bJ k (p.bQ.getD i 0) y) a2 (bJ k gr.G (i64.wrap (0-z)));have rx:=(N9 hr).1 i hi;have w1:i64.wrap ((n:Int)+(i:Int))=((n+i:Nat):Int):=cM (by omega) (by omega);refine fU (by simp;omega) ?_;dsimp only;rw[w1];refine ag (g0 hp.1) (ag (g0 hw.1) (ag (fb k a1 _) (ag (fb k (fG k) _) (ag m3.2.2 (aG (by rw[bn];omega) (ag rx.1 (ag rx.2.1 (ag (Fk k hh _ _) (aG (by rw[bn];omega) (aj ⟨?_,by omega⟩))))))))));rw[aI (n:=(i:Int)+1) (by omega) (by omega),oF,oF];rfl
 rintro s ⟨rfl,_⟩;exact bt (by simp) (aj rfl)
def zBo(k:ao gr)(hh:R9 h)(hn:n<=12)(hc:p.aF.length=n/\∀z∈p.aF,aK gr z=Z)(hr:Cv n R){A D:List Int}(hA:A.length<=1000)(hD:D.length<=1000):dI (σ:=(List Int)×List Int×Int×Int) (β:=(List Int)×List Int) (λfc=>
 if decide (fc.2.2.2<(n:Int))=Z then(
 (ix p.aF fc.2.2.2).bind λuE=>
 gd ((fc.1.length+1)*8<=140737488355328/\fc.1.length+1<=4611686018427387904)<|
 (ix R.cs fc.2.2.2).bind λCU=>
 (ix R.cs (i64.wrap ((i64.wrap (2*(n:Int)))+fc.2.2.2))).bind λA9=>
 (cC gr fc.2.2.1 CU).bind λE7=>
 (cC gr h A9).bind λEa=>
 (ej gr [E7,Ea]).bind λDH=>
 gd ((fc.2.1.length+1)*8<=140737488355328/\fc.2.1.length+1<=4611686018427387904)<|
 J (.go (fc.1++[uE],fc.2.1++[DH],uE,i64.wrap (fc.2.2.2+1))))else(
 J (.out (fc.1,fc.2.1)))) (A,D,gr.G,0)=J (A++rg (λi=>p.aF.getD i 0) n,D++rg (Je gr h p R) n):=by
 refine bE (kx n (λi s=>s=(A++rg (λi=>p.aF.getD i 0) i,D++rg (Je gr h p R) i,bef gr.G p.aF i,(i:Int))/\i<=n) ⟨by rw[ug,ug,rc,rc];rfl,by omega⟩ ?_ ?_)
 ·rintro i s hi ⟨rfl,_⟩;have hb:=DI k (nG k) hc.2 i (by omega);have rx:=(N9 hr).1 i hi
  have w1:i64.wrap (i64.wrap (2*(n:Int))+(i:Int))=((2*n+i:Nat):Int):=by
   rw[aI (n:=2*(n:Int)) (by omega) (by omega)];exact cM (by omega) (by omega)
  refine fU (by simp;omega) ?_;dsimp only;rw[w1];refine ag (dY (by omega)) (aG (by rw[bP,bn];omega) (ag rx.1 (ag rx.2.2.1 (ag (fb k hb.2 _) (ag (fb k hh _) (ag (iK k (bJ k _ _) (bJ k _ _)) (aG (by rw[bP,bn];omega) (aj ⟨?_,by omega⟩))))))));have e:p.aF.getD i 0=bef gr.G p.aF (i+1):=by unfold bef;simp
  rw[aI (n:=(i:Int)+1) (by omega) (by omega),uO,uO,<-e];rfl
 rintro s ⟨rfl,_⟩;exact bt (by simp) (aj rfl)
def zB3(k:ao gr)(hh:R9 h)(hn:n<=12)(hw:p.bL.length=n)(hr:Cv n R){A D:List Int}(hA:A.length<=1000)(hD:D.length<=1000):dI (σ:=(List Int)×List Int×Int) (β:=(List Int)×List Int) (λfP=>
 if decide (fP.2.2<(n:Int))=Z then(
 (ix p.bL fP.2.2).bind λqJ=>
 gd ((fP.1.length+1)*8<=140737488355328/\fP.1.length+1<=4611686018427387904)<|
 (ix R.kk fP.2.2).bind λMb=>
 (ix R.cs (i64.wrap ((i64.wrap ((i64.wrap (4*(n:Int)))+1))+fP.2.2))).bind λIb=>
 (nO gr h Mb Ib).bind λqj=>
 gd ((fP.2.1.length+1)*8<=140737488355328/\fP.2.1.length+1<=4611686018427387904)<|
 J (.go (fP.1++[qJ],fP.2.1++[qj],i64.wrap (fP.2.2+1))))else(
 J (.out (fP.1,fP.2.1)))) (A,D,0)=J (A++rg (λi=>p.bL.getD i 0) n,D++rg (JY gr h R) n):=by
 refine bE (kx n (λi s=>s=(A++rg (λi=>p.bL.getD i 0) i,D++rg (JY gr h R) i,(i:Int))/\i<=n) ⟨by rw[ug,ug,rc,rc];rfl,by omega⟩ ?_ ?_)
 ·rintro i s hi ⟨rfl,_⟩;have rx:=(N9 hr).1 i hi
  have w1:i64.wrap (i64.wrap (i64.wrap (4*(n:Int))+1)+(i:Int))=((4*n+1+i:Nat):Int):=by
   rw[aI (n:=4*(n:Int)) (by omega) (by omega),aI (n:=4*(n:Int)+1) (by omega) (by omega)];exact cM (by omega) (by omega)
  refine fU (by simp;omega) ?_;dsimp only;rw[w1];refine ag (dY (by omega)) (aG (by rw[bP,bn];omega) (ag (dY (by rw[hr.kk];exact hi)) (ag rx.2.2.2 (ag (Fk k hh _ _) (aG (by rw[bP,bn];omega) (aj ⟨?_,by omega⟩))))));rw[aI (n:=(i:Int)+1) (by omega) (by omega),uO,uO];rfl
 rintro s ⟨rfl,_⟩;exact bt (by simp) (aj rfl)
end
theorem Li(f:Nat->Bool):∀n,alB f n=(List.range n).all f
 |0=>rfl
 |n+1=>by
  unfold alB;rw[Li f n,mN,kq];simp
def Hf(f:Nat->Bool)(a b:Nat):(List.range (a+b)).all f=((List.range a).all f&&(List.range b).all λi=>f (a+i)):=by
 rw[Aan,kq,Un];rfl
theorem XB(f g h:Nat->Bool):∀n,((List.range n).all λi=>f i&&g i&&h i)=((List.range n).all f&&(List.range n).all g&&(List.range n).all h)
 |0=>rfl
 |n+1=>by
  simp only[mN,kq,yB,KE,A2];rw[XB f g h n];cases (List.range n).all f<;>cases (List.range n).all g<;>cases (List.range n).all h<;>cases f n<;>cases g n<;>cases h n<;>rfl
theorem Jm{f g:Nat->Bool}:∀{n:Nat},(∀i,i<n->f i=g i)->(List.range n).all f=(List.range n).all g
 |0,_=>rfl
 |n+1,h=>by
  simp only[mN,kq,yB,KE,A2];rw[Jm λi hi=>h i (by omega),h n (by omega)]
def Eh{A B:List Int}{i:Nat}(h:i<A.length):(A++B).getD i 0=A.getD i 0:=by
 rw[nv,nv,fw h]
def Au{A B:List Int}{a i:Nat}(h:A.length=a):(A++B).getD (a+i) 0=B.getD i 0:=by
 rw[nv,nv,fT (by omega),h,UF]
def zzu(E:Nat->Int->Int->Bool){n:Nat}{a1 a2 a4 b1 b2 b4:List Int}{a3 a5 a6 b3 b5 b6:Int}(h1:a1.length=n)(h2:a2.length=n)(h4:a4.length=n)(g1:b1.length=n)(g2:b2.length=n)(g4:b4.length=n):
 ((List.range (3*n+3)).all λi=>E i ((a1++(a2++(a3::(a4++[a5,a6])))).getD i 0) ((b1++(b2++(b3::(b4++[b5,b6])))).getD i 0))=
 ((((alB (λi=>E i (a1.getD i 0) (b1.getD i 0)&&E (n+i) (a2.getD i 0) (b2.getD i 0)&&E (2*n+1+i) (a4.getD i 0) (b4.getD i 0)) n&&E (2*n) a3 b3)&&E (3*n+1) a5 b5)&&E (3*n+2) a6 b6)):=by
 have e:3*n+3=n+(n+(1+(n+(1+1)))):=by omega
 rw[Li,XB,e,Hf,Hf,Hf,Hf,Hf]
 have p1:=Jm (n:=n) (f:=λi=>E i ((a1++(a2++(a3::(a4++[a5,a6])))).getD i 0) ((b1++(b2++(b3::(b4++[b5,b6])))).getD i 0)) (g:=λi=>E i (a1.getD i 0) (b1.getD i 0)) λi hi=>by
  simp only[Eh (A:=a1) (show i<a1.length by omega),Eh (A:=b1) (show i<b1.length by omega)]
 have p2:=Jm (n:=n) (f:=λi=>E (n+i) ((a1++(a2++(a3::(a4++[a5,a6])))).getD (n+i) 0) ((b1++(b2++(b3::(b4++[b5,b6])))).getD (n+i) 0)) (g:=λi=>E (n+i) (a2.getD i 0) (b2.getD i 0)) λi hi=>by
  simp only[Au h1,Au g1,Eh (A:=a2) (show i<a2.length by omega),Eh (A:=b2) (show i<b2.length by omega)]
 have s3:∀j,(a1++(a2++(a3::(a4++[a5,a6])))).getD (n+(n+j)) 0=(a3::(a4++[a5,a6])).getD j 0:=λj=>by rw[Au h1,Au h2]
 have t3:∀j,(b1++(b2++(b3::(b4++[b5,b6])))).getD (n+(n+j)) 0=(b3::(b4++[b5,b6])).getD j 0:=λj=>by rw[Au g1,Au g2]
 have s4:∀j,(a3::(a4++[a5,a6])).getD (1+j) 0=(a4++[a5,a6]).getD j 0:=λj=>by rw[Oq];rfl
 have t4:∀j,(b3::(b4++[b5,b6])).getD (1+j) 0=(b4++[b5,b6]).getD j 0:=λj=>by rw[Oq];rfl
 have p4:=Jm (n:=n) (f:=λi=>E (n+(n+(1+i))) ((a1++(a2++(a3::(a4++[a5,a6])))).getD (n+(n+(1+i))) 0) ((b1++(b2++(b3::(b4++[b5,b6])))).getD (n+(n+(1+i))) 0)) (g:=λi=>E (2*n+1+i) (a4.getD i 0) (b4.getD i 0)) λi hi=>by
  simp only[s3,t3,s4,t4,Eh (A:=a4) (show i<a4.length by omega),Eh (A:=b4) (show i<b4.length by omega)];congr 1;omega
 rw[p1,p2,p4];have r1:List.range 1=[0]:=rfl;simp only[r1,yB,KE,A2,s3,t3,s4,t4,Au h4,Au g4];have i1:n+(n+0)=2*n:=by omega
 have i2:n+(n+(1+(n+0)))=3*n+1:=by omega
 have i3:n+(n+(1+(n+(1+0))))=3*n+2:=by omega
 simp only[i1,i2,i3];show(_&&(_&&(E (2*n) a3 b3&&(_&&(E (3*n+1) a5 b5&&E (3*n+2) a6 b6)))))=_;generalize (List.range n).all (λi=>E i (a1.getD i 0) (b1.getD i 0))=x1;generalize (List.range n).all (λi=>E (n+i) (a2.getD i 0) (b2.getD i 0))=x2;generalize (List.range n).all (λi=>E (2*n+1+i) (a4.getD i 0) (b4.getD i 0))=x4;cases x1<;>cases x2<;>cases x4<;>simp[KG]
def sR(gr:am)(T:Int)(c:List Int)(i:Nat)(a b:Int):Bool:=aP gr [c.getD i 0,av gr a T]==b
def zzO{gr:am}(k:ao gr){T:Int}{c L Q:List Int}(hc:∀z∈c,aK gr z=Z)(hL:L.length=c.length/\∀z∈L,R9 z)(hQ:Q.length=c.length):Rn (aS (σ:=(List Int)×List Int) (β:=Unit ⊕ Bool) (λuj nZ=>
 (ix c uj).bind λFf=>
 (ix nZ.1 uj).bind λSR=>
 (ix nZ.2 uj).bind λOZ=>
 (cC gr SR T).bind λFd=>
 (ej gr [Ff,Fd]).bind λRa=>
 if(Ra !=OZ)=Z then(
 J (.out (.inr aa)))else(
 J (.go (nZ.1,nZ.2)))) (λnZ=>.inl ()) c.length 0 (L,Q)) (λv=>(v=.inl ()/\(List.range c.length).all (λi=>sR gr T c i (L.getD i 0) (Q.getD i 0))=Z)\/(v=.inr aa/\(List.range c.length).all (λi=>sR gr T c i (L.getD i 0) (Q.getD i 0))=aa)):=by
 refine d7 (λi s=>s=(L,Q)/\i<=c.length/\(List.range i).all (λi=>sR gr T c i (L.getD i 0) (Q.getD i 0))=Z) ⟨rfl,by omega,rfl⟩ ?_ ?_
 ·rintro i s hi ⟨rfl,_,hI⟩;have hr:=eA hL.2 (i:=i) (by omega);have hcr:=dV k (eA hc hi);refine ag (dY hi) (ag (dY (by dsimp only;omega)) (ag (dY (by dsimp only;omega)) (ag (fb k hr _) (ag (iK k hcr (bJ k _ _)) (aZ (λg=>aj (.inr ⟨rfl,?_⟩)) λg=>aj ⟨rfl,by omega,?_⟩)))))
  ·rw[yC];exact⟨i,kp.2 hi,by unfold sR;simpa[bne]using g⟩
  rw[mN,kq,hI];have:sR gr T c i (L.getD i 0) (Q.getD i 0)=Z:=by unfold sR;simpa[bne]using g
  rw[yB,KE,this];rfl
 rintro s ⟨rfl,_,hI⟩;exact .inl ⟨rfl,hI⟩
section
attribute [local irreducible] chG zdT zaO
section
variable {gr:am}{key h:Int}{l out:List an}{p:cn}{R:Rp}
def zDv(k:ao gr)(V:xY gr key h l out p R):AU gr key l out p.bQ p.bL=J (vpY gr key l out p,vpZ gr key l out p):=by
 have hn:=V.n;have hol:=V.ol;have lP:=V.pl.1;have lW:=V.pw.1;have a1:=LO k V;have a2:=Lp k V;unfold AU;refine bE (ag (yG (by omega) (by omega) (by omega)) (aG (by omega) ?_));rw[Ll];exact ag (pd k (s:=sY) (by decide) (by have:=a2.1;unfold mq at this;omega) a2.2).2 (ag (pd k (s:=sZ) (by decide) (by have:=a2.1;unfold mq at this;omega) a2.2).2 (aj rfl))
def zDg(k:ao gr)(V:xY gr key h l out p R):AE gr key l out p=J (vpT gr key l out p):=by
 have hn:=V.n;have hol:=V.ol;have lP:=V.pl.1;have lW:=V.pw.1;have lH:=V.ch.1;have lM:=V.cm.1;have a1:=LO k V;have a2:=Lp k V;have a3:=zAl k V;have a2':(zdT key l out (p.bQ++p.bL)).length=1+6*l.length:=a2.1;unfold AE;refine bE (ag (yG (by omega) (by omega) (by omega)) (aG (by omega) ?_));rw[Ll];exact aG (by omega) (aG (by rw[bP];omega) (ag (pd k (s:=sE) (by decide) (by have:=a3.1;unfold mq at this;omega) a3.2).2 (aj rfl)))
end
end
section
attribute [local irreducible] chG zdT zaO
section
variable {gr:am}{key h:Int}{l out:List an}{p:cn}{R:Rp}
attribute [local irreducible] rg sdV vc vpX vpY vpZ vpT tgN alB
set_option maxHeartbeats 2000000 in
def zF5(k:ao gr)(V:xY gr key h l out p R)(hs:rP gr l.length p=Z):CG gr key h l out p=J ((p.Pi.aV.getD 0 0==vpT gr key l out p)&&Cl gr key h l out p R (vpX gr key l out p) (vpY gr key l out p) (vpZ gr key l out p) (vpT gr key l out p) l.length):=by
 have hp:=k.p;have hq:=k.q;have hn:=V.n;have hol:=V.ol;have hH:=dV k V.hh;have hK:=dV k V.key;have lP:=V.pl.1;have lW:=V.pw.1;have lH:=V.ch.1;have lM:=V.cm.1;have l1:=LO k V;have hx:E9 gr.Q (vpX gr key l out p):=by unfold vpX;exact me k _ _
 have hy:E9 gr.Q (vpY gr key l out p):=by unfold vpY;exact me k _ _
 have hz:E9 gr.Q (vpZ gr key l out p):=by unfold vpZ;exact me k _ _
 have c1:=yG (key:=key) (l:=l) (out:=out) (m:=p.bQ) (by omega) (by omega) (by omega);have c2:pY gr sX (zdT key l out p.bQ)=J (vpX gr key l out p):=by unfold vpX;exact(pd k (by decide) (by omega) l1.2).2
 have c3:=zDv k V;have c4:=zDg k V;have c5:=zBp (y:=vpY gr key l out p) (z:=vpZ gr key l out p) k hH hn.2 V.pl V.pw V.r;have c6:=λA D hA hD=>zBo (A:=A) (D:=D) k hH hn.2 V.ch V.r hA hD
 have c7:=λA D hA hD=>zB3 (A:=A) (D:=D) k hH hn.2 V.pw.1 V.r hA hD
 have c8:=zF4 (q:=gr.Q) (by omega) (n:=l.length) (by omega) hx hy hz;have tb:=QB (show 1<gr.Q by omega) (vpX gr key l out p) (vpY gr key l out p) (vpZ gr key l out p) l.length;have c9:=(rO (l:=l) (by omega)).2;have yo:=(rO (l:=out) (by omega)).2;have sA:=zHM k (n:=l.length) (by omega) hx;have e8:=rm k V.lc;have lj:=rm k V.oc;have rB:=mF l;have hlo:=mF out;have u1:=oY k (m:=rg (iu gr.Q (vpX gr key l out p)) l.length) e8.1 (by rw[bn,rB.1];exact cy _);have u2:=oY k (m:=rg (iu gr.Q (vpX gr key l out p)) l.length) e8.2 (by rw[bn,rB.2];exact cy _);have u3:=oY k (m:=R.kk) lj.1 (by rw[hlo.1,V.r.kk];omega);have u4:=oY k (m:=R.kk) lj.2 (by rw[hlo.2,V.r.kk];omega);obtain⟨_,r2,r3,r4⟩:=N9 V.r;have w1:i64.wrap ((l.length:Int)-1)=((l.length-1:Nat):Int):=cM (by omega) (by omega);have w3:i64.wrap (3*(l.length:Int))=((3*l.length:Nat):Int):=cM (by omega) (by omega);have w4:i64.wrap (4*(l.length:Int))=((4*l.length:Nat):Int):=cM (by omega) (by omega);have w5:i64.wrap (5*(l.length:Int))=((5*l.length:Nat):Int):=cM (by omega) (by omega);have O6:i64.wrap (((3*l.length:Nat):Int)+1)=((3*l.length+1:Nat):Int):=cM (by omega) (by omega);have Wr:i64.wrap (((4*l.length:Nat):Int)+1)=((4*l.length+1:Nat):Int):=cM (by omega) (by omega);have w51:i64.wrap (((5*l.length:Nat):Int)+1)=((5*l.length+1:Nat):Int):=cM (by omega) (by omega);have wt:i64.wrap (0-tgN gr.Q (vpX gr key l out p) (vpY gr key l out p) (vpZ gr key l out p) l.length)=0-tgN gr.Q (vpX gr key l out p) (vpY gr key l out p) (vpZ gr key l out p) l.length:=aI (by have:=tb.1;have:=tb.2;omega) (by have:=tb.1;omega);have gh:ix p.aF ((l.length-1:Nat):Int)=J (p.aF.getD (l.length-1) 0):=dY (by omega);have rh:=dV k (eA V.ch.2 (i:=l.length-1) (by omega));have ho:((out.length:Int) !=(l.length:Int))=aa:=by rw[hol];simp
 have kd:0<p.Pi.aV.length:=by rw[V.cl];omega
 have VQ:R.cs.length=5*l.length+2:=by have:=V.r.s1;have:=V.r.s2;have:=V.r.s3;have:=V.r.kk;have:=V.r.mm;simp[Rp.cs];omega
 have hpn:=zvh k (nG k) tb.1;have c7:∀A D:List Int,A.length<=1000->D.length<=1000->_:=c7;simp only[w4,Wr]at c7;unfold CG;refine bE (ay (ψ:=(· =(p.Pi.aV.getD 0 0 !=vpT gr key l out p))) (bt ho (ag (YC k (by omega) p) (bt (by rw[hs];rfl) (ag (dY (i:=0) kd) (ag c4 (aj rfl)))))) ?_);rintro _ rfl;refine aZ (λg=>aj ?_) λg=>?_
 ·have:(p.Pi.aV.getD 0 0==vpT gr key l out p)=aa:=by simpa[bne]using g
  rw[this];rfl
 have g2:(p.Pi.aV.getD 0 0==vpT gr key l out p)=Z:=by simpa[bne]using g
 have g3:p.Pi.aV.getD 0 0=vpT gr key l out p:=eq_of_beq g2;rw[g2,gV,V.rs];refine ag (dY (i:=0) kd) ?_;rw[g3,w1,w3,w4,w5,O6,Wr,w51,dG,dG,r4];refine ag c1 (ag c2 (ag c3 (aG (by omega) (aG (by omega) (aG (by omega) (ag r3 (ag c5 (ag (c6 _ _ (by rw[bn];omega) (by rw[bn];omega)) (ag gh (ag c8 ?_))))))))));rw[wt];refine ag (fb k (fG k) _) (ag (iK k rh (bJ k _ _)) (aG ?_ (ag r2 (ag (fb k hH _) (aG ?_ (ag (c7 _ _ ?_ ?_) (ag c9 (ag yo ?_))))))))
 ·simp only[bP,bn];omega
 ·simp only[bP,bn];omega
 ·simp only[bP,bn,dX,ia];omega
 ·simp only[bP,bn,dX,ia];omega
 refine ag sA (ag u1 (ag sA (ag u2 (aG ?_ (ag (fb k (fG k) _) (ag u3 (ag (iK k (bJ k _ _) (fC k _ _)) (ag (fb k hK _) (ag u4 (ag (iK k (bJ k _ _) (fC k _ _)) (aG ?_ ?_)))))))))))
 ·simp only[bP,bn,dX,ia];omega
 ·simp only[bP,bn,dX,ia];omega
 dsimp only;refine ay (zzO k V.cm.2 ⟨?_,?_⟩ ?_) λv hv=>?_
 ·simp only[bP,bn,dX,ia];omega
 ·refine jp (jp (jp (jp (nk λi hi=>?_) (nk λi hi=>?_)) ?_) (nk λi hi=>?_)) ?_
  ·exact(Rh k (bJ k _ _) (dV k (eA V.pw.2 (by omega))) (bJ k _ _)).1
  ·exact dV k (eA V.ch.2 (by omega))
  ·intro x hx;rw[gB]at hx;rw[hx];exact nC k rh (bJ k _ _)
  ·exact dV k (eA V.pw.2 (by omega))
  intro x hx;simp only[fK,jf,jg]at hx;rcases hx with rfl|rfl<;>exact fC k _ _
 ·simp only[bP,bn,dX,ia];omega
 have AbQ:=zzu (sR gr (vpT gr key l out p) p.Pi.aC) (n:=l.length) (a1:=rg (Hq gr (vpY gr key l out p) (vpZ gr key l out p) p) l.length) (a2:=rg (λi=>p.aF.getD i 0) l.length) (a4:=rg (λi=>p.bL.getD i 0) l.length) (b1:=rg (Jq gr h R) l.length) (b2:=rg (Je gr h p R) l.length) (b4:=rg (JY gr h R) l.length)
  (a3:=aP gr [p.aF.getD (l.length-1) 0,av gr gr.G (0-tgN gr.Q (vpX gr key l out p) (vpY gr key l out p) (vpZ gr key l out p) l.length)]) (b3:=av gr h R.g) (a5:=zaO gr (sdV l).1 (rg (iu gr.Q (vpX gr key l out p)) l.length) 1) (a6:=zaO gr (sdV l).2 (rg (iu gr.Q (vpX gr key l out p)) l.length) 1)
  (b5:=aP gr [av gr gr.G (i64.wrap (0-R.f)),zaO gr (sdV out).1 R.kk 1]) (b6:=aP gr [av gr key (i64.wrap (0-R.f)),zaO gr (sdV out).2 R.kk 1]) (bn _ _) (bn _ _) (bn _ _) (bn _ _) (bn _ _) (bn _ _)
 have hB:Cl gr key h l out p R (vpX gr key l out p) (vpY gr key l out p) (vpZ gr key l out p) (vpT gr key l out p) l.length=(List.range p.Pi.aC.length).all (λi=>sR gr (vpT gr key l out p) p.Pi.aC i ((rg (Hq gr (vpY gr key l out p) (vpZ gr key l out p) p) l.length++rg (λi=>p.aF.getD i 0) l.length++[aP gr [p.aF.getD (l.length-1) 0,av gr gr.G (0-tgN gr.Q (vpX gr key l out p) (vpY gr key l out p) (vpZ gr key l out p) l.length)]]++rg (λi=>p.bL.getD i 0) l.length++[zaO gr (sdV l).1 (rg (iu gr.Q (vpX gr key l out p)) l.length) 1,zaO gr (sdV l).2 (rg (iu gr.Q (vpX gr key l out p)) l.length) 1]).getD i 0) ((rg (Jq gr h R) l.length++rg (Je gr h p R) l.length++[av gr h R.g]++rg (JY gr h R) l.length++[aP gr [av gr gr.G (i64.wrap (0-R.f)),zaO gr (sdV out).1 R.kk 1],aP gr [av gr key (i64.wrap (0-R.f)),zaO gr (sdV out).2 R.kk 1]]).getD i 0)):=by
  rw[lM];simp only[gU,tZ,mL];rw[AbQ,Li];unfold Cl q3 qE;rw[Li,hpn]
  have e:=Jm (n:=l.length) (f:=λi=>q1 gr h (vpY gr key l out p) (vpZ gr key l out p) (vpT gr key l out p) p R i&&q2 gr h (vpT gr key l out p) p R l.length i&&q4 gr h (vpT gr key l out p) p R l.length i) (g:=λi=>sR gr (vpT gr key l out p) p.Pi.aC i ((rg (Hq gr (vpY gr key l out p) (vpZ gr key l out p) p) l.length).getD i 0) ((rg (Jq gr h R) l.length).getD i 0)&&sR gr (vpT gr key l out p) p.Pi.aC (l.length+i) ((rg (λi=>p.aF.getD i 0) l.length).getD i 0) ((rg (Je gr h p R) l.length).getD i 0)&&sR gr (vpT gr key l out p) p.Pi.aC (2*l.length+1+i) ((rg (λi=>p.bL.getD i 0) l.length).getD i 0) ((rg (JY gr h R) l.length).getD i 0)) λi hi=>by
   simp only[kF _ hi];rfl
  rw[e];rfl
 rw[hB];rcases hv with⟨rfl,hv⟩|⟨rfl,hv⟩
 ·exact aj hv.symm
 exact aj hv.symm
end
end
def zFm{gr:am}(k:ao gr){key h:Int}{B:ct}{l out:List an}{p:cn}(hn:l.length<=12)(hf:(decide (out.length=l.length)&&rP gr l.length p)=aa):Ap gr B key l out p=J aa/\CG gr key h l out p=J aa:=by
 have e:((out.length:Int) !=(l.length:Int))= !decide (out.length=l.length):=by rw[bne,iC]
 unfold Ap CG;rw[e,Wu k (by omega),YC k (by omega)];cases h1:decide (out.length=l.length)
 ·exact⟨rfl,rfl⟩
 rw[h1,gV]at hf;rw[hf];exact⟨rfl,rfl⟩
def zKM(gr:am)(hg:Dg gr)(key:Int){l:List an}(hl:l.length<=13)(out:List an)(p:cn):∃v t,tU gr key l out p=J (v,t)/\El gr key l out p=J (v,t):=by
 by_cases k:ao gr
 ·obtain⟨B,b1,b2,b3,b4⟩:=BD k (hg k) key hl;unfold tU El EM;rw[b4,uK k,uK k,yh k,b1,show(aK gr key&&(cX 1 12 l.length&&l.all (b8 gr)))=fI gr key l from rfl];cases h1:fI gr key l
  ·exact⟨aa,aa,rfl,rfl⟩
  have jU:=h1;simp only[fI,cX,bI,eC]at jU;obtain⟨c1,c2,c3⟩:=jU;rw[c1];cases h2:(cX 1 12 out.length&&out.all (b8 gr))
  ·exact⟨aa,aa,rfl,rfl⟩
  simp only[bI]at h2;cases h3:(decide (out.length=l.length)&&rP gr l.length p)
  ·obtain⟨e1,e2⟩:=zFm (key:=key) (h:=B.H) (B:=B) k (by omega) h3;refine⟨aa,Z,?_,?_⟩
   ·simp[e1]
   simp[e2]
  obtain⟨g1,g2⟩:=A3.1 h3;obtain⟨R,V⟩:=zFQ (h:=B.H) c1 (l:=l) (by omega) (bm.1 c3) (bm.1 h2.2) b3 (we g1) g2;have e1:=V4 k V g2;have e2:=zF5 k V g2;generalize ((p.Pi.aV.getD 0 0==vpT gr key l out p)&&Cl gr key B.H l out p R (vpX gr key l out p) (vpY gr key l out p) (vpZ gr key l out p) (vpT gr key l out p) l.length)=v at e1 e2;refine⟨v,Z,?_,?_⟩
  ·simp[e1]
  simp[e2]
 refine⟨aa,aa,?_,?_⟩
 ·unfold tU;rw[OT k];rfl
 unfold El;rw[Eg k];rfl
def um(q x y z:Int)(a j:Int):Int:=a*((y*(j+1)+kc q x (j.toNat+1)-z)%q)%q
def zEG(q x y z a i j:Int):um q x y z (um q x y z a i) j=um q x y z (um q x y z a j) i:=by
 unfold um;generalize (y*(i+1)+kc q x (i.toNat+1)-z)%q=u;generalize (y*(j+1)+kc q x (j.toNat+1)-z)%q=v;rw[mO (a*u%q),eM,<-mO,mO (a*v%q),eM,<-mO];congr 1;rw[KF,AaI u v,KF]
def zBy(q x y z:Int)(n:Nat):((List.range n).map λ(i:Nat)=>(i:Int)).foldl (um q x y z) 1=tgN q x y z n:=by
 induction n with
 |zero=>rfl
 |succ n ih=>
  rw[mN,l8,GA,ih];rfl
def RA{l:List Int}(h:d4 l=Z):l.Perm ((List.range l.length).map λ(i:Nat)=>(i:Int)):=by
 have h':=h;simp only[d4,bI,n6,eC,bm,cX]at h'
 have V7:((List.range l.length).map λ(i:Nat)=>(i:Int)).Nodup:=by
  refine UB.2 ?_;exact List.Pairwise.imp (λh e=>h (by exact_mod_cast e)) (List.nodup_range (n:=l.length))
 refine(List.perm_ext_iff_of_nodup h'.2 V7).2 λa=>⟨λha=>?_,λha=>?_⟩
 ·have:=h'.1 a ha;simp only[jE,kp];exact⟨a.toNat,by omega,by omega⟩
 simp only[jE,kp]at ha;obtain⟨i,hi,rfl⟩:=ha;exact OW h ⟨by omega,by omega⟩
def zBl{l:List Int}(h:d4 l=Z)(q x y z:Int):l.foldl (um q x y z) 1=tgN q x y z l.length:=by
 rw[(RA h).foldl_eq' (λi _ j _ a=>zEG q x y z a i j),zBy]
def NC{l:List Int}{f:Int->Int->Int}{a:Int}{i:Nat}(hi:i<l.length):(l.take (i+1)).foldl f a=f ((l.take i).foldl f a) (l.getD i 0):=by
 rw[iO hi,GA,bT hi];rfl
def pg(gr:am)(a:Int):Int:=av gr gr.G a
section
variable {gr:am}
variable{q:Int}
def Jp{a b:Int}(h:a%gr.Q=b%gr.Q):pg gr a=pg gr b:=by unfold pg av;rw[h]
def zI{a b:Int}(K:Int)(h:a=b+gr.Q*K):pg gr a=pg gr b:=Jp (by rw[h,GC])
def zMm{x a b:Int}(h:a%gr.Q=b%gr.Q):av gr x a=av gr x b:=by unfold av;rw[h]
def S7(a:Int):pg gr (a%gr.Q)=pg gr a:=Jp (eM _ _)
def mw(a q:Int):∃m,a%q=a-q*m:=⟨a/q,Int.emod_def a q⟩
def gD(k:ao gr)(a b:Int):aP gr [pg gr a,pg gr b]=pg gr (a+b):=by
 have hq:=k.q;rw[<-S7 a,<-S7 b];unfold pg;rw[zyY k (nV _ (by omega)) (nV _ (by omega))];exact Jp (o8 a b gr.Q).symm
def gW(k:ao gr)(a e:Int):av gr (pg gr a) e=pg gr (a*e):=by
 have hq:=k.q;rw[<-S7 a,zMm (b:=e%gr.Q) (eM _ _).symm];unfold pg;rw[Wh k (nG k) (nV _ (by omega)) (nV _ (by omega))];exact Jp (mO a e gr.Q).symm
def Sf(k:ao gr):pg gr 0=1:=zxY k
def Ek(k:ao gr)(a:Int):aK gr (pg gr a)=Z:=kH k (nG k) a
def XU(k:ao gr)(a:Int):0<=pg gr a/\pg gr a<gr.P:=by
 have:=zR k gr.G a;exact⟨this.1,by unfold pg;omega⟩
def Pn(k:ao gr)(a b:Int):pg gr a*pg gr b%gr.P=pg gr (a+b):=by
 rw[<-gD k,G8 k (XU k a) (XU k b).1]
def QQ(k:ao gr):pg gr 1=gr.G:=by
 have hq:=k.q;have hp:=k.p;have hg:=k.g;unfold pg av;rw[qe (by omega) (by omega)];show((gr.G.toNat^1%gr.P.toNat:Nat):Int)=gr.G;rw[Nat.pow_one,nT (by omega)];omega
def zA3(k:ao gr)(a b c:Int):aP gr [pg gr a,pg gr b,pg gr c]=pg gr (a+b+c):=by
 have h:aP gr [pg gr a,pg gr b,pg gr c]=aP gr [pg gr a,pg gr b]*pg gr c%gr.P:=rfl;rw[h,gD k,Pn k]
open Classical in
noncomputable def dl(gr:am)(x:Int):Int:=if h:∃a,x=pg gr a then Classical.choose h else 0
def kh(k:ao gr){x:Int}(h:aK gr x=Z):x=pg gr (dl gr x):=by
 have hg:=k.g;have hq:=k.q
 have he:∃a,x=pg gr a:=by
  obtain⟨s,hs⟩:=zCo k (nG k) (show gr.G≠1 by omega) h;have hx:=(ES h).1;refine⟨s,?_⟩;unfold pg av;obtain⟨n,hn⟩:=fJ (show 0<=gr.Q by omega);have h3:=(ES (nG k)).2.2;rw[hn]at h3⊢;rw[dG]at h3;rw[<-o6,dG,J0 h3,hs];omega
 unfold dl;rw[dif_pos he];exact Acq he
theorem I1(a b:Nat->Int)(T:Int):∀n,cj (λi=>a i+T*b i) n=cj a n+T*cj b n
 |0=>by simp[cj]
 |n+1=>by
  show cj (λi=>a i+T*b i) n+(a n+T*b n)=(cj a n+a n)+T*(cj b n+b n);rw[I1 a b T n];grind
def zC0(a b:Nat->Int)(n:Nat):cj (λi=>a i+b i) n=cj a n+cj b n:=by
 have:=I1 a b 1 n;simpa using this
theorem WJ(f:Int->Int)(l:List Int):∀n,n<=l.length->(l.take n).foldl (λa j=>a+f j) 0=cj (λi=>f (l.getD i 0)) n
 |0,_=>rfl
 |n+1,h=>by
  rw[NC (by omega),WJ f l n (by omega)];rfl
theorem XP(f:Int->Int):∀n,((List.range n).map λ(i:Nat)=>(i:Int)).foldl (λa j=>a+f j) 0=cj (λi=>f (i:Nat)) n
 |0=>rfl
 |n+1=>by
  rw[mN,l8,GA,XP f n];rfl
def Zp{l:List Int}(h:d4 l=Z)(f:Int->Int):cj (λi=>f (l.getD i 0)) l.length=cj (λi=>f (i:Nat)) l.length:=by
 have h1:=WJ f l l.length (cy _);rw[f6]at h1;rw[<-h1,(RA h).foldl_eq' (λi _ j _ a=>by omega),XP]
def tR(k:ao gr){l m:List Int}{f:Nat->Int}(hl:l.length=m.length)(hf:∀i,i<l.length->l.getD i 0=pg gr (f i)):zaO gr l m 1=pg gr (cj (λi=>f i*m.getD i 0) l.length):=by
 have key:∀n,n<=l.length->zaO gr (l.take n) (m.take n) 1=pg gr (cj (λi=>f i*m.getD i 0) n):=by
  intro n;induction n with
  |zero=>intro _;exact(Sf k).symm
  |succ n ih=>
   intro hn;have h1:n<l.length:=by omega
   have h2:n<m.length:=by omega
   rw[iO h1,iO h2,Og gr _ _ _ _ _ (by simp;omega),ih (by omega),<-bT h1,<-bT h2,hf n h1,gW k,Pn k];rfl
 have:=key l.length (cy _);rw[f6,hl,f6]at this;rw[this,hl]
def Y1(k:ao gr){l:List Int}{f:Nat->Int}(hf:∀i,i<l.length->l.getD i 0=pg gr (f i)):aP gr l=pg gr (cj f l.length):=by
 have key:∀n,n<=l.length->(l.take n).foldl (λo x=>o*x%gr.P) 1=pg gr (cj f n):=by
  intro n;induction n with
  |zero=>intro _;exact(Sf k).symm
  |succ n ih=>
   intro hn;have h1:n<l.length:=by omega
   rw[NC h1,ih (by omega),hf n h1,Pn k];rfl
 have:=key l.length (cy _);rw[f6]at this;exact this
theorem KW{q:Int}(hq:0<q)(l m:List Int):∀n,dtN q l m n%q=cj (λi=>l.getD i 0*m.getD i 0) n%q
 |0=>rfl
 |n+1=>by
  show(dtN q l m n+l.getD n 0*m.getD n 0)%q%q=(cj _ n+l.getD n 0*m.getD n 0)%q;rw[eM,o8,KW hq l m n,<-o8]
theorem ZW{q:Int}(hq:0<q)(l:List Int):∀n,smN q l n%q=cj (λi=>l.getD i 0) n%q
 |0=>rfl
 |n+1=>by
  show(smN q l n+l.getD n 0)%q%q=(cj _ n+l.getD n 0)%q;rw[eM,o8,ZW hq l n,<-o8]
def zFr{S0 S1 S2 S3 T b0 f F D m1 m2 m3 m4 m5 m6:Int}(e1:S0-q*m1=S1+T*(S2+b0*S3)-q*m2)(e2:F-q*m3=f+T*D-q*m4)(e3:D-q*m5=S3-q*m6):
 (b0*(0-f)+S1)+S2*T=(b0*(0-F)+S0)+q*(m2-m1+b0*(m3-m4)+T*b0*(m5-m6)):=by
 have a1:S0=S1+T*(S2+b0*S3)-q*m2+q*m1:=by rw[<-e1];grind
 have a2:D=S3-q*m6+q*m5:=by rw[<-e3];grind
 have a3:F=f+T*D-q*m4+q*m3:=by rw[<-e2];grind
 rw[a3,a1,a2];grind
def zEV{perm:List Int}(hp:d4 perm=Z){al U o rs kk K:Nat->Int}{b0 f F D T:Int}(ho:∀i,i<perm.length->o i=al (perm.getD i 0).toNat+b0*rs i)
(hK:∀i,i<perm.length->K i%q=(kk i+T*U (perm.getD i 0).toNat)%q)(hF:F%q=(f+T*D)%q)(hD:D%q=cj (λi=>rs i*U (perm.getD i 0).toNat) perm.length%q):
 ((b0*(0-f)+cj (λi=>o i*kk i) perm.length)+cj (λj=>al j*U j) perm.length*T)%q=(b0*(0-F)+cj (λi=>o i*K i) perm.length)%q:=by
 have e1:cj (λi=>o i*K i) perm.length%q=cj (λi=>o i*kk i+T*(o i*U (perm.getD i 0).toNat)) perm.length%q:=O9 _ λi hi=>by
  rw[mO,hK i hi,<-mO,show o i*(kk i+T*U (perm.getD i 0).toNat)=o i*kk i+T*(o i*U (perm.getD i 0).toNat)by grind]
 rw[I1]at e1;have e2:cj (λi=>o i*U (perm.getD i 0).toNat) perm.length=cj (λi=>al (perm.getD i 0).toNat*U (perm.getD i 0).toNat+b0*(rs i*U (perm.getD i 0).toNat)) perm.length:=Bb _ λi hi=>by rw[ho i hi];grind
 rw[I1]at e2;have e3:=Zp hp (λj=>al j.toNat*U j.toNat);have e4:cj (λi:Nat=>al (i:Int).toNat*U (i:Int).toNat) perm.length=cj (λj=>al j*U j) perm.length:=rfl;rw[e4]at e3;rw[e2,e3]at e1;generalize cj (λi=>o i*K i) perm.length=S0 at e1⊢;generalize cj (λi=>o i*kk i) perm.length=S1 at e1⊢;generalize cj (λj=>al j*U j) perm.length=S2 at e1⊢;generalize cj (λi=>rs i*U (perm.getD i 0).toNat) perm.length=S3 at e1 hD;obtain⟨m1,h1⟩:=mw S0 q;obtain⟨m2,h2⟩:=mw (S1+T*(S2+b0*S3)) q;obtain⟨m3,h3⟩:=mw F q;obtain⟨m4,h4⟩:=mw (f+T*D) q;obtain⟨m5,h5⟩:=mw D q;obtain⟨m6,h6⟩:=mw S3 q;rw[h1,h2]at e1;rw[h3,h4]at hF;rw[h5,h6]at hD;rw[zFr e1 hF hD,GC]
end
section
variable {gr:am}
variable{i:Nat}
def ek{a b q:Int}(h:a%q=b%q):∃m,a=b+q*m:=by
 obtain⟨m,hm⟩:=mw a q;obtain⟨n,hn⟩:=mw b q;rw[hm,hn]at h;exact⟨m-n,by rw[Int.mul_sub];omega⟩
def uN(k:ao gr){h eta:Int}(hh:h=pg gr eta)(x r:Int):vc gr h x r=pg gr (x+eta*r):=by
 rw[hh];unfold vc;rw[gW k];exact gD k x (eta*r)
def tw{α:Type}{a b:List α}{d:α}(h:i<a.length):(a++b).getD i d=a.getD i d:=by
 rw[nv,nv,fw h]
def tF{α:Type}{a b:List α}{j:Nat}{d:α}(h:i=a.length+j):(a++b).getD i d=b.getD j d:=by
 rw[nv,nv,fT (by omega),h,UF]
def zJL{q w v T y p e z u ab a b eta n1 n2 n3 n4 s1 s2:Int}(h1:u=y*p+e-z+q*n1)(h2:s1=w+T*u+q*n2)(h3:ab=y*a+b+q*n3)(h4:s2=v+T*ab+q*n4):
 (w+eta*v)+((p+eta*a)*y+(e+eta*b)+(0-z))*T=(s1+eta*s2)+q*(0-(T*n1+n2+eta*T*n3+eta*n4)):=by
 rw[h4,h3,h2,h1];grind
def zKP(k:ao gr){h eta w v T y p e z u ab a b s1 s2:Int}(hh:h=pg gr eta)(h1:u%gr.Q=(y*p+e-z)%gr.Q)(h2:s1%gr.Q=(w+T*u)%gr.Q)(h3:ab%gr.Q=(y*a+b)%gr.Q)(h4:s2%gr.Q=(v+T*ab)%gr.Q)(hz:i64.wrap (0-z)=0-z):
 aP gr [vc gr h w v,av gr (aP gr [av gr (vc gr h p a) y,vc gr h e b,av gr gr.G (i64.wrap (0-z))]) T]=vc gr h s1 s2:=by
 obtain⟨n1,h1⟩:=ek h1;obtain⟨n2,h2⟩:=ek h2;obtain⟨n3,h3⟩:=ek h3;obtain⟨n4,h4⟩:=ek h4;rw[uN k hh,uN k hh,uN k hh,uN k hh,gW k,hz,show av gr gr.G (0-z)=pg gr (0-z)from rfl,zA3 k,gW k,gD k];exact zI _ (zJL h1 h2 h3 h4)
def zKd{q pr ls eta w s T wN c u s1 s3 d n1 n2 n3 n4:Int}(h1:wN=pr*u+q*n1)(h2:s1=w+T*u+q*n2)(h3:d=c-ls*u+q*n3)(h4:s3=s+T*d+q*n4):
 ((pr+eta*ls)*w+eta*s)+(wN+eta*c)*T=((pr+eta*ls)*s1+eta*s3)+q*(T*n1-(pr+eta*ls)*n2-eta*T*n3-eta*n4):=by
 rw[h4,h3,h2,h1];grind
def zKH(k:ao gr){h eta bf pr ls w s T wN c u s1 s3 d:Int}(hh:h=pg gr eta)(hb:bf=pg gr (pr+eta*ls))(h1:wN%gr.Q=(pr*u)%gr.Q)(h2:s1%gr.Q=(w+T*u)%gr.Q)(h3:d%gr.Q=(c-ls*u)%gr.Q)(h4:s3%gr.Q=(s+T*d)%gr.Q):
 aP gr [aP gr [av gr bf w,av gr h s],av gr (vc gr h wN c) T]=aP gr [av gr bf s1,av gr h s3]:=by
 obtain⟨n1,h1⟩:=ek h1;obtain⟨n2,h2⟩:=ek h2;obtain⟨n3,h3⟩:=ek h3;obtain⟨n4,h4⟩:=ek h4;rw[uN k hh,hb,hh,gW k,gW k,gW k,gW k,gW k,gD k,gD k,gD k];exact zI _ (zKd h1 h2 h3 h4)
def zJ1{q kk m e b T K M eta n1 n2:Int}(h1:K=kk+T*e+q*n1)(h2:M=m+T*b+q*n2):(kk+eta*m)+(e+eta*b)*T=(K+eta*M)+q*(0-(n1+eta*n2)):=by
 rw[h1,h2];grind
def zL1(k:ao gr){h eta kk m e b T K M:Int}(hh:h=pg gr eta)(h1:K%gr.Q=(kk+T*e)%gr.Q)(h2:M%gr.Q=(m+T*b)%gr.Q):aP gr [vc gr h kk m,av gr (vc gr h e b) T]=vc gr h K M:=by
 obtain⟨n1,h1⟩:=ek h1;obtain⟨n2,h2⟩:=ek h2;rw[uN k hh,uN k hh,uN k hh,gW k,gD k];exact zI _ (zJ1 h1 h2)
def zNV{q g pn c tg T G eta n1 n2:Int}(h1:pn=tg+q*n1)(h2:G=g+T*c+q*n2):eta*g+(pn+eta*c+tg*(-1))*T=eta*G+q*(T*n1-eta*n2):=by
 rw[h1,h2];grind
def zNi(k:ao gr){h eta g pn c tg T G:Int}(hh:h=pg gr eta)(h1:pn%gr.Q=tg%gr.Q)(h2:G%gr.Q=(g+T*c)%gr.Q):aP gr [av gr h g,av gr (aP gr [vc gr h pn c,av gr (av gr gr.G tg) (-1)]) T]=av gr h G:=by
 obtain⟨n1,h1⟩:=ek h1;obtain⟨n2,h2⟩:=ek h2;rw[uN k hh,hh,show av gr gr.G tg=pg gr tg from rfl,gW k,gW k,gW k,gD k,gW k,gD k];exact zI _ (zNV h1 h2)
def Ma(k:ao gr){b0 f F D T base:Int}{Ft yS BT ks Ks perm:List Int}{al U o rs:Nat->Int}(hb:base=pg gr b0)(hp:d4 perm=Z)(li:Ft.length=perm.length)(lo:yS.length=perm.length)(lu:BT.length=perm.length)(lk:ks.length=perm.length)(lK:Ks.length=perm.length)
(hi:∀j,j<perm.length->Ft.getD j 0=pg gr (al j))(hu:∀j,j<perm.length->BT.getD j 0=U j)(ho:∀i,i<perm.length->yS.getD i 0=pg gr (o i))(D6:∀i,i<perm.length->o i=al (perm.getD i 0).toNat+b0*rs i)
(hK:∀i,i<perm.length->Ks.getD i 0%gr.Q=(ks.getD i 0+T*U (perm.getD i 0).toNat)%gr.Q)(hF:F%gr.Q=(f+T*D)%gr.Q)(hD:D%gr.Q=cj (λi=>rs i*U (perm.getD i 0).toNat) perm.length%gr.Q)
(hf:i64.wrap (0-f)=0-f)(hF2:i64.wrap (0-F)=0-F):
 aP gr [aP gr [av gr base (i64.wrap (0-f)),zaO gr yS ks 1],av gr (zaO gr Ft BT 1) T]=aP gr [av gr base (i64.wrap (0-F)),zaO gr yS Ks 1]:=by
 have e1:cj (λi=>al i*BT.getD i 0) perm.length=cj (λi=>al i*U i) perm.length:=Bb _ λi hi=>by rw[hu i hi]
 rw[hf,hF2,hb,gW k,gW k,tR k (l:=yS) (m:=ks) (f:=o) (by omega) (by rw[lo];exact ho),tR k (l:=yS) (m:=Ks) (f:=o) (by omega) (by rw[lo];exact ho),tR k (l:=Ft) (m:=BT) (f:=al) (by omega) (by rw[li];exact hi),lo,li,e1,gD k,gD k,gW k,gD k];exact Jp (zEV hp D6 hK hF hD)
theorem Vx{q x:Int}(hq:1<q)(hx:0<=x):∀i,kc q x i=((x.toNat^i%q.toNat:Nat):Int)
 |0=>by
  show(1:Int)=_;rw[Ur,nT (by omega)];rfl
 |i+1=>by
  obtain⟨n,rfl⟩:=fJ hx;obtain⟨m,rfl⟩:=fJ (show 0<=q by omega);show kc _ _ i*_%_=_;rw[Vx hq hx i,dG,dG,<-C8,<-o6,Nat.pow_succ,t6,OE,<-t6]
def Ry{q x:Int}{perm:List Int}(h:0<=perm.getD i 0):eF q x perm i=iu q x (perm.getD i 0).toNat:=by
 unfold eF iu;rw[show(perm.getD i 0+1).toNat=(perm.getD i 0).toNat+1 by omega]
def zHT{q x y z:Int}(hq:1<q)(hx:0<=x){perm:List Int}(hp:∀j∈perm,0<=j/\j<=1000)(hb:d4 perm=Z):sB q (uF q y z (eF q x perm) perm) perm.length=tgN q x y z perm.length:=by
 have key:∀n,n<=perm.length->sB q (uF q y z (eF q x perm) perm) n=(perm.take n).foldl (um q x y z) 1:=by
  intro n;induction n with
  |zero=>intro _;rfl
  |succ n ih=>
   intro hn;rw[NC (by omega),<-ih (by omega)];show sB q _ n*uF q y z _ perm n%q=um q x y z _ _;have hj:=(eA hp (show n<perm.length by omega)).1;unfold um uF;rw[Vx hq hx,Ry hj];rfl
 rw[key _ (cy _),f6,zBl hb]
theorem YZ{f:Nat->Bool}:∀{n},(∀i,i<n->f i=Z)->alB f n=Z
 |0,_=>rfl
 |n+1,h=>by
  show(alB f n&&f n)=Z;rw[YZ λi hi=>h i (by omega),h n (by omega)];rfl
end
section
variable {gr:am}{key h:Int}{l:List an}{perm rs:List Int}{C:Pc}
abbrev c0:an:=⟨0,0⟩
variable{ch:List Int}
def HY{l:List an}{j:Nat}(hj:j<l.length):(sdV l).1.getD j 0=(l.getD j c0).A/\(sdV l).2.getD j 0=(l.getD j c0).B:=by
 simp[sdV,List.getD,hj]
def HL(hl:∀c∈l,b8 gr c=Z){j:Nat}(hj:j<l.length):aK gr (l.getD j c0).A=Z/\aK gr (l.getD j c0).B=Z:=by
 have h:=hl _ (e9 hj);have e:l.getD j c0=l[j]:=by simp[List.getD,hj]
 rw[e];simpa only[b8,bI]using h
def zHf{i:Nat}(hi:i<perm.length):(zaR gr key l perm rs).getD i c0=zh gr key (l.getD (perm.getD i 0).toNat c0) (rs.getD i 0):=by
 simp[zaR,List.getD,hi]
def yO(k:ao gr)(m:mQ gr key l perm rs){i:Nat}(hi:i<perm.length):(sdV (zaR gr key l perm rs)).1.getD i 0=pg gr (dl gr (l.getD (perm.getD i 0).toNat c0).A+1*rs.getD i 0)/\(sdV (zaR gr key l perm rs)).2.getD i 0=pg gr (dl gr (l.getD (perm.getD i 0).toNat c0).B+dl gr key*rs.getD i 0):=by
 have hj:=eA m.pr hi;have hc:=HL m.c (show(perm.getD i 0).toNat<l.length by omega);have hs:=HY (l:=zaR gr key l perm rs) (j:=i) (by rw[kv];exact hi);rw[hs.1,hs.2,zHf hi];unfold zh;generalize l.getD (perm.getD i 0).toNat c0=c at hc;have e1:=kh k hc.1;have e2:=kh k hc.2;have e3:=kh k m.key;generalize dl gr c.A=a at e1;generalize dl gr c.B=b at e2;generalize dl gr key=kk at e3;dsimp only;rw[e1,e2,e3,gW k];refine⟨by rw[show av gr gr.G (rs.getD i 0)=pg gr (rs.getD i 0)from rfl,gD k,UE],?_⟩;rw[<-Sf k,gD k,gD k,KB]
def VR(k:ao gr){eta:Int}(hh:h=pg gr eta){u:Nat->Int}{n i:Nat}(hi:i<n):bef gr.G (rg (chF gr h u C) n) i=pg gr (sB gr.Q u i+eta*AS C i):=by
 unfold bef;cases i with
 |zero=>
  show gr.G=pg gr (1+eta*0);rw[Int.mul_zero,Int.add_zero,QQ k]
 |succ i=>
  rw[tF (a:=[gr.G]) (j:=i) (by simp;omega),kF _ (by omega)];exact uN k hh _ _
def GH{gr:am}(k:ao gr){z:Int}(hz:E9 gr.Q z):i64.wrap (0-z)=0-z:=by
 have h1:=hz.1;have h2:=hz.2;have hq:=k.q;have hp:=k.p;exact aI (by omega) (by omega)
def zK3{out:List an}{n i:Nat}(hi:i<n):(oR gr key h out ch C n).getD i 0=Lt gr h C i:=by
 unfold oR;rw[tw (by simp[bn];omega),tw (by simp[bn];omega),tw (by simp[bn];omega),tw (by simp[bn];omega),kF _ hi]
def zMU{out:List an}{n i:Nat}(hi:i<n):(oR gr key h out ch C n).getD (n+i) 0=c2F gr h ch C i:=by
 unfold oR;rw[tw (by simp[bn];omega),tw (by simp[bn];omega),tw (by simp[bn];omega),tF (j:=i) (by simp[bn]),kF _ hi]
def zJ9{out:List an}{n:Nat}:(oR gr key h out ch C n).getD (2*n) 0=av gr h C.g:=by
 unfold oR;rw[tw (by simp[bn];omega),tw (by simp[bn];omega),tF (j:=0) (by simp[bn];omega)];rfl
def zKQ{out:List an}{n i:Nat}(hi:i<n):(oR gr key h out ch C n).getD (2*n+1+i) 0=ZO gr h C i:=by
 unfold oR;rw[tw (by simp[bn];omega),tF (j:=i) (by simp[bn];omega),kF _ hi]
def zCG{out:List an}{n:Nat}:(oR gr key h out ch C n).getD (3*n+1) 0=aP gr [av gr gr.G (i64.wrap (0-C.f)),zaO gr (sdV out).1 C.k 1]/\(oR gr key h out ch C n).getD (3*n+2) 0=aP gr [av gr key (i64.wrap (0-C.f)),zaO gr (sdV out).2 C.k 1]:=by
 unfold oR;rw[tF (i:=3*n+1) (j:=0) (by simp[bn];omega),tF (i:=3*n+2) (j:=1) (by simp[bn];omega)];exact⟨rfl,rfl⟩
def g9(gr:am)(key h:Int)(l:List an)(perm rs:List Int)(C:Pc):Rp:=
 let q:=gr.Q;let t:=kf gr key h l perm rs C;let u:=lQ gr key h l perm rs C;let e:=jK gr key h l perm rs C;let n:=l.length
 ⟨rg (rF q t C.w u) n,rg (rF q t C.v (abF q (qo gr key h l perm rs C) C)) n,rg (rF q t C.s (dlF q u C)) n,(C.g+t*C.c.getD (n-1) 0)%q,rg (rF q t C.k e) n,rg (rF q t C.m (λi=>C.b.getD i 0)) n,(C.f+t*dtN q rs (rg e n) n)%q⟩
def zC1(k:ao gr)(P:gQ gr key h l perm rs C):∀z∈gF gr key h l perm rs C,aK gr z=Z:=by
 have hh:=kh k P.hh;have dM:=P.m.pl;have MT:=P.c.k.1;have kA:(zaR gr key l perm rs).length=l.length:=by rw[kv,P.m.pl]
 have e8:=mF (zaR gr key l perm rs)
 have d1:aK gr (zaO gr (sdV (zaR gr key l perm rs)).1 C.k 1)=Z:=by
  rw[tR k (f:=λi=>dl gr (l.getD (perm.getD i 0).toNat c0).A+1*rs.getD i 0) (by omega) λi hi=>(yO k P.m (by omega)).1];exact Ek k _
 have d2:aK gr (zaO gr (sdV (zaR gr key l perm rs)).2 C.k 1)=Z:=by
  rw[tR k (f:=λi=>dl gr (l.getD (perm.getD i 0).toNat c0).B+dl gr key*rs.getD i 0) (by omega) λi hi=>(yO k P.m (by omega)).2];exact Ek k _
 unfold gF oR;refine jp (jp (jp (jp (nk λi _=>IH k P.hh _ _) (nk λi hi=>?_)) ?_) (nk λi _=>IH k P.hh _ _)) ?_
 ·unfold c2F;refine qW k (kH k ?_ _) (kH k P.hh _);unfold jC;rw[VR k hh hi];exact Ek k _
 ·intro x hx;rw[gB]at hx;rw[hx];exact kH k P.hh _
 intro x hx;simp only[fK,jf,jg]at hx;rcases hx with rfl|rfl
 ·exact qW k (kH k (nG k) _) d1
 exact qW k (kH k P.m.key _) d2
def zGC(k:ao gr)(P:gQ gr key h l perm rs C):∀z∈(g9 gr key h l perm rs C).cs,E9 gr.Q z:=by
 have hq:=k.q;have cN:0<gr.Q:=by omega
 have hr:∀(t:Int) (w:List Int) (u:Nat->Int) (n:Nat),∀z∈rg (rF gr.Q t w u) n,E9 gr.Q z:=λt w u n=>nk λi _=>by unfold rF;exact f8 cN _
 have h1:∀x:Int,∀z∈[x%gr.Q],E9 gr.Q z:=λx z hz=>by rw[gB]at hz;rw[hz];exact f8 cN _
 exact jp (hr _ _ _ _) (jp (hr _ _ _ _) (jp (hr _ _ _ _) (jp (h1 _) (jp (hr _ _ _ _) (jp (hr _ _ _ _) (h1 _))))))
def WR(k:ao gr)(P:gQ gr key h l perm rs C):xY gr key h l (zaR gr key l perm rs) (i9 gr key h l perm rs C) (g9 gr key h l perm rs C):=
 ⟨P.m.key,P.m.n,P.m.c,vx k P.m,by rw[kv,P.m.pl],P.hh,⟨bn _ _,QU k P⟩,⟨bn _ _,Yr k P⟩,IL k P,⟨(DB k P).1,zC1 k P⟩,rfl,rfl,⟨bn _ _,bn _ _,bn _ _,bn _ _,bn _ _⟩⟩
def zFU(k:ao gr)(P:gQ gr key h l perm rs C):rP gr l.length (i9 gr key h l perm rs C)=Z:=by
 have V:=WR k P;have e1:=V.rs
 have hl:(i9 gr key h l perm rs C).Pi.aD.length=5*l.length+2:=by
  rw[e1];have r:=V.r;simp only[Rp.cs,bP,dX,ia,r.s1,r.s2,r.s3,r.kk,r.mm];omega
 simp only[rP,bI,eC];exact⟨V.pl.1,V.pw.1,V.ch.1,V.cm.1,V.cl,hl,bm.2 V.pl.2,bm.2 V.pw.2,bm.2 V.ch.2,bm.2 V.cm.2,by rw[e1];exact Vo (zGC k P)⟩
end
section
variable {gr:am}{key h:Int}{l:List an}{perm rs:List Int}{C:Pc}
variable{i:Nat}
def zFC(k:ao gr)(P:gQ gr key h l perm rs C)(hi:i<l.length):q1 gr h (qo gr key h l perm rs C) (tW gr key h l perm rs C) (kf gr key h l perm rs C) (i9 gr key h l perm rs C) (g9 gr key h l perm rs C) i=Z:=by
 have hz:E9 gr.Q (tW gr key h l perm rs C):=me k _ _;show(aP gr [(gF gr key h l perm rs C).getD i 0,av gr (aP gr [av gr ((gv gr h perm C l.length).getD i 0) (qo gr key h l perm rs C),(ki gr key h l perm rs C).getD i 0,av gr gr.G (i64.wrap (0-tW gr key h l perm rs C))]) (kf gr key h l perm rs C)]==vc gr h ((g9 gr key h l perm rs C).s1.getD i 0) ((g9 gr key h l perm rs C).s2.getD i 0))=Z;unfold gF gv ki g9;dsimp only;rw[zK3 hi,kF _ hi,kF _ hi,kF _ hi,kF _ hi];exact beq_iff_eq.2 (zKP k (kh k P.hh) (u:=lQ gr key h l perm rs C i) (ab:=abF gr.Q (qo gr key h l perm rs C) C i) (eM _ _) (eM _ _) (eM _ _) (eM _ _) (GH k hz))
def zFg(k:ao gr)(P:gQ gr key h l perm rs C)(hi:i<l.length):q2 gr h (kf gr key h l perm rs C) (i9 gr key h l perm rs C) (g9 gr key h l perm rs C) l.length i=Z:=by
 show(aP gr [(gF gr key h l perm rs C).getD (l.length+i) 0,av gr ((jC gr key h l perm rs C).getD i 0) (kf gr key h l perm rs C)]==aP gr [av gr (bef gr.G (jC gr key h l perm rs C) i) ((g9 gr key h l perm rs C).s1.getD i 0),av gr h ((g9 gr key h l perm rs C).s3.getD i 0)])=Z;unfold gF g9;dsimp only;rw[zMU hi,kF _ hi,kF _ hi];unfold c2F;have hb:bef gr.G (jC gr key h l perm rs C) i=pg gr (sB gr.Q (lQ gr key h l perm rs C) i+dl gr h*AS C i):=VR k (kh k P.hh) hi;have hc:(jC gr key h l perm rs C).getD i 0=vc gr h (sB gr.Q (lQ gr key h l perm rs C) (i+1)) (C.c.getD i 0):=kF _ hi;rw[hc];exact beq_iff_eq.2 (zKH k (kh k P.hh) hb (u:=lQ gr key h l perm rs C i) (d:=dlF gr.Q (lQ gr key h l perm rs C) C i) (eM _ _) (eM _ _) (eM _ _) (eM _ _))
def zE1(k:ao gr)(P:gQ gr key h l perm rs C)(hi:i<l.length):q4 gr h (kf gr key h l perm rs C) (i9 gr key h l perm rs C) (g9 gr key h l perm rs C) l.length i=Z:=by
 show(aP gr [(gF gr key h l perm rs C).getD (2*l.length+1+i) 0,av gr ((ki gr key h l perm rs C).getD i 0) (kf gr key h l perm rs C)]==vc gr h ((g9 gr key h l perm rs C).kk.getD i 0) ((g9 gr key h l perm rs C).mm.getD i 0))=Z;unfold gF g9 ki;dsimp only;rw[zKQ hi,kF _ hi,kF _ hi,kF _ hi];exact beq_iff_eq.2 (zL1 k (kh k P.hh) (eM _ _) (eM _ _))
def zG6(k:ao gr)(P:gQ gr key h l perm rs C):q3 gr h (tgN gr.Q (mY gr key h l perm rs C) (qo gr key h l perm rs C) (tW gr key h l perm rs C) l.length) (kf gr key h l perm rs C) (i9 gr key h l perm rs C) (g9 gr key h l perm rs C) l.length=Z:=by
 have hn:=P.m.n;have hq:=k.q;have hx:E9 gr.Q (mY gr key h l perm rs C):=me k _ _;have ht:=zHT (q:=gr.Q) (y:=qo gr key h l perm rs C) (z:=tW gr key h l perm rs C) (by omega) hx.1 P.pr P.m.pb;rw[P.m.pl]at ht;have hc:(jC gr key h l perm rs C).getD (l.length-1) 0=vc gr h (sB gr.Q (lQ gr key h l perm rs C) (l.length-1+1)) (C.c.getD (l.length-1) 0):=kF _ (by omega);rw[show l.length-1+1=l.length by omega]at hc;show(aP gr [(gF gr key h l perm rs C).getD (2*l.length) 0,av gr (aP gr [(jC gr key h l perm rs C).getD (l.length-1) 0,av gr (av gr gr.G (tgN gr.Q _ _ _ l.length)) (-1)]) (kf gr key h l perm rs C)]==av gr h (g9 gr key h l perm rs C).g)=Z;rw[hc];unfold gF g9;dsimp only;rw[zJ9];exact beq_iff_eq.2 (zNi k (kh k P.hh) (gn (· %gr.Q) ht) (eM _ _))
def We(k:ao gr)(P:gQ gr key h l perm rs C):dtN gr.Q rs (rg (jK gr key h l perm rs C) l.length) l.length%gr.Q=cj (λi=>rs.getD i 0*iu gr.Q (mY gr key h l perm rs C) (perm.getD i 0).toNat) perm.length%gr.Q:=by
 have hq:=k.q;rw[KW (by omega),P.m.pl];refine gn (· %gr.Q) (Bb _ λi hi=>?_);rw[kF _ hi];unfold jK;rw[Ry (eA P.pr (by rw[P.m.pl];exact hi)).1]
def zFA(k:ao gr)(P:gQ gr key h l perm rs C):qE gr (kf gr key h l perm rs C) ((gF gr key h l perm rs C).getD (3*l.length+1) 0) gr.G (rg (iu gr.Q (mY gr key h l perm rs C)) l.length) (sdV l).1 (sdV (zaR gr key l perm rs)).1 (g9 gr key h l perm rs C)=Z/\
 qE gr (kf gr key h l perm rs C) ((gF gr key h l perm rs C).getD (3*l.length+2) 0) key (rg (iu gr.Q (mY gr key h l perm rs C)) l.length) (sdV l).2 (sdV (zaR gr key l perm rs)).2 (g9 gr key h l perm rs C)=Z:=by
 have hq:=k.q;have dM:=P.m.pl;have e8:=mF l;have lj:=mF (zaR gr key l perm rs);rw[kv]at lj;have hk:=P.c.k.1;have hf:=GH k P.c.f;have hF:i64.wrap (0-(g9 gr key h l perm rs C).f)=0-(g9 gr key h l perm rs C).f:=GH k (f8 (by omega) _)
 have hK:∀i,i<perm.length->(g9 gr key h l perm rs C).kk.getD i 0%gr.Q=(C.k.getD i 0+kf gr key h l perm rs C*iu gr.Q (mY gr key h l perm rs C) (perm.getD i 0).toNat)%gr.Q:=λi hi=>by
  unfold g9;dsimp only;rw[kF _ (by omega)];unfold rF;rw[eM];unfold jK;rw[Ry (eA P.pr hi).1]
 have hl:(g9 gr key h l perm rs C).kk.length=perm.length:=by unfold g9;dsimp only;rw[bn,dM]
 have lu:(rg (iu gr.Q (mY gr key h l perm rs C)) l.length).length=perm.length:=by rw[bn,dM]
 have hu:∀j,j<perm.length->(rg (iu gr.Q (mY gr key h l perm rs C)) l.length).getD j 0=iu gr.Q (mY gr key h l perm rs C) j:=λj hj=>kF _ (by omega)
 have hFF:(g9 gr key h l perm rs C).f%gr.Q=(C.f+kf gr key h l perm rs C*dtN gr.Q rs (rg (jK gr key h l perm rs C) l.length) l.length)%gr.Q:=eM _ _;unfold qE gF;rw[zCG.1,zCG.2];refine⟨beq_iff_eq.2 (Ma k (perm:=perm) (b0:=1) (QQ k).symm P.m.pb (by omega) lj.1 lu (by omega) hl (al:=λj=>dl gr (l.getD j c0).A) (o:=λi=>dl gr (l.getD (perm.getD i 0).toNat c0).A+1*rs.getD i 0) (rs:=λi=>rs.getD i 0) (λj hj=>?_) hu (λi hi=>(yO k P.m hi).1) (λ_ _=>rfl) hK hFF (We k P) hf hF),beq_iff_eq.2 (Ma k (perm:=perm) (b0:=dl gr key) (kh k P.m.key) P.m.pb (by omega) lj.2 lu (by omega) hl (al:=λj=>dl gr (l.getD j c0).B) (o:=λi=>dl gr (l.getD (perm.getD i 0).toNat c0).B+dl gr key*rs.getD i 0) (rs:=λi=>rs.getD i 0) (λj hj=>?_) hu (λi hi=>(yO k P.m hi).2) (λ_ _=>rfl) hK hFF (We k P) hf hF)⟩
 ·rw[(HY (by omega)).1];exact kh k (HL P.m.c (by omega)).1
 rw[(HY (by omega)).2];exact kh k (HL P.m.c (by omega)).2
def zId(k:ao gr)(P:gQ gr key h l perm rs C):Cl gr key h l (zaR gr key l perm rs) (i9 gr key h l perm rs C) (g9 gr key h l perm rs C) (mY gr key h l perm rs C) (qo gr key h l perm rs C) (tW gr key h l perm rs C) (kf gr key h l perm rs C) l.length=Z:=by
 unfold Cl;rw[YZ λi hi=>by rw[zFC k P hi,zFg k P hi,zE1 k P hi];rfl,zG6 k P];have h1:=zFA k P;have e:(i9 gr key h l perm rs C).Pi.aC=gF gr key h l perm rs C:=rfl;rw[e,h1.1,h1.2];rfl
def zA0(k:ao gr){B:ct}(P:gQ gr key B.H l perm rs C):Ap gr B key l (zaR gr key l perm rs) (i9 gr key B.H l perm rs C)=J Z:=by
 rw[V4 k (WR k P) (zFU k P)];have h1:=zId k P;have e1:vpX gr key l (zaR gr key l perm rs) (i9 gr key B.H l perm rs C)=mY gr key B.H l perm rs C:=rfl;have e2:vpY gr key l (zaR gr key l perm rs) (i9 gr key B.H l perm rs C)=qo gr key B.H l perm rs C:=rfl;have e3:vpZ gr key l (zaR gr key l perm rs) (i9 gr key B.H l perm rs C)=tW gr key B.H l perm rs C:=rfl;have e4:vpT gr key l (zaR gr key l perm rs) (i9 gr key B.H l perm rs C)=kf gr key B.H l perm rs C:=rfl;have e5:(i9 gr key B.H l perm rs C).Pi.aV.getD 0 0=kf gr key B.H l perm rs C:=rfl;rw[e1,e2,e3,e4,e5,h1,AaJ];rfl
end
section
variable {gr:am}{key:Int}{B:ct}{l:List an}{perm rs s t w x:List Int}{a b d f:Int}
variable{i:Nat}
def W3(h:d4 perm=Z){j:Nat}(hi:i<perm.length)(hj:j<perm.length)(e:perm.getD i 0=perm.getD j 0):i=j:=by
 simp only[d4,bI,n6,eC]at h;rw[bT hi,bT hj]at e;exact(List.getElem_inj h.2).1 e
def zDl{Hs ss:List Int}(hp:d4 perm=Z)(hr:∀x∈perm,0<=x/\x<perm.length)(hi:i<perm.length):(zez gr Hs perm ss).getD (perm.getD i 0).toNat 0=aP gr [av gr gr.G (ss.getD (perm.getD i 0).toNat 0),Hs.getD i 0]:=by
 have h:=M7 (f:=tL gr Hs perm ss) (I:=λm s=>s.length=perm.length/\∀i,i<m->i<perm.length->s.getD (perm.getD i 0).toNat 0=aP gr [av gr gr.G (ss.getD (perm.getD i 0).toNat 0),Hs.getD i 0]) (s0:=List.replicate perm.length 0) (m:=perm.length) ⟨by simp,λi hi=>by omega⟩ (λm s hm ⟨h1,h2⟩=>by
  refine⟨by simp[tL,h1],λi hi cH=>?_⟩;unfold tL;have hx:=eA hr cH;have hy:=eA hr hm;by_cases e:m=i
  ·subst e;rw[nv,Aco (by omega),v8]
  ·have hne:(perm.getD m 0).toNat≠(perm.getD i 0).toNat:=λe2=>e (W3 hp hm cH (by omega))
   rw[nv,Acp hne,<-nv]
   exact h2 i (by omega) cH) perm.length (cy _)
 exact h.2 i hi hi
def zAM(h:d4 perm=Z):∃kK:Nat->Nat,∀j,j<perm.length->kK j<perm.length/\perm.getD (kK j) 0=(j:Int):=by
 have key:∀j:Nat,∃i,j<perm.length->i<perm.length/\perm.getD i 0=(j:Int):=by
  intro j;by_cases hj:j<perm.length
  ·obtain⟨i,hi,e⟩:=Ou (OW h (j:=(j:Int)) ⟨by omega,by omega⟩);exact⟨i,λ_=>⟨hi,by rw[bT hi,e]⟩⟩
  ·exact⟨0,λhh=>absurd hh hj⟩
 exact⟨λj=>Classical.choose (key j),λj hj=>Acq (key j) hj⟩
def zLW(q u v a:Int):a*u%q*v%q=a*v%q*u%q:=by
 rw[mO (a*u%q),eM,<-mO,mO (a*v%q),eM,<-mO];congr 1;rw[KF,AaI u v,KF]
theorem XM(q:Int)(e:List Int):∀n,((List.range n).map λ(i:Nat)=>(i:Int)).foldl (λa j=>a*e.getD j.toNat 0%q) 1=alN q e n
 |0=>rfl
 |n+1=>by
  rw[mN,l8,GA,XM q e n];rfl
theorem Vi(q:Int)(e:List Int):∀n,n<=perm.length->alN q (pQ e perm) n=(perm.take n).foldl (λa j=>a*e.getD j.toNat 0%q) 1
 |0,_=>rfl
 |n+1,h=>by
  rw[NC (by omega),<-Vi q e n (by omega)];show alN q _ n*(pQ e perm).getD n 0%q=_;have:(pQ e perm).getD n 0=e.getD (perm.getD n 0).toNat 0:=by simp[pQ,List.getD,show n<perm.length by omega]
  rw[this]
def zBO(h:d4 perm=Z)(q:Int)(e:List Int):alN q (pQ e perm) perm.length=alN q e perm.length:=by
 rw[Vi q e _ (cy _),f6,(RA h).foldl_eq' (λi _ j _ a=>zLW q _ _ a),XM]
def Vk{e:List Int}(hi:i<perm.length):(pQ e perm).getD i 0=e.getD (perm.getD i 0).toNat 0:=by simp[pQ,List.getD,hi]
def LA(eta:Int)(own t:List Int):Nat->Int
 |0=>eta
 |i+1=>t.getD i 0+LA eta own t i*own.getD i 0
theorem L8(k:ao gr){h eta:Int}(hh:h=pg gr eta)(own t:List Int):∀i,hN gr h own t i=pg gr (LA eta own t i)
 |0=>hh
 |i+1=>by
  show aP gr [av gr gr.G (t.getD i 0),av gr (hN gr h own t i) (own.getD i 0)]=_;rw[L8 k hh own t i,gW k];exact gD k _ _
theorem Wy{q:Int}(eta:Int)(own t:List Int):∀n,LA eta own t n%q=(yN q own t n+eta*alN q own n)%q
 |0=>by
  show eta%q=(0+eta*1)%q;rw[Uy,KB]
 |n+1=>by
  obtain⟨m1,h1⟩:=ek (Wy (q:=q) eta own t n);obtain⟨m2,h2⟩:=mw (t.getD n 0+own.getD n 0*yN q own t n) q;obtain⟨m3,h3⟩:=mw (alN q own n*own.getD n 0) q;show(t.getD n 0+LA eta own t n*own.getD n 0)%q=((t.getD n 0+own.getD n 0*yN q own t n)%q+eta*(alN q own n*own.getD n 0%q))%q;rw[h1,h2,h3];generalize t.getD n 0=a;generalize own.getD n 0=c;generalize yN q own t n=y;generalize alN q own n=p;have e:a+(y+eta*p+q*m1)*c=(a+c*y-q*m2+eta*(p*c-q*m3))+q*(m1*c+m2+eta*m3):=by grind
  rw[e,GC]
end
section
variable {gr:am}{key:Int}{B:ct}{l:List an}{perm rs s t w x:List Int}{a b d f:Int}
def Xu(k:ao gr){Hs ss:List Int}(hp:d4 perm=Z)(hr:∀x∈perm,0<=x/\x<perm.length)(hl:Hs.length=perm.length)(hH:∀x∈Hs,aK gr x=Z):∃cx:Nat->Int,(∀j,j<perm.length->(zez gr Hs perm ss).getD j 0=pg gr (cx j))/\
 ∀U:Nat->Int,cj (λj=>cx j*U j) perm.length=cj (λj=>ss.getD j 0*U j) perm.length+cj (λi=>dl gr (Hs.getD i 0)*U (perm.getD i 0).toNat) perm.length:=by
 obtain⟨kK,hi⟩:=zAM hp;refine⟨λj=>ss.getD j 0+dl gr (Hs.getD (kK j) 0),λj hj=>?_,λU=>?_⟩
 ·obtain⟨h1,h2⟩:=hi j hj;have:=zDl (gr:=gr) (Hs:=Hs) (ss:=ss) hp hr h1;rw[h2,dG]at this;rw[this];have e:=kh k (eA hH (show kK j<Hs.length by omega));show _=pg gr (ss.getD j 0+dl gr (Hs.getD (kK j) 0));generalize Hs.getD (kK j) 0=v at e;rw[<-gD k,<-e];rfl
 have e1:cj (λj=>(ss.getD j 0+dl gr (Hs.getD (kK j) 0))*U j) perm.length=cj (λj=>ss.getD j 0*U j+dl gr (Hs.getD (kK j) 0)*U j) perm.length:=Bb _ λj _=>Int.add_mul _ _ _
 have e2:=Zp hp (λj=>dl gr (Hs.getD (kK j.toNat) 0)*U j.toNat)
 have e3:cj (λi=>dl gr (Hs.getD (kK (perm.getD i 0).toNat) 0)*U (perm.getD i 0).toNat) perm.length=cj (λi=>dl gr (Hs.getD i 0)*U (perm.getD i 0).toNat) perm.length:=Bb _ λi hlt=>by
  have hx:=eA hr hlt;obtain⟨h1,h2⟩:=hi (perm.getD i 0).toNat (by omega);rw[W3 hp h1 hlt (by omega)]
 have e4:cj (λi:Nat=>dl gr (Hs.getD (kK (i:Int).toNat) 0)*U (i:Int).toNat) perm.length=cj (λj=>dl gr (Hs.getD (kK j) 0)*U j) perm.length:=rfl;rw[e1,zC0,<-e4,<-e2,e3]
def zGl{q z:Int}{eta xr xx oo:Nat->Int}{n:Nat}(h:∀i,i<n->xr i%q=(xx i+z*oo i)%q):cj (λi=>eta i*xr i) n%q=(cj (λi=>eta i*xx i) n+z*cj (λi=>eta i*oo i) n)%q:=by
 rw[<-I1]
 exact O9 _ λi hi=>by
  rw[mO,h i hi,<-mO,show eta i*(xx i+z*oo i)=eta i*xx i+z*(eta i*oo i)by grind]
def zFS{q a Sc Ss Se z r0 sm n1 n2:Int}(h1:Sc=Ss+Se)(h2:r0=a+z*sm+q*n1)(h3:sm=Ss+q*n2):a+(Sc+Se*(-1))*z=r0+q*(0-(n1+z*n2)):=by
 rw[h2,h3,h1];grind
def zNO(k:ao gr){a z r0 sm:Int}{fN Hs:List Int}{cx ex:Nat->Int}{Ss:Int}(hc:∀j,j<fN.length->fN.getD j 0=pg gr (cx j))(hH:∀j,j<Hs.length->Hs.getD j 0=pg gr (ex j))(h1:cj cx fN.length=Ss+cj ex Hs.length)(h2:r0%gr.Q=(a+z*sm)%gr.Q)(h3:sm%gr.Q=Ss%gr.Q):
 aP gr [av gr gr.G a,av gr (aP gr [aP gr fN,av gr (aP gr Hs) (-1)]) z]=av gr gr.G r0:=by
 obtain⟨n1,h2⟩:=ek h2;obtain⟨n2,h3⟩:=ek h3;rw[Y1 k hc,Y1 k hH,gW k,gD k,gW k,show av gr gr.G a=pg gr a from rfl,show av gr gr.G r0=pg gr r0 from rfl,gD k];exact zI _ (zFS h1 h2 h3)
def zFJ{q b Sx Sc z r1 D SsU SeU Sr n1 n2 n3:Int}(h1:Sc=SsU+SeU)(h2:r1=b+z*D+q*n1)(h3:D=SsU+q*n2)(h4:Sr=Sx+z*SeU+q*n3):(b+Sx)+Sc*z=(r1+Sr)+q*(0-(n1+z*n2+n3)):=by
 rw[h2,h3,h1,h4];grind
def zNk(k:ao gr){b z r1 D SsU SeU:Int}{fN Hs e x xr:List Int}{cx ex:Nat->Int}(hc:∀j,j<fN.length->fN.getD j 0=pg gr (cx j))(hH:∀j,j<Hs.length->Hs.getD j 0=pg gr (ex j))(le:fN.length=e.length)(lx:Hs.length=x.length)(lr:Hs.length=xr.length)
(h1:cj (λj=>cx j*e.getD j 0) fN.length=SsU+SeU)(h2:r1%gr.Q=(b+z*D)%gr.Q)(h3:D%gr.Q=SsU%gr.Q)(h4:cj (λi=>ex i*xr.getD i 0) Hs.length%gr.Q=(cj (λi=>ex i*x.getD i 0) Hs.length+z*SeU)%gr.Q):
 aP gr [aP gr [av gr gr.G b,zaO gr Hs x 1],av gr (zaO gr fN e 1) z]=aP gr [av gr gr.G r1,zaO gr Hs xr 1]:=by
 obtain⟨n1,h2⟩:=ek h2;obtain⟨n2,h3⟩:=ek h3;obtain⟨n3,h4⟩:=ek h4;rw[tR k (l:=fN) (m:=e) le hc,tR k (l:=Hs) (m:=x) lx hH,tR k (l:=Hs) (m:=xr) lr hH,show av gr gr.G b=pg gr b from rfl,show av gr gr.G r1=pg gr r1 from rfl,gW k,gD k,gD k,gD k];exact zI _ (zFJ h1 h2 h3 h4)
def zIh{q d gm eta al y z r2 n1 n2:Int}(h1:gm=y+eta*al+q*n1)(h2:r2=d+z*y+q*n2):d+(gm+eta*(0-al))*z=r2+q*(z*n1-n2):=by
 rw[h1,h2];grind
def zLp(k:ao gr){d z r2 gm eta al y h last:Int}(hh:h=pg gr eta)(hl:last=pg gr gm)(h1:gm%gr.Q=(y+eta*al)%gr.Q)(h2:r2%gr.Q=(d+z*y)%gr.Q):
 aP gr [av gr gr.G d,av gr (aP gr [last,av gr h (0-al)]) z]=av gr gr.G r2:=by
 obtain⟨n1,h1⟩:=ek h1;obtain⟨n2,h2⟩:=ek h2;rw[hh,hl,show av gr gr.G d=pg gr d from rfl,show av gr gr.G r2=pg gr r2 from rfl,gW k,gD k,gW k,gD k];exact zI _ (zIh h1 h2)
def zG0{q w gm x t own z CN xr n1 n2:Int}(h1:CN=w+z*t+q*n1)(h2:xr=x+z*own+q*n2):(w+gm*x)+(t+gm*own)*z=(CN+gm*xr)+q*(0-(n1+gm*n2)):=by
 rw[h1,h2];grind
def zNW(k:ao gr){w gm x t own z CN xr c0 c1:Int}(h0:c0=pg gr gm)(h1:c1=pg gr (t+gm*own))(h2:CN%gr.Q=(w+z*t)%gr.Q)(h3:xr%gr.Q=(x+z*own)%gr.Q):
 aP gr [aP gr [av gr gr.G w,av gr c0 x],av gr c1 z]=aP gr [av gr gr.G CN,av gr c0 xr]:=by
 obtain⟨n1,h2⟩:=ek h2;obtain⟨n2,h3⟩:=ek h3;rw[h0,h1,show av gr gr.G w=pg gr w from rfl,show av gr gr.G CN=pg gr CN from rfl,gW k,gW k,gW k,gD k,gD k,gD k];exact zI _ (zG0 h2 h3)
end
section
variable {gr:am}{key:Int}{B:ct}{l:List an}{perm rs s t w x:List Int}{a b d f:Int}
variable{i:Nat}{z:Int}
def Fu{F:Nat->Int}{n:Nat}(hi:i<n):((List.range n).map F).getD i 0=F i:=kF F hi
def zHF{n:Nat}{e own:List Int}(hi:i<n):(v6 gr z n e own rs s t w x a b d f).getD (4+i) 0=(w.getD i 0+z*t.getD i 0)%gr.Q:=by
 unfold v6;rw[tw (by simp;omega),tF (i:=4+i) (j:=i) rfl,Fu hi];rfl
def zGq{n:Nat}{e own:List Int}:(v6 gr z n e own rs s t w x a b d f).drop (n+4)=(List.range n).map (rsF gr.Q z x own):=by
 unfold v6;exact OI (by simp)
def SP{h:Int}{es ts:List Int}(hi:i<es.length):(zcp gr h es ts).getD i 0=hN gr h es ts (i+1):=Fu hi
def zA2{h:Int}{es ts:List Int}(hi:i<=es.length):bef h (zcp gr h es ts) i=hN gr h es ts i:=by
 unfold bef;cases i with
 |zero=>rfl
 |succ i=>rw[tF (a:=[h]) (j:=i) (by simp;omega),SP (by omega)]
def zFu(k:ao gr)(P:dS gr key B l perm rs s t w x a b d f)(z:Int):aP gr [av gr gr.G a,av gr (aP gr [aP gr (zez gr B.Hs perm s),av gr (aP gr B.Hs) (-1)]) z]=av gr gr.G ((a+z*smN gr.Q s l.length)%gr.Q):=by
 have hq:=k.q;have dM:=P.m.pl;have M8:=P.bs.l;have gP:=(P.fN k).1;obtain⟨cx,c1,c2⟩:=Xu k (ss:=s) P.m.pb P.Mg (by omega) P.bs.s;have c3:=c2 (λ_=>1);simp only[Uy]at c3;refine zNO k (cx:=cx) (ex:=λi=>dl gr (B.Hs.getD i 0)) (Ss:=cj (λj=>s.getD j 0) perm.length) (λj hj=>c1 j (by omega)) (λj hj=>kh k (eA P.bs.s hj)) ?_ (eM _ _) ?_
 ·rw[gP,M8,<-dM];exact c3
 rw[<-dM];exact ZW (by omega) s _
def PT(P:dS gr key B l perm rs s t w x a b d f)(hi:i<perm.length):((List.range l.length).map (rsF gr.Q z x (pmO gr key B l perm rs s))).getD i 0%gr.Q=(x.getD i 0+z*(pmE gr key B l perm rs s).getD (perm.getD i 0).toNat 0)%gr.Q:=by
 have dM:=P.m.pl;rw[Fu (by omega)];unfold rsF pmO;rw[eM,Vk hi]
def zET(k:ao gr)(P:dS gr key B l perm rs s t w x a b d f)(z:Int):aP gr [aP gr [av gr gr.G b,zaO gr B.Hs x 1],av gr (zaO gr (zez gr B.Hs perm s) (pmE gr key B l perm rs s) 1) z]=aP gr [av gr gr.G ((b+z*dtN gr.Q s (pmE gr key B l perm rs s) l.length)%gr.Q),zaO gr B.Hs ((List.range l.length).map (rsF gr.Q z x (pmO gr key B l perm rs s))) 1]:=by
 have hq:=k.q;have dM:=P.m.pl;have M8:=P.bs.l;have gP:=(P.fN k).1;have rY:=(P.e k).1;have gZ:=P.c.x.1;obtain⟨cx,c1,c2⟩:=Xu k (ss:=s) P.m.pb P.Mg (by omega) P.bs.s;have c3:=c2 (λj=>(pmE gr key B l perm rs s).getD j 0);refine zNk k (cx:=cx) (ex:=λi=>dl gr (B.Hs.getD i 0)) (D:=dtN gr.Q s (pmE gr key B l perm rs s) l.length) (λj hj=>c1 j (by omega)) (λj hj=>kh k (eA P.bs.s hj)) (by omega) (by omega) (by simp;omega) (SsU:=cj (λj=>s.getD j 0*(pmE gr key B l perm rs s).getD j 0) perm.length) (SeU:=cj (λi=>dl gr (B.Hs.getD i 0)*(pmE gr key B l perm rs s).getD (perm.getD i 0).toNat 0) perm.length) ?_ (eM _ _) ?_ ?_
 ·rw[gP,<-dM];exact c3
 ·rw[<-dM];exact KW (by omega) _ _ _
 rw[M8,<-dM];exact zGl λi hi=>by rw[dM];exact PT P hi
def zF9(k:ao gr)(P:dS gr key B l perm rs s t w x a b d f)(z:Int):aP gr [av gr gr.G d,av gr (aP gr [(zcp gr B.H (pmO gr key B l perm rs s) t).getD (l.length-1) 0,av gr B.H (0-alN gr.Q (pmE gr key B l perm rs s) (pmE gr key B l perm rs s).length)]) z]=av gr gr.G ((d+z*yN gr.Q (pmO gr key B l perm rs s) t l.length)%gr.Q):=by
 have hn:=P.m.n;have dM:=P.m.pl;have rY:=(P.e k).1;have hol:=(P.o k).1;have hH:=kh k P.bs.h;have B3:=zBO P.m.pb gr.Q (pmE gr key B l perm rs s);rw[SP (by omega),show l.length-1+1=l.length by omega,rY];refine zLp k hH (L8 k hH _ _ _) ?_ (eM _ _);have:=Wy (q:=gr.Q) (dl gr B.H) (pmO gr key B l perm rs s) t l.length;rw[this];unfold pmO;rw[<-dM,B3]
def zCO(k:ao gr)(P:dS gr key B l perm rs s t w x a b d f):dtN gr.Q rs (pmO gr key B l perm rs s) l.length%gr.Q=cj (λi=>rs.getD i 0*(pmE gr key B l perm rs s).getD (perm.getD i 0).toNat 0) perm.length%gr.Q:=by
 have hq:=k.q;rw[KW (by omega),<-P.m.pl];refine gn (· %gr.Q) (Bb _ λi hi=>?_);unfold pmO;rw[Vk hi]
def U7(k:ao gr)(P:dS gr key B l perm rs s t w x a b d f)(z:Int):
 aP gr [aP gr [av gr gr.G (i64.wrap (0-f)),zaO gr (sdV (zaR gr key l perm rs)).1 x 1],av gr (zaO gr (sdV l).1 (pmE gr key B l perm rs s) 1) z]=aP gr [av gr gr.G (i64.wrap (0-(f+z*dtN gr.Q rs (pmO gr key B l perm rs s) l.length)%gr.Q)),zaO gr (sdV (zaR gr key l perm rs)).1 ((List.range l.length).map (rsF gr.Q z x (pmO gr key B l perm rs s))) 1]/\
 aP gr [aP gr [av gr key (i64.wrap (0-f)),zaO gr (sdV (zaR gr key l perm rs)).2 x 1],av gr (zaO gr (sdV l).2 (pmE gr key B l perm rs s) 1) z]=aP gr [av gr key (i64.wrap (0-(f+z*dtN gr.Q rs (pmO gr key B l perm rs s) l.length)%gr.Q)),zaO gr (sdV (zaR gr key l perm rs)).2 ((List.range l.length).map (rsF gr.Q z x (pmO gr key B l perm rs s))) 1]:=by
 have hq:=k.q;have dM:=P.m.pl;have rY:=(P.e k).1;have gZ:=P.c.x.1;have e8:=mF l;have lj:=mF (zaR gr key l perm rs);rw[kv]at lj;have hf:=GH k P.c.f;have hF:i64.wrap (0-(f+z*dtN gr.Q rs (pmO gr key B l perm rs s) l.length)%gr.Q)=0-(f+z*dtN gr.Q rs (pmO gr key B l perm rs s) l.length)%gr.Q:=GH k (f8 (by omega) _);refine⟨Ma k (perm:=perm) (b0:=1) (QQ k).symm P.m.pb (by omega) lj.1 (by omega) (by omega) (by simp;omega) (al:=λj=>dl gr (l.getD j c0).A) (U:=λj=>(pmE gr key B l perm rs s).getD j 0) (o:=λi=>dl gr (l.getD (perm.getD i 0).toNat c0).A+1*rs.getD i 0) (rs:=λi=>rs.getD i 0) (λj hj=>?_) (λ_ _=>rfl) (λi hi=>(yO k P.m hi).1) (λ_ _=>rfl) (λi hi=>PT P hi) (eM _ _) (zCO k P) hf hF,Ma k (perm:=perm) (b0:=dl gr key) (kh k P.m.key) P.m.pb (by omega) lj.2 (by omega) (by omega) (by simp;omega) (al:=λj=>dl gr (l.getD j c0).B) (U:=λj=>(pmE gr key B l perm rs s).getD j 0) (o:=λi=>dl gr (l.getD (perm.getD i 0).toNat c0).B+dl gr key*rs.getD i 0) (rs:=λi=>rs.getD i 0) (λj hj=>?_) (λ_ _=>rfl) (λi hi=>(yO k P.m hi).2) (λ_ _=>rfl) (λi hi=>PT P hi) (eM _ _) (zCO k P) hf hF⟩
 ·rw[(HY (by omega)).1];exact kh k (HL P.m.c (by omega)).1
 rw[(HY (by omega)).2];exact kh k (HL P.m.c (by omega)).2
def zHS(k:ao gr)(P:dS gr key B l perm rs s t w x a b d f)(z:Int)(hi:i<l.length):aP gr [zkc gr B.H (pmO gr key B l perm rs s) t w x i,av gr ((zcp gr B.H (pmO gr key B l perm rs s) t).getD i 0) z]=aP gr [av gr gr.G ((w.getD i 0+z*t.getD i 0)%gr.Q),av gr (bef B.H (zcp gr B.H (pmO gr key B l perm rs s) t) i) (((List.range l.length).map (rsF gr.Q z x (pmO gr key B l perm rs s))).getD i 0)]:=by
 have hol:=(P.o k).1;have hH:=kh k P.bs.h;rw[SP (by omega),zA2 (by omega),Fu hi];exact zNW k (L8 k hH _ _ _) (L8 k hH _ _ (i+1)) (eM _ _) (eM _ _)
def zDE(k:ao gr)(P:dS gr key B l perm rs s t w x a b d f):∀z∈pmC gr key B l perm rs s t w x a b d f,aK gr z=Z:=by
 have dM:=P.m.pl;have gZ:=P.c.x.1;have M8:=P.bs.l;have kA:(zaR gr key l perm rs).length=l.length:=by rw[kv,P.m.pl]
 have e8:=mF (zaR gr key l perm rs)
 have d1:aK gr (zaO gr (sdV (zaR gr key l perm rs)).1 x 1)=Z:=by
  rw[tR k (f:=λi=>dl gr (l.getD (perm.getD i 0).toNat c0).A+1*rs.getD i 0) (by omega) λi hi=>(yO k P.m (by omega)).1];exact Ek k _
 have d2:aK gr (zaO gr (sdV (zaR gr key l perm rs)).2 x 1)=Z:=by
  rw[tR k (f:=λi=>dl gr (l.getD (perm.getD i 0).toNat c0).B+dl gr key*rs.getD i 0) (by omega) λi hi=>(yO k P.m (by omega)).2];exact Ek k _
 have d3:aK gr (zaO gr B.Hs x 1)=Z:=by
  rw[tR k (f:=λi=>dl gr (B.Hs.getD i 0)) (by omega) λi hi=>kh k (eA P.bs.s hi)];exact Ek k _
 have g:=nG k;unfold pmC xt;refine jp (Zu (kH k g _) (qW k (kH k g _) d3) (kH k g _) (qW k (kH k g _) d1) (qW k (kH k P.m.key _) d2)) (nk λi hi=>?_);exact qW k (kH k g _) (kH k (Rs k P.bs.h _ _ _) _)
def zHb(k:ao gr)(P:dS gr key B l perm rs s t w x a b d f):oa gr l.length (j3 gr key B l perm rs s t w x a b d f)=Z:=by
 have hq:=k.q;have cN:0<gr.Q:=by omega
 have hr:∀(z:Int) (w t:List Int) (n:Nat),∀y∈(List.range n).map (rsF gr.Q z w t),E9 gr.Q y:=λz w t n=>nk λi _=>by unfold rsF;exact f8 cN _
 have h4:∀y∈(j3 gr key B l perm rs s t w x a b d f).Pi.aD,E9 gr.Q y:=by
  refine jp (jp (λy hy=>?_) (hr _ _ _ _)) (hr _ _ _ _);simp only[fK,jf,jg]at hy;rcases hy with rfl|rfl|rfl|rfl<;>exact f8 cN _
 simp only[oa,bI,eC];exact⟨(P.fN k).1,(P.mp k).1,(P.n8 k).1,rfl,by simp[j3,v6];omega,bm.2 (P.fN k).2,bm.2 (P.mp k).2,bm.2 (zDE k P),Vo h4⟩
def zHj(k:ao gr)(P:dS gr key B l perm rs s t w x a b d f):tu gr key B l (zaR gr key l perm rs) (j3 gr key B l perm rs s t w x a b d f)=Z:=by
 have kA:(zaR gr key l perm rs).length=l.length:=by rw[kv,P.m.pl]
 have e1:wvE gr key l (zaR gr key l perm rs) (j3 gr key B l perm rs s t w x a b d f)=pmE gr key B l perm rs s:=rfl;have e2:wvZ gr key l (zaR gr key l perm rs) (j3 gr key B l perm rs s t w x a b d f)=pmZ gr key B l perm rs s t w x a b d f:=rfl;have e3:(j3 gr key B l perm rs s t w x a b d f).Pi.aV.getD 0 0=pmZ gr key B l perm rs s t w x a b d f:=rfl;unfold tu;rw[t5 kA,zHb k P,e1,e2,e3,AaJ,gV,gV,gV];have hr:(j3 gr key B l perm rs s t w x a b d f).Pi.aD=v6 gr (pmZ gr key B l perm rs s t w x a b d f) l.length (pmE gr key B l perm rs s) (pmO gr key B l perm rs s) rs s t w x a b d f:=rfl;have Cj:(j3 gr key B l perm rs s t w x a b d f).Pi.aC=xt gr key B.Hs (zaR gr key l perm rs) x a b d f++(List.range l.length).map (zkc gr B.H (pmO gr key B l perm rs s) t w x):=rfl;unfold mI m8;rw[hr,Cj,zGq];generalize pmZ gr key B l perm rs s t w x a b d f=z;have gP:(j3 gr key B l perm rs s t w x a b d f).cu=zez gr B.Hs perm s:=rfl;have Cy:(j3 gr key B l perm rs s t w x a b d f).aF=zcp gr B.H (pmO gr key B l perm rs s) t:=rfl;rw[gP,Cy];refine bm.2 λi hi=>?_
 have hi:=kp.1 hi;unfold pi hlB;rw[v9];rcases i with _|_|_|_|_|j
 ·exact zFu k P z
 ·exact zET k P z
 ·exact zF9 k P z
 ·exact(U7 k P z).1
 ·exact(U7 k P z).2
 have hj:j<l.length:=by omega
 rw[tF (i:=j+1+1+1+1+1) (j:=j) (by simp[xt];omega),tF (i:=j+1+1+1+1+1) (j:=j) (by simp[JH];omega),tF (i:=j+1+1+1+1+1) (j:=j) (by simp[Fs];omega),Fu hj,Fu hj];unfold zjx;rw[zHF hj];exact zHS k P z hj
def zAY(k:ao gr)(P:dS gr key B l perm rs s t w x a b d f):FQ gr B key l (zaR gr key l perm rs) (j3 gr key B l perm rs s t w x a b d f)=J Z:=by
 rw[Wb k P.m.key P.m.n P.m.c (vx k P.m) P.bs,zHj k P]
end
section
variable {gr:am}{key:Int}{l:List an}{perm rs:List Int}
def N0(m:mQ gr key l perm rs):fI gr key l=Z/\j5 gr l.length perm rs=Z:=A3.1 (Nc.2 m)
def Qd(k:ao gr)(m:mQ gr key l perm rs):(cX 1 12 (zaR gr key l perm rs).length&&(zaR gr key l perm rs).all (b8 gr))=Z:=by
 have hn:=m.n;rw[kv,m.pl,bI];exact⟨by simp[cX];omega,bm.2 (vx k m)⟩
def zHm(k:ao gr){B:ct}(hB:lN gr (l.length:Int)=J (B,Z))(bs:tG gr l.length B)(m:mQ gr key l perm rs){aH:List Int}(hl:aH.length=4*l.length+4)(he:aH.all (dn gr)=Z):∃p,pJ gr key l perm rs aH=J (p,Z)/\tt gr key l (zaR gr key l perm rs) p=J (Z,Z):=by
 have hq:=k.q;have hp:=k.p;have hn:=m.n;obtain⟨h1,h2⟩:=N0 m
 have w4:i64.wrap (i64.wrap (4*(l.length:Int))+4)=((4*l.length+4:Nat):Int):=by
  rw[aI (n:=4*(l.length:Int)) (by omega) (by omega)];exact cM (by omega) (by omega)
 have e3:((aH.length:Int) !=((4*l.length+4:Nat):Int))=aa:=by rw[hl];simp
 have qg:=yd (gr:=gr) (by omega) (by omega) aH;rw[he]at qg;obtain⟨s,t,w,x,a,b,d,f,rfl,hC⟩:=WG hl he;have P:dS gr key B l perm rs s t w x a b d f:=⟨m,bs,hC⟩
 refine⟨j3 gr key B l perm rs s t w x a b d f,?_,?_⟩
 ·unfold pJ;rw[u0 k key l hB,h1,AA k (by omega),show(decide (perm.length=l.length)&&d4 perm&&(decide (rs.length=l.length)&&rs.all (dn gr)))=j5 gr l.length perm rs from rfl,h2,w4,e3,qg];exact bE (ag rfl (ay (ψ:=(· =aa)) (bt rfl (ag rfl (bt rfl (bt rfl (ag rfl (aj rfl)))))) λb hb=>by subst hb;exact bt rfl (ag (UZ k P) (aj rfl))))
 unfold tt;rw[u0 k key l hB,h1,yh k,Qd k m];exact bE (ag rfl (ay (ψ:=(· =aa)) (bt rfl (ag rfl (aj rfl))) λb hb=>by subst hb;exact bt rfl (ag (zAY k P) (aj rfl))))
def zFM(k:ao gr)(hd:okD gr=Z)(m:mQ gr key l perm rs){aH:List Int}(hl:aH.length=8*l.length+2)(he:aH.all (dn gr)=Z):∃p,rn gr key l perm rs aH=J (p,Z)/\tU gr key l (zaR gr key l perm rs) p=J (Z,Z):=by
 have hq:=k.q;have hp:=k.p;have hn:=m.n;obtain⟨h1,h2⟩:=N0 m;obtain⟨B,b1,b2,b3,b4⟩:=BD k hd key (l:=l) (by omega)
 have w8:i64.wrap (i64.wrap (8*(l.length:Int))+2)=((8*l.length+2:Nat):Int):=by
  rw[aI (n:=8*(l.length:Int)) (by omega) (by omega)];exact cM (by omega) (by omega)
 have e3:((aH.length:Int) !=((8*l.length+2:Nat):Int))=aa:=by rw[hl];simp
 have qg:=yd (gr:=gr) (by omega) (by omega) aH;rw[he]at qg;obtain⟨C,rfl,hC⟩:=zAy (q:=gr.Q) hl (zD he);have P:gQ gr key B.H l perm rs C:=⟨m,b3,hC⟩
 refine⟨i9 gr key B.H l perm rs C,?_,?_⟩
 ·unfold rn;rw[b4,h1,AA k (by omega),show(decide (perm.length=l.length)&&d4 perm&&(decide (rs.length=l.length)&&rs.all (dn gr)))=j5 gr l.length perm rs from rfl,h2,w8,e3,qg];exact bE (ag rfl (ay (ψ:=(· =aa)) (bt rfl (ag rfl (bt rfl (bt rfl (ag rfl (aj rfl)))))) λb hb=>by subst hb;exact bt rfl (ag (zAn k P) (aj rfl))))
 unfold tU;rw[b4,h1,yh k,Qd k m];exact bE (ag rfl (ay (ψ:=(· =aa)) (bt rfl (ag rfl (aj rfl))) λb hb=>by subst hb;exact bt rfl (ag (zA0 k P) (aj rfl))))
end
def iX(l:List an):List Int:=(l.length:Int)::l.flatMap λc=>[c.A,c.B]
def fR(L:List (List Int)):List Int:=(L.length:Int)::L.flatMap dh
def zAA(l:List an):(l.flatMap λc=>[c.A,c.B]).length=2*l.length:=by
 induction l with
 |nil=>rfl
 |cons e l ih=>show([e.A,e.B]++l.flatMap λc=>[c.A,c.B]).length=_;rw[bP,ih];simp;omega
def zAV(l:List an):(iX l).length=2*l.length+1:=by unfold iX;rw[dX,zAA]
def PU(L:List (List Int))(i:Nat):((L.take i).flatMap dh).length<=(L.flatMap dh).length:=by
 have h:(L.take i).flatMap dh++(L.drop i).flatMap dh=L.flatMap dh:=by rw[<-KH,De]
 rw[<-h,bP];omega
def Z4{L:List (List Int)}{i:Nat}(hi:i<L.length):L[i].length+1<=(L.flatMap dh).length:=by
 have h:=PU L (i+1);rw[iO hi,KH,bP]at h;have e:([L[i]].flatMap dh).length=L[i].length+1:=by simp[dh]
 omega
def zAZ{L:List (List Int)}(h:(fR L).length<=400)(hd:(fR L).all cD=Z):zp L=J (fR L,Z):=by
 have hn:(L.flatMap dh).length+1<=400:=by simpa[fR]using h
 unfold zp
 have e:aS (σ:=(List Int)) (β:=(List Int) ⊕ (List Int×Bool)) (λi5 s4=>(ix L i5).bind λaU=>(xT aU).bind λbH=>
  gd ((s4.length+bH.length)*8<=140737488355328/\s4.length+bH.length<=4611686018427387904)<|
  if decide (400<((s4++bH).length:Int))=Z then(J (.out (.inr ([],aa))))else(J (.go (s4++bH)))) (λs4=>.inl s4) (L.length) 0 [(L.length:Int)]=J (.inl (fR L)):=by
  refine bE (d7 (λi s=>s=(L.length:Int)::(L.take i).flatMap dh/\i<=L.length) ⟨rfl,by omega⟩ ?_ λs h=>by rw[h.1,f6];rfl);rintro i s hi ⟨rfl,_⟩;have h1:=PU L (i+1);have h2:=Z4 hi
  have e1:(L.length:Int)::(L.take i).flatMap dh++dh L[i]=(L.length:Int)::(L.take (i+1)).flatMap dh:=by
   rw[iO hi,KH];simp
  have e2:=gn List.length e1;rw[bP,dX,dX]at e2;refine bD hi (ag (In (by omega)) (aG (by rw[dX];omega) (bt ?_ (aj ⟨e1,by omega⟩))));rw[bP,dX];exact Dd (by omega)
 have hr:eO (fR L)=Z:=by unfold eO;rw[hd,t5 (by omega)];rfl
 have Abb:zV (fR L)=J (fR L,Z):=by rw[Le,aB hr]
 rw[e,aR,Sum.elim_inl,Abb,aR]
def zBg(p:bZ):(iL p).length=p.aC.length+p.aV.length+p.aD.length+3:=by simp[iL,dh];omega
def IQ(p:bZ):Bool:=((p.aC.length:Int)==0)&&(((p.aV.length:Int)==0)&&((p.aD.length:Int)==0))
section
variable {gr:am}
def VN(p:bZ):DD p=J (IQ p):=by
 unfold DD;rw[TF,TF];rfl
def Xn{p:bZ}(h1:p.aC.length<=1048576)(h2:p.aV.length<=1048576)(h3:p.aD.length<=1048576):Fj p=J (IQ p):=by
 unfold Fj IQ;rw[aI (n:=(p.aC.length:Int)+(p.aV.length:Int)) (by omega) (by omega),aI (n:=(p.aC.length:Int)+(p.aV.length:Int)+(p.aD.length:Int)) (by omega) (by omega)];congr 1;rw[UG];simp only[bI,v9];omega
end
variable{L:List (List Int)}
def DS(a:Int)(R:List Int)(b:Bool):uw (a::R) b=J (a,(R,b)):=by
 unfold uw;rw[az (by simp;omega)];refine bE (ag (a:=a) rfl (aG (by simp) (aj ?_)));rw[f6];rfl
def MS{p R:List Int}(hp:p.length<=1000)(hR:R.length<=1000):tA (dh p++R) Z=J (p,(R,Z)):=by
 unfold tA;have e:dh p++R=(p.length:Int)::(p++R):=rfl;rw[e,DS,aR,tP];have hl:(p++R).length=p.length+R.length:=bP;have h1:(decide (0<=(p.length:Int))&&decide ((p.length:Int)<=((p++R).length:Int)))=Z:=by simp;omega
 dsimp only;rw[h1];refine bE (ag rfl (bt rfl (aG (by omega) (aG (by rw[dG];omega) (ag (a:=p) ?_ (aG (by omega) (aG (by rw[dG];omega) (aj ?_))))))))
 ·unfold vj;rw[dG,OA,List.take_left,eE (by omega)]
 rw[dG,f6,Ot]
theorem Yl:AO [] Z=J Z:=rfl
def zGv{l:List Int}(h:l.length<=400)(hd:l.all cD=Z):eO l=Z:=by unfold eO;rw[hd,t5 (by omega)];rfl
def zCF(h:(fR L).length<=400)(hd:(fR L).all cD=Z):yY (fR L)=J (L,Z):=by
 have hn:(L.flatMap dh).length+1<=400:=by simpa[fR]using h
 have hlen:L.length<=(L.flatMap dh).length:=by
  clear h hd hn;induction L with
  |nil=>simp
  |cons p L ih=>rw[Dc,bP,dX];show L.length+1<=(p.length+1)+(L.flatMap dh).length;omega
 unfold yY;rw[Ii,zGv h hd,aR];have e:fR L=(L.length:Int)::L.flatMap dh:=rfl
 have Sy:(if((fR L).length:Int)<(L.length:Int)then((fR L).length:Int)else(L.length:Int))=(L.length:Int):=by
  rw[az (by rw[e,dX];omega)]
 have hw:dI (σ:=(List Int×Bool)×(List (List Int))×Int) (λdw=>
  if decide (dw.2.2<(L.length:Int))=Z then(
  (tA dw.1.1 dw.1.2).bind λiT=>
  gd ((dw.2.1.length+1)*24<=140737488355328/\dw.2.1.length+1<=4611686018427387904)<|
  J (.go ((iT.2.1,iT.2.2),dw.2.1++[iT.1],i64.wrap (dw.2.2+1))))else(
  J (.out ((dw.1.1,dw.1.2),dw.2.1)))) ((L.flatMap dh,Z),[],0)=J (([],Z),L):=by
  refine bE (kx L.length (λi s=>s=(((L.drop i).flatMap dh,Z),L.take i,(i:Int))/\i<=L.length) ⟨rfl,by omega⟩ ?_ ?_)
  ·rintro i s hi ⟨rfl,_⟩;have kP:(L.drop i).flatMap dh=dh L[i]++(L.drop (i+1)).flatMap dh:=by rw[Ox hi,Dc]
   have cU:((L.drop i).flatMap dh).length<=(L.flatMap dh).length:=by
    have h:(L.take i).flatMap dh++(L.drop i).flatMap dh=L.flatMap dh:=by rw[<-KH,De]
    rw[<-h,bP];omega
   rw[kP,bP]at cU;have tX:=Z4 hi;refine fU (by simpa using hi) (ag (a:=(L[i],((L.drop (i+1)).flatMap dh,Z))) (by dsimp only;rw[kP];exact MS (by omega) (by omega)) (aG (by rw[nu];omega) (aj ⟨?_,by omega⟩)));dsimp only;rw[iO hi,aI (n:=(i:Int)+1) (by omega) (by omega)];rfl
  ·rintro s ⟨rfl,_⟩;refine bt (by simp) (aj ?_);show((((L.drop L.length).flatMap dh,Z),L.take L.length):(List Int×Bool)×List (List Int))=_;rw[List.drop_length,f6];rfl
 refine bE (ag (a:=((L.length:Int),(L.flatMap dh,Z))) (by rw[e];exact DS _ _ _) (ag (a:=(([],Z),L)) (by rw[Sy];exact hw) (ag (zAZ h hd) (ay (ψ:=(· =aa)) (ag Yl (bt rfl (bt rfl (ag (GW _ _) (aj (by simp)))))) ?_))));rintro _ rfl;exact bt rfl (aj rfl)
def zFd(l:List an):Jf l l=J Z:=by
 unfold Jf;refine bE (bt (by simp) (ay (ψ:=λv=>v=.inl ()) (d7 (λ_ _=>True) trivial ?_ λs _=>rfl) ?_))
 ·rintro i s hi _;exact bD hi (bD hi (bt (by simp) (aj trivial)))
 rintro _ rfl;exact aj rfl
def B5{l:List Int}:eO l=Z↔l.length<=400/\l.all cD=Z:=by
 unfold eO;rw[bI,eC];constructor<;>rintro⟨a,b⟩<;>exact⟨by omega,b⟩
def zBV(p:bZ):iL p=dh p.aC++(dh p.aV++(dh p.aD++[])):=by simp[iL]
def Xz(h1:L.length<=1048576)(h2:∀p∈L,p.length<=1048576):zp L=J (if eO (fR L)=Z then(fR L,Z)else([],aa)):=by
 unfold zp;refine bE (ay (ψ:=λc=>c=.inl (fR L)\/(c=.inr ([],aa)/\eO (fR L)=aa)) (d7 (λi s=>s=(L.length:Int)::(L.take i).flatMap dh/\(s.length<=400)) ⟨rfl,by simp⟩ ?_ λs h=>.inl (by rw[h.1,f6];rfl)) ?_)
 ·rintro i s hi ⟨rfl,hs⟩;have hx:=h2 _ (e9 hi)
  have e1:(L.length:Int)::(L.take i).flatMap dh++dh L[i]=(L.length:Int)::(L.take (i+1)).flatMap dh:=by
   rw[iO hi,KH];simp
  have hc:(dh L[i]).length=L[i].length+1:=rfl;refine bD hi (ag (In (by omega)) (aG (by rw[hc];omega) ?_));rw[e1];refine aZ (λh=>aj (.inr ⟨rfl,?_⟩)) λh=>aj ⟨rfl,by have:=Uw h;omega⟩
  have hg:=we h;have:=PU L (i+1);cases hr:eO (fR L)with
  |false=>rfl
  |true=>
   have:=(B5.1 hr).1;unfold fR at this;rw[dX]at this hg;omega
 rintro c (rfl|⟨rfl,hr⟩)
 ·rw[Sum.elim_inl,Le,aR];exact aj (by split<;>rfl)
 exact aj (by rw[hr];rfl)
def zAh(R:List Int)(b:Bool):Rn (uw R b) λy=>y.2.1.length<=R.length:=by
 cases R with
 |nil=>exact⟨_,rfl,by simp⟩
 |cons a R=>exact⟨_,DS a R b,by simp⟩
def zFN{R:List Int}(h:R.length<=1048576)(b:Bool):Rn (tA R b) λy=>y.1.length<=R.length/\y.2.1.length<=R.length:=by
 unfold tA;refine ay (zAh R b) λy hy=>ag (tP _ _ _) (aZ (λ_=>aj ⟨by simp,hy⟩) λh2=>?_)
 have h2:0<=y.1/\y.1<=(y.2.1.length:Int):=by simpa using h2
 have hl:((y.2.1.take y.1.toNat).drop 0).length<=R.length:=by rw[OA,nu];omega
 refine aG h2.1 (aG (by omega) (ag (zBj (by omega)) (aG h2.1 (aG (by omega) (aj ⟨hl,?_⟩)))));dsimp only;rw[OC,nu];omega
def zxu(R:List Int)(b:Bool):AO R b=J (b&&((R.length:Int)==0)):=by
 unfold AO;cases b<;>rfl
def zHC{l:List Int}(hl:l.length<=1048576):Rn (yY l) λy=>y.2=Z->eO l=Z/\l=fR y.1:=by
 unfold yY;refine ag (Ii l) (ay (zAh l _) λz hz=>?_);obtain⟨M,hM⟩:∃M:Int,M=if(l.length:Int)<z.1 then(l.length:Int)else z.1:=⟨_,rfl⟩
 rw[<-hM];have hM2:M<=l.length:=by rw[hM];split<;>omega
 refine ay (ψ:=λc=>c.2.length<=1048576/\∀p∈c.2,p.length<=1048576) (kx M.toNat (λi s=>s.2.2=(i:Int)/\s.2.1.length=i/\s.1.1.length<=1048576/\∀p∈s.2.1,p.length<=1048576) ⟨rfl,rfl,by dsimp only;omega,λp h=>by cases h⟩ ?_ ?_) ?_
 ·rintro i ⟨⟨R,b⟩,o,k⟩ hi ⟨e1,h2,h3,h4⟩;have e1:k=(i:Int):=e1;subst e1;have h2:o.length=i:=h2;refine fU (t5 (by dsimp only;omega)) (ay (zFN h3 b) λy hy=>aG (by dsimp only;omega) (aj ⟨?_,?_,gj hy.2 h3,λp hp=>?_⟩))
  ·show i64.wrap ((i:Int)+1)=_;rw[aI (by omega) (by omega)];rfl
  ·show(o++[y.1]).length=i+1;rw[bP,h2];rfl
  rcases jY.1 hp with h|h
  ·exact h4 p h
  rw[gB.1 h];exact gj hy.1 h3
 ·rintro⟨⟨R,b⟩,o,k⟩ ⟨e1,h2,h3,h4⟩;have e1:k=(M.toNat:Int):=e1;subst e1;have h2:o.length=M.toNat:=h2;exact bt (Dd (by dsimp only;omega)) (aj ⟨by dsimp only;omega,h4⟩)
 rintro c ⟨c1,c2⟩;refine ag (Xz c1 c2) (ay (ψ:=λb=>b=aa->eO (fR c.2)=Z/\fR c.2=l) (ag (zxu _ _) (aZ (λ_=>aj (by simp)) λ_=>aZ (λ_=>aj (by simp)) λh2=>ag (GW _ _) (aj λe=>?_))) ?_)
 ·cases hr:eO (fR c.2)with
  |false=>rw[hr]at h2;cases h2
  |true=>
   rw[hr]at e;exact⟨rfl,by simpa using e⟩
 intro b hb;refine aZ (λh=>aj (by simp)) λh=>aj λ_=>?_
 obtain⟨h1,h2⟩:=hb h;rw[<-h2];exact⟨h1,rfl⟩
def VI{l:List an}(hl:l.length<=1048576):F5 l=J (if eO (iX l)=Z then(iX l,Z)else([],aa)):=by
 unfold F5;refine bE (ay (ψ:=(· =iX l)) (d7 (λi s=>s=(l.length:Int)::((l.take i).flatMap λc=>[c.A,c.B])) rfl ?_ λs h=>by rw[h,f6];rfl) ?_)
 ·rintro i s hi rfl;have hn:=zAA (l.take i);rw[nu]at hn;refine bD hi (aG (by rw[dX];omega) (aj ?_));show(l.length:Int)::_++_=(l.length:Int)::_;rw[iO hi,KH];rfl
 rintro _ rfl;exact ag (Le _) (aj (by cases eO (iX l)<;>rfl))
def zDM{l:List an}(h:eO (iX l)=Z):HK (iX l)=J (l,Z):=by
 have hn:=zAV l;have hl:=(B5.1 h).1;have e:iX l=(l.length:Int)::l.flatMap (λc=>[c.A,c.B]):=rfl;have Sy:(if((iX l).length:Int)<(l.length:Int)then((iX l).length:Int)else(l.length:Int))=(l.length:Int):=az (by omega);unfold HK;refine bE (ag (Ii _) (ag (a:=((l.length:Int),(l.flatMap (λc=>[c.A,c.B]),Z))) (by rw[h,e];exact DS _ _ _) ?_));dsimp only;rw[Sy];refine ay (ψ:=(· =(([],Z),l))) (kx l.length (λi s=>s=(((l.drop i).flatMap (λc=>[c.A,c.B]),Z),l.take i,(i:Int))/\i<=l.length) ⟨rfl,by omega⟩ ?_ ?_) ?_
 ·rintro i s hi ⟨rfl,_⟩;have kP:(l.drop i).flatMap (λc=>[c.A,c.B])=l[i].A::l[i].B::(l.drop (i+1)).flatMap (λc=>[c.A,c.B]):=by rw[Ox hi,Dc];rfl
  refine fU (by simpa using hi) (ag (a:=(l[i].A,(l[i].B::(l.drop (i+1)).flatMap (λc=>[c.A,c.B]),Z))) (by dsimp only;rw[kP];exact DS _ _ _) (ag (DS _ _ _) (aG (by rw[nu];omega) (aj ⟨?_,by omega⟩))));dsimp only;rw[iO hi,aI (n:=(i:Int)+1) (by omega) (by omega)];rfl
 ·rintro s ⟨rfl,_⟩;refine bt (by simp) (aj ?_);show((((l.drop l.length).flatMap (λc=>[c.A,c.B]),Z),l.take l.length):(List Int×Bool)×List an)=_;rw[List.drop_length,f6];rfl
 rintro _ rfl;refine ag (VI (l:=l) (by omega)) (ay (ψ:=(· =aa)) (ag (zxu _ _) (bt rfl (bt (by rw[h];rfl) (ag (GW _ _) (aj (by simp[h])))))) ?_);rintro _ rfl;exact bt rfl (aj rfl)
def zCX{p:bZ}(h:eO (iL p)=Z):Jg (iL p)=J (p,Z):=by
 have hl:=(B5.1 h).1;have he:=zBg p;have h3:∀q:List Int,(dh q).length=q.length+1:=λq=>rfl
 unfold Jg;refine bE (ag (Ii _) ?_);rw[h,zBV];exact ag (MS (by omega) (by rw[bP,bP,h3,h3];simp;omega)) (ag (MS (by omega) (by rw[bP,h3];simp;omega)) (ag (MS (by omega) (by simp)) (ag Yl (bt rfl (aj rfl)))))
def zDW(h:eO (fR L)=Z):yY (fR L)=J (L,Z):=zCF (B5.1 h).1 (B5.1 h).2
theorem K4:((1:Int)==1)=Z:=rfl
theorem fQ:((2:Int)==2)=Z:=rfl
def mz:¬((2:Int)==1)=Z:=by simp
abbrev np:ec:=⟨0,[],⟨[],[],⟨[],[],[]⟩⟩,⟨[],[],[],⟨[],[],[]⟩⟩⟩
def zB4(l:List Int):Ik l=J (decide (l.length<=24)&&d4 l):=by
 unfold Ik;by_cases h:l.length<=24
 ·have h2:decide ((l.length:Int)<=24)=Z:=by simp;omega
  rw[h2,aB rfl,aI (n:=(l.length:Int)-1) (by omega) (by omega),Pq,zBi (by omega)];unfold d4;show Option.bind (Option.bind (J (l.all (cX 0 ((l.length:Int)-1)))) _) _=_;cases l.all (cX 0 ((l.length:Int)-1))<;>simp[h]
 have h2:decide ((l.length:Int)<=24)=aa:=by simp;omega
 simp[h2,h]
def mf(arg:Int)(n:Nat):Nat:=if arg=1 then 5*n+4 else 9*n+2
def kG(arg:Int):Bool:=arg==1||arg==2
def H3(a:Int):Fv a=J (kG a):=by
 unfold Fv kG;cases a==1<;>rfl
def zFf(a:Int){n:Nat}(hn:n<=100):HJ a (n:Int)=J ((mf a n:Nat):Int):=by
 unfold HJ mf;by_cases h:a=1
 ·subst h;rw[aB K4,aB rfl,aI (n:=5*(n:Int)) (by omega) (by omega),aI (by omega) (by omega)];congr 1
 rw[az (by simpa using h),az h,aI (n:=9*(n:Int)) (by omega) (by omega),aI (by omega) (by omega)];congr 1
def QG(a:Int){n:Nat}(hn:n<=100):DC a (n:Int)=J (if(cX 1 12 n&&kG a)=Z then(((mf a n:Nat):Int),Z)else(0,aa)):=by
 unfold DC;rw[rZ,aR];show(if(!cX 1 12 (n:Int))=Z then _ else _)=_;cases cX 1 12 (n:Int)with
 |false=>rfl
 |true=>
  rw[wc,az (by simp),gV];unfold kG mf;by_cases h:a=1
  ·subst h;rw[aB K4,aB (show((1:Int)==1||(1:Int)==2)=Z from rfl),aB rfl,aI (n:=5*(n:Int)) (by omega) (by omega),aI (by omega) (by omega)];congr 2
  ·by_cases h2:a=2
   ·subst h2;rw[az mz,aB fQ,aB (show((2:Int)==1||(2:Int)==2)=Z from rfl),az h,aI (n:=9*(n:Int)) (by omega) (by omega),aI (by omega) (by omega)];congr 2
   ·rw[az (by simpa using h),az (by simpa using h2),az (by simp[h,h2])]
structure SG (gr:am) (key:Int) (l:List an) (arg:Int) (s:ec):Prop where
 xk:ao gr
 xn:1<=l.length/\l.length<=12
 mb:fI gr key l=Z
 xo:∃perm rs,mQ gr key l perm rs/\s.Out=zaR gr key l perm rs
 xa:s.dD=arg
 xm:arg=1->s.Poly=vt/\tt gr key l s.Out s.br=J (Z,Z)
 xp:arg=2->s.br=sk/\tU gr key l s.Out s.Poly=J (Z,Z)
 ar:kG arg=Z
 ln:s.br.cu.length<=1000/\s.br.aF.length<=1000/\lp 1000 s.br.Pi/\s.Poly.bQ.length<=1000/\s.Poly.bL.length<=1000/\s.Poly.aF.length<=1000/\lp 1000 s.Poly.Pi
section
variable {gr:am}{key:Int}{l:List an}{perm rs:List Int}
def zGX(k:ao gr){B:ct}(hB:lN gr (l.length:Int)=J (B,Z))(m:mQ gr key l perm rs){aH:List Int}(hl:aH.length=4*l.length+4)(he:aH.all (dn gr)=aa):pJ gr key l perm rs aH=J (sk,aa):=by
 have hq:=k.q;have hp:=k.p;have hn:=m.n;obtain⟨h1,h2⟩:=N0 m
 have w4:i64.wrap (i64.wrap (4*(l.length:Int))+4)=((4*l.length+4:Nat):Int):=by
  rw[aI (n:=4*(l.length:Int)) (by omega) (by omega)];exact cM (by omega) (by omega)
 have e3:((aH.length:Int) !=((4*l.length+4:Nat):Int))=aa:=by rw[hl];simp
 have qg:=yd (gr:=gr) (by omega) (by omega) aH;rw[he]at qg;unfold pJ;rw[u0 k key l hB,h1,AA k (by omega),show(decide (perm.length=l.length)&&d4 perm&&(decide (rs.length=l.length)&&rs.all (dn gr)))=j5 gr l.length perm rs from rfl,h2,w4,e3,qg];exact bE (ag rfl (ay (ψ:=(· =Z)) (bt rfl (ag rfl (bt rfl (bt rfl (ag rfl (aj rfl)))))) λb hb=>by subst hb;exact fU rfl (aj rfl)))
def zEP(k:ao gr)(hd:okD gr=Z)(m:mQ gr key l perm rs){aH:List Int}(hl:aH.length=8*l.length+2)(he:aH.all (dn gr)=aa):rn gr key l perm rs aH=J (vt,aa):=by
 have hq:=k.q;have hp:=k.p;have hn:=m.n;obtain⟨h1,h2⟩:=N0 m;obtain⟨B,b1,b2,b3,b4⟩:=BD k hd key (l:=l) (by omega)
 have w8:i64.wrap (i64.wrap (8*(l.length:Int))+2)=((8*l.length+2:Nat):Int):=by
  rw[aI (n:=8*(l.length:Int)) (by omega) (by omega)];exact cM (by omega) (by omega)
 have e3:((aH.length:Int) !=((8*l.length+2:Nat):Int))=aa:=by rw[hl];simp
 have qg:=yd (gr:=gr) (by omega) (by omega) aH;rw[he]at qg;unfold rn;rw[b4,h1,AA k (by omega),show(decide (perm.length=l.length)&&d4 perm&&(decide (rs.length=l.length)&&rs.all (dn gr)))=j5 gr l.length perm rs from rfl,h2,w8,e3,qg];exact bE (ag rfl (ay (ψ:=(· =Z)) (bt rfl (ag rfl (bt rfl (bt rfl (ag rfl (aj rfl)))))) λb hb=>by subst hb;exact fU rfl (aj rfl)))
end
def S8{l:List Int}(n:Nat):(l.take n).drop 0=l.take n:=by rw[OA]
end Go.Pm
