/-
  FnStages: plain laws.
  No condition.
-/
import Derived.Test.YtnojafnlicbhpaaGreatY41
open Bool renaming false→aa,true→Z
open Option renaming some→J
set_option linter.defProp false
namespace Go.Pm
open Go.Am IntKind
def KM:=@List.flatMap_append
def a2s:=@Classical.choose_spec
set_option linter.unusedVariables false
set_option linter.unusedSimpArgs false
section
attribute [local irreducible] chG ziD zdR zaO alN sdV wvL wvE wvZ
section
variable {gr:am}{key:Int}{B:cr}{l out:List an}{p:cH}
def zA3(k:ao gr){h:Int}(hh:aK gr h=Z){ch x r l5 r5:List Int}{n:Nat}(CC:ch.length=n/\∀z∈ch,aK gr z=Z)(hx:x.length=n)(hr:r.length=2*n+4)(hn:n<=100)(h5:l5.length=5)(h6:r5.length=5):aS (σ:=(List Int)×List Int×Int) (λuI il=>
 (ix ch uI).bind λyn=>
 gd ((il.1.length+1)*8<=140737488355328/\il.1.length+1<=4611686018427387904)<|
 (ix r (i64.wrap (4+uI))).bind λNG=>
 (ix x uI).bind λqO=>
 (cD gr gr.G NG).bind λIE=>
 (cD gr il.2.2 qO).bind λIe=>
 (d8 gr [IE,Ie]).bind λqI=>
 gd ((il.2.1.length+1)*8<=140737488355328/\il.2.1.length+1<=4611686018427387904)<|
 J (.go (il.1++[yn],il.2.1++[qI],yn))) (λil=>(il.1,il.2.1)) ch.length 0 (l5,r5,h)=J (l5++ch,r5++(List.range n).map (zjL gr h ch x r)):=by
 refine bE (ec (λi y=>y=(l5++ch.take i,r5++(List.range i).map (zjL gr h ch x r),bef h ch i)) (by simp[bef]) ?_ ?_)
 ·rintro i y hi rfl;have h4:4+i<r.length:=by omega
  have Ca:i<x.length:=by omega
  have hb:=(EH k hh CC.2 i (by omega)).2;refine bD hi (aG (by simp;omega) ?_);rw[show i64.wrap (4+(i:Int))=((4+i:Nat):Int)from cL (by omega) (by omega)];refine bD h4 (bD Ca (ag (fe k (fF k) _) (ag (fe k hb _) (ag (iD k (bJ k _ _) (bJ k _ _)) (aG (by simp;omega) (aj ?_))))));show _=_
  have hbe:bef h ch (i+1)=ch[i]:=by
   have:i+1<([h]++ch).length:=by simp;omega
   unfold bef;rw[bU this];rfl
  rw[iO hi,mO,l8,hbe];simp only[jD,p9,zjL,bU h4,bU Ca,gU]
 rintro y rfl;rw[f6,CC.1]
def UV{P:Int->Prop}{a b c d e:Int}(h1:P a)(h2:P b)(h3:P c)(h4:P d)(h5:P e):∀x∈[a,b,c,d,e],P x:=by
 intro x hx;simp only[fK,jf,jg]at hx;rcases hx with rfl|rfl|rfl|rfl|rfl<;>assumption
set_option maxHeartbeats 4000000 in
def zHA(k:ao gr)(hk:aK gr key=Z)(hn:1<=l.length/\l.length<=12)(lc:∀c∈l,b8 gr c=Z)(oc:∀c∈out,b8 gr c=Z)(hb:tU gr l.length B):Kt gr key B l out p=J (tB gr key B l out p):=by
 have hp:=k.p;have hq:=k.q;unfold Kt;refine bE (ay (ψ:=(· = !(decide (out.length=l.length)&&(oK gr l.length p&&(p.Pi.aW.getD 0 0==wvZ gr key l out p))))) ?_ ?_)
 ·rw[show((out.length:Int) !=(l.length:Int))= !decide (out.length=l.length)by rw[bne,iG]];refine aZ (λg=>aj ?_) λg=>ag (zG6 k (by omega) p) (aZ (λg2=>aj ?_) λg2=>?_)
  ·have:decide (out.length=l.length)=aa:=by simpa using g
   rw[this];rfl
  ·have g3:decide (out.length=l.length)=Z:=by simpa using g
   have g4:oK gr l.length p=aa:=by simpa using g2
   rw[g3,g4];rfl
  have g3:decide (out.length=l.length)=Z:=by simpa using g
  have g4:oK gr l.length p=Z:=by simpa using g2
  have V:=To (p:=p) hk hn lc oc hb (wg g3) g4;have kh:0<p.Pi.aW.length:=by rw[V.cO];omega
  exact bD (k:=0) kh (ag (V.a1E k) (aj (by rw[g3,g4,bU kh];rfl)))
 rintro b rfl;refine aZ (λg=>aj ?_) λg=>?_
 ·rw[qd]at g;unfold tB;rw[<-KJ (oK gr l.length p),<-KJ,g];rfl
 rw[Bool.not_eq_false']at g;obtain⟨g1,g23⟩:=A4.1 g;obtain⟨g2,g3⟩:=A4.1 g23;have V:=To (p:=p) hk hn lc oc hb (wg g1) g2;have hv:tB gr key B l out p=(List.range (5+l.length)).all (pC gr (wvZ gr key l out p) p.Pi.aC (mp gr B l (wvE gr key l out p) p) (m8 gr key B l.length out p)):=by unfold tB;rw[g1,g2,g3];rfl
 rw[hv];obtain⟨rB,zZ⟩:=V.e k;have kh:0<p.Pi.aW.length:=by rw[V.cO];omega
 have hz:p.Pi.aW[0]=wvZ gr key l out p:=by
  have:=eq_of_beq g3
  rwa [bU kh]at this
 have w4:i64.wrap ((l.length:Int)+4)=((l.length+4:Nat):Int):=cL (by omega) (by omega);have w1:i64.wrap ((l.length:Int)-1)=((l.length-1:Nat):Int):=cL (by omega) (by omega);have zx:(p.Pi.aD.take p.Pi.aD.length).drop (l.length+4)=p.Pi.aD.drop (l.length+4):=by rw[f6]
 have fj:=V.ZN.1;have g9:(p.Pi.aD.drop (l.length+4)).length=l.length:=by rw[OJ,fj];omega
 have Be:=L5 (show 1<gr.Q by omega) (wvE gr key l out p) (wvE gr key l out p).length;have wal:i64.wrap (0-alN gr.Q (wvE gr key l out p) (wvE gr key l out p).length)=0-alN gr.Q (wvE gr key l out p) (wvE gr key l out p).length:=aI (by have:=Be.1;have:=Be.2;omega) (by have:=Be.1;omega);rw[w4,w1,dG,zx];have eW:=sA k lc;have lO:=sA k oc;have ry:=mH l;have hol:=mH out;rw[V.ol]at hol;have hH:=dT k hb.h;have hK:=dT k hk;have Cd:=F0 k hb.s;have A9:=F0 k V.fS.2;have Pv:=hb.l;have gQ:=V.fS.1;have a0k:=V.me.1;have a2x:=V.oM.1;have r0:0<p.Pi.aD.length:=by omega
 have r1:1<p.Pi.aD.length:=by omega
 have r2:2<p.Pi.aD.length:=by omega
 have r3:3<p.Pi.aD.length:=by omega
 have C5:l.length-1<p.aF.length:=by omega
 have xi:=dT k (iE V.me.2 C5);have qB:=F6 k Cd;have qC:=F6 k A9
 have hL:mp gr B l (wvE gr key l out p) p=[aP gr [aP gr p.cu,av gr (aP gr B.Hs) (-1)],zaO gr p.cu (wvE gr key l out p) 1,aP gr [p.aF[l.length-1],av gr B.H (0-alN gr.Q (wvE gr key l out p) (wvE gr key l out p).length)],zaO gr (sdV l).1 (wvE gr key l out p) 1,zaO gr (sdV l).2 (wvE gr key l out p) 1]++p.aF:=by
  unfold mp Ki;rw[bU C5]
 have Yx:∀y∈mp gr B l (wvE gr key l out p) p,R9 y:=by
  rw[hL];intro y hy;rcases jY.1 hy with h|h
  ·exact UV (P:=R9) (nF k qC (bJ k _ _)) (fE k _ _) (nF k xi (bJ k _ _)) (fE k _ _) (fE k _ _) y h
  ·exact dT k (V.me.2 y h)
 have hR:m8 gr key B l.length out p=[av gr gr.G p.Pi.aD[0],aP gr [av gr gr.G p.Pi.aD[1],zaO gr B.Hs (p.Pi.aD.drop (l.length+4)) 1],av gr gr.G p.Pi.aD[2],aP gr [av gr gr.G (i64.wrap ((0:Int)-p.Pi.aD[3])),zaO gr (sdV out).1 (p.Pi.aD.drop (l.length+4)) 1],aP gr [av gr key (i64.wrap ((0:Int)-p.Pi.aD[3])),zaO gr (sdV out).2 (p.Pi.aD.drop (l.length+4)) 1]]++(List.range l.length).map (zjL gr B.H p.aF (p.Pi.aD.drop (l.length+4)) p.Pi.aD):=by
  unfold m8 Dy;rw[bU r0,bU r1,bU r2,bU r3]
 have VQ:(mp gr B l (wvE gr key l out p) p).length=5+l.length:=by rw[hL];simp[a0k];omega
 have hRl:(m8 gr key B l.length out p).length=5+l.length:=by rw[hR];simp;omega
 refine bD (k:=0) kh ?_;rw[hz];refine aG (by omega) (aG (by omega) (ag (V.VU k).2 (ag (zzB k zZ) (ag (rE (by omega)).2 (ag (rE (by rw[V.ol];omega)).2 (bD C5 ?_))))));rw[wal];refine ag (GM k A9) (ag (GM k Cd) (ag (zDn k qB.1 qB.2) (ag (iD k qC (bJ k _ _)) (ag (oO k A9 (by omega)) (ag (fe k hH _) (ag (iD k xi (bJ k _ _)) (ag (oO k eW.1 (by omega)) (ag (oO k eW.2 (by omega)) (bD (k:=0) r0 (bD (k:=1) r1 (bD (k:=2) r2 (bD (k:=3) r3 ?_))))))))))));refine ag (fe k (fF k) _) (ag (fe k (fF k) _) (ag (oO k Cd (by omega)) (ag (iD k (bJ k _ _) (fE k _ _)) (ag (fe k (fF k) _) (ag (fe k (fF k) _) (ag (oO k lO.1 (by omega)) (ag (iD k (bJ k _ _) (fE k _ _)) (ag (fe k hK _) (ag (oO k lO.2 (by omega)) (ag (iD k (bJ k _ _) (fE k _ _)) (ag (a:=(mp gr B l (wvE gr key l out p) p,m8 gr key B l.length out p)) ((zA3 k hb.h V.me g9 fj (by omega) rfl rfl).trans (by rw[hL,hR])) ?_)))))))))));dsimp only;generalize rz:wvZ gr key l out p=z;rw[rz]at*;generalize mp gr B l (wvE gr key l out p) p=L at VQ Yx;generalize m8 gr key B l.length out p=R at hRl;refine⟨_,zCX (pC gr z p.Pi.aC L R) aa Z λi hi=>?_,?_⟩
 ·have cF:i<p.Pi.aC.length:=by omega
  have Gj:i<R.length:=by omega
  rw[jt hi,aR,jt cF,aR,jt Gj,aR,fe k (iE Yx hi),aR,iD k (dT k (iE V.oM.2 cF)) (bJ k _ _),aR];unfold pC hlB;rw[bU hi,bU cF,bU Gj,bne];cases (aP gr [p.Pi.aC[i],av gr L[i] z]==R[i])<;>rfl
 rw[VQ];cases (List.range (5+l.length)).all (pC gr z p.Pi.aC L R)<;>rfl
def zND(gr:am)(key:Int){l:List an}(hl:l.length<=20)(out:List an)(p:cH):∃v t,tn gr key l out p=J (v,t)/\Fz gr key l out p=J (v,t):=by
 by_cases k:ao gr
 ·obtain⟨B,tb,b1,b2,b3⟩:=TS k (n:=l.length) (by omega);unfold tn Fz;rw[vf k key l b2,vj k,vj k,xt k,b1,show(aK gr key&&(cX 1 12 l.length&&l.all (b8 gr)))=fG gr key l from rfl];cases h1:fG gr key l
  ·exact⟨aa,aa,rfl,rfl⟩
  have jO:=h1;simp only[fG,cX,bI,eC]at jO;obtain⟨c1,c2,c3⟩:=jO;rw[c1];cases h2:(cX 1 12 out.length&&out.all (b8 gr))
  ·cases tb<;>exact⟨aa,aa,rfl,rfl⟩
  simp only[bI]at h2;cases tb
  ·exact⟨aa,aa,rfl,rfl⟩
  have e1:=XI (p:=p) (out:=out) k c1 (l:=l) (by omega) (bm.1 c3) (bm.1 h2.2) (b3 rfl);have e2:=zHA (p:=p) (out:=out) k c1 (l:=l) (by omega) (bm.1 c3) (bm.1 h2.2) (b3 rfl);refine⟨tB gr key B l out p,Z,?_,?_⟩
  ·simp[e1]
  simp[e2]
 refine⟨aa,aa,?_,?_⟩
 ·unfold tn;rw[Nz k];rfl
 unfold Fz;rw[EL k];rfl
end
end
section
variable {gr:am}{key:Int}{B:cr}{l:List an}{perm rs s t w x:List Int}{a b d f:Int}
def zAc{gr:am}{l:List Int}(h:∀z∈l,E9 gr.Q z):l.all (di gr)=Z:=bm.2 λz hz=>UP.2 (h z hz)
end
def SP(n:Nat)(h:Int->Int):Prop:=∃c:List Int,c.length<=n/\∀x,evI c x=h x
variable{at_ q dE:Int}{c0 code:List Int}{i n:Nat}{y:Nat×Nat}
def SP.up{m:Nat}{h:Int->Int}(hh:SP n h)(hm:n<=m):SP m h:=by
 obtain⟨b,b1,b2⟩:=hh;exact⟨b,by omega,b2⟩
def ce(f:Nat->Int):Nat->Int
 |0=>0
 |n+1=>ce f n+f n
theorem QS{q:Int}{f g:Nat->Int}:∀n,(∀k,k<n->f k%q=g k%q)->ce f n%q=ce g n%q
 |0,_=>rfl
 |n+1,h=>by
  show(ce f n+f n)%q=(ce g n+g n)%q;exact zDV (QS n λk hk=>h k (by omega)) (h n (by omega))
theorem Bs{f g:Nat->Int}:∀n,(∀k,k<n->f k=g k)->ce f n=ce g n
 |0,_=>rfl
 |n+1,h=>by show ce f n+f n=ce g n+g n;rw[Bs n λk hk=>h k (by omega),h n (by omega)]
def O8{α:Type}{e:Option α}{φ χ:α->Prop}(h1:Rn e φ)(h2:Rn e χ):Rn e (λx=>φ x/\χ x):=by
 obtain⟨a,e1,p1⟩:=h1;obtain⟨b,e2,p2⟩:=h2;rw[e1]at e2;cases e2;exact⟨a,e1,p1,p2⟩
def QU(gr:am)(s:ByteArray)(k:Int):Bool:=(List.range 60).any λc=>kx gr s k (c:Int) !=1
def okD(gr:am):Bool:=QU gr ⟨#[104]⟩ 0&&(List.range 13).all λi=>QU gr ⟨#[104,115]⟩ (i:Int)
def V6{gr:am}(k:ao gr){s:ByteArray}{i y:Int}(h:QU gr s i=Z)(hy:qx gr s i y):0<y:=by
 rcases hy with⟨c,hc,rfl,_,_⟩|⟨_,h4⟩
 ·have:=QY k s i c;omega
 obtain⟨c,hc,h5⟩:=a0A.1 h;rw[h4 c (by have:=kp.1 hc;omega)]at h5;cases h5
def zzQ{gr:am}(k:ao gr)(hd:okD gr=Z)(hn:n<=13):Rn (lw gr (n:Int)) (λx=>x.2=Z):=by
 obtain⟨d1,d2⟩:=A4.1 hd;obtain⟨y,_,JK,Qn⟩:=MV k (s:=⟨#[104]⟩) (by decide) (i:=0) rfl;have hy:=V6 k d1 Qn;unfold lw;refine ag JK (ay (ψ:=λp=>p.2.2=Z) (kK n (λm p=>p.2.2.2=(m:Int)/\p.2.1.length=m/\p.2.2.1=Z) ⟨rfl,rfl,rfl⟩ ?_ ?_) ?_)
 ·rintro m ⟨w,l,t,c⟩ hm ⟨h1,h2,h3⟩;simp only at h1 h2 h3;subst h1 h3;obtain⟨z,_,z2,z3⟩:=MV k (s:=⟨#[104,115]⟩) (by decide) (i:=(m:Int)) (jj.2 ⟨by omega,by omega⟩);have hz:=V6 k (bm.1 d2 m (kp.2 (by omega))) z3;refine aZ (λ_=>?_) λh=>absurd h (by simp;omega)
  refine ag z2 (ay (ψ:=λb=>b=Z) (fV rfl (aj (by simpa using hz))) λb hb=>?_);subst hb;refine aG (by dsimp only;omega) (aj ⟨?_,by simp[h2],rfl⟩);show i64.wrap ((m:Int)+1)=_;rw[aI (by omega) (by omega)];rfl
 ·rintro⟨w,l,t,c⟩ ⟨h1,h2,h3⟩;simp only at h1 h2 h3;subst h1 h3;exact aZ (λh=>absurd h (by simp)) λ_=>aj rfl
 rintro⟨w,l,t⟩ h;have h:t=Z:=h;subst h;refine ay (ψ:=λb=>b=aa) (bt (by simpa using hy) (aj rfl)) λb hb=>?_
 subst hb;exact bt rfl (aj rfl)
def NZ{gr:am}(k:ao gr)(hd:okD gr=Z)(hn:n<=13):∃b,sB gr (n:Int)=J (b,Z)/\lw gr (n:Int)=J (b,Z)/\tU gr n b:=by
 obtain⟨b,t,h1,h2,h3⟩:=TS k (n:=n) (by omega);obtain⟨x,e1,e2⟩:=zzQ k hd hn;rw[h2]at e1;cases e1;have e2:t=Z:=e2;subst e2;exact⟨b,h1,h2,h3 rfl⟩
def L1(n b:Nat):Bool:=decide (2<=n)&&decide (n<b*b)&&(List.range b).all λd=>decide (d<2)||decide (n<d*d)||n%d !=0
def VL{b:Nat}(h:L1 n b=Z):Pr n:=by
 simp only[L1,bI,eC]at h;obtain⟨⟨h1,h2⟩,h3⟩:=h;refine⟨h1,λd a1 a2=>?_⟩;have hd:d<b:=a0x λcV=>by have:=rj cV cV;omega
 have:=bm.1 h3 d (kp.2 hd);simp only[tZ,eC,bne_iff_ne,ne_eq]at this;omega
def Vf(n:Nat):Bool:=(List.range 3500).any λd=>decide (2<=d)&&(decide (d*d<=n)&&n%d==0)
def zHO(h:Vf n=Z):¬Pr n:=by
 obtain⟨d,_,hd⟩:=a0A.1 h;simp only[bI,eC,wa]at hd;exact λhp=>hp.2 d hd.1 hd.2.1 hd.2.2
def Q4(q K:Nat):Bool:=decide (q<=1000000)&&(decide (1<=K)&&(decide (1+K*q<=2000000000)&&(L1 q 1001&&(L1 (1+K*q) 3500&&(2^K%(1+K*q) !=1&&(List.range K).all λk=>k==0||Vf (1+k*q))))))
def ki(x:Nat×Nat):am:=⟨((1+x.2*x.1:Nat):Int),(x.1:Int),((2^x.2%(1+x.2*x.1):Nat):Int)⟩
def Yl{q K:Nat}(h:Q4 q K=Z):uM (q:Int)=J (ki (q,K),Z):=by
 simp only[Q4,bI,eC,bne_iff_ne,ne_eq]at h;obtain⟨h1,h2,h3,h4,h5,h6,h7⟩:=h;have pj:=VL h4;have Qt:=VL h5;have hq:=pj.1
 have hnp:∀k,1<=k->k<K->¬Pr (1+k*q):=λk a b=>by
  have:=bm.1 h7 k (kp.2 b);rw[tZ,wa]at this;exact zHO (this.resolve_left (by omega))
 unfold uM;refine bE (ay (ψ:=λb=>b=aa) ?_ ?_)
 ·refine ag (rY _ _ _) (bt (by simp;omega) (ag (Dt _ (by omega)) (aj ?_)));rw[ng.2 pj];rfl
 rintro _ rfl;refine bt rfl (ay (ψ:=λb=>b=.inr (ki (q,K),Z)) ?_ ?_)
 ·rw[aI (by omega) (by omega)];refine sO (λs=>∃k:Nat,1<=k/\k<=K/\s=((1+k*q:Nat):Int)) (λs=>(2001000001-s).toNat) ⟨1,by omega,h2,by rw[Kw];omega⟩ ?_;rintro s ⟨k,hk,hkK,rfl⟩;have cV:k*q<=K*q:=gA q hkK;refine fV (by simp;omega) (ag (Dt _ (by omega)) ?_);by_cases e:k=K
  ·subst e;rw[ng.2 Qt];refine bt rfl ?_
   have Cp:i64.wrap ((i64.wrap (((1+k*q:Nat):Int)-1)).tdiv (q:Int))=(k:Int):=by
    have e1:((1+k*q:Nat):Int)-1=(k:Int)*(q:Int):=by push_cast;omega
    have e2:(k:Int)*(q:Int)=((k*q:Nat):Int):=by push_cast;rfl
    have e3:k*1<=k*q:=OG k (by omega);rw[e1,aI (n:=(k:Int)*(q:Int)) (by omega) (by omega),a2n _ (by omega),aI (by omega) (by omega)]
   simp only[Cp];have e3:k*1<=k*q:=OG k (by omega);have CO:=(py (a:=2) (e:=(k:Int)) (m:=((1+k*q:Nat):Int)) (by omega) (by omega) (by omega) (by omega) (by omega) (by omega)).2;rw[dG,dG]at CO;refine ay (ψ:=λh=>h=2) (sO (λs=>s=2) (λ_=>0) rfl ?_) ?_
   ·rintro _ rfl;refine aG (by omega) (ag CO (bt ?_ (aj rfl)));have h8:¬(((2^k%(1+k*q):Nat):Int)=1):=λe=>h6 (by exact_mod_cast e)
    exact beq_eq_false_iff_ne.2 h8
   rintro _ rfl;exact aG (by omega) (ag CO (aj rfl))
  have hn:=hnp k hk (by omega)
  have hf:lU ((1+k*q:Nat):Int)=aa:=by
   cases hb:lU ((1+k*q:Nat):Int)
   ·rfl
   ·exact absurd (ng.1 hb) hn
  rw[hf];have Me:(k+1)*q<=K*q:=gA q (by omega);rw[jZ]at Me
  have e1:i64.wrap (((1+k*q:Nat):Int)+(q:Int))=((1+(k+1)*q:Nat):Int):=by
   rw[aI (by omega) (by omega),jZ];omega
  refine fV rfl (aj ⟨⟨k+1,by omega,by omega,e1⟩,?_⟩);rw[e1,jZ];omega
 rintro _ rfl;exact aj rfl
def Qg(gr:am):Bool:=decide (gr.Q<2)||(decide (gr.P<3)||((gr.Q%2==0&&gr.Q !=2)||((gr.P-1)%gr.Q !=0||okD gr)))
def Dg(gr:am):Prop:=ao gr->okD gr=Z
def zGw{gr:am}(h:Qg gr=Z):Dg gr:=by
 intro k;have hp:=k.p;have hq:=k.q;have hd:=k.d;have pj:=k.pq;simp only[Qg,tZ,bI,eC,wa,bne_iff_ne,ne_eq]at h;rcases h with h|h|h|h|h
 ·omega
 ·omega
 ·exfalso;obtain⟨n,hn⟩:=fJ (show 0<=gr.Q by omega);rw[hn,dG]at pj;exact pj.2 2 (by omega) (by omega) (by omega)
 ·exfalso;apply h;obtain⟨n,hn⟩:=fJ (show 0<=gr.Q by omega);obtain⟨m,hm⟩:=fJ (show 0<=gr.P-1 by omega);have e:gr.P.toNat-1=m:=by omega
  rw[e,hn,dG]at hd;rw[hm,hn,<-o7,hd];rfl
 exact h
def CK(gr:am):List am:=gr::([0,gr.P+2,4,-7].map λx=>⟨x,gr.Q,gr.G⟩)++([0,1,gr.Q+1,gr.P-1].map λx=>⟨gr.P,x,gr.G⟩)++([0,1,gr.P-1,gr.P,gr.G+1].map λx=>⟨gr.P,gr.Q,x⟩)
def zo7(gr:am):Bool:=(CK gr).all Qg
def nZ:List (Nat×Nat):=[(3,2),(5,2),(7,4),(11,2),(13,4),(23,2)]
def yd:List (Nat×Nat):=[(101,6),(1009,10),(1019,2),(65537,14),(999983,12)]
def zyF:((nZ++yd).all λx=>Q4 x.1 x.2)=Z:=by decide+kernel
def zA6:zo7 ⟨1000000007,500000003,4⟩=Z:=by decide+kernel
def zBP:(yd.all λx=>zo7 (ki x))=Z:=by decide+kernel
def zIl(x:Nat×Nat)(e:Nat):am:=⟨(ki x).P,(ki x).Q,(((ki x).G.toNat^e%(ki x).P.toNat:Nat):Int)⟩
def zzu:(nZ.all λx=>(List.range x.1).all λe=>zo7 (zIl x e))=Z:=by decide+kernel
attribute [local irreducible] okD zo7
def zCC{x:Int}(hx:x∈[(3:Int),5,5,7,11,11,13,23]):∃y∈nZ,x=(y.1:Int)/\3<=y.1/\y.1<=23:=by
 simp only[fK,jf,jg]at hx;rcases hx with rfl|rfl|rfl|rfl|rfl|rfl|rfl|rfl
 ·exact⟨(3,2),by simp[nZ],rfl,by decide⟩
 ·exact⟨(5,2),by simp[nZ],rfl,by decide⟩
 ·exact⟨(5,2),by simp[nZ],rfl,by decide⟩
 ·exact⟨(7,4),by simp[nZ],rfl,by decide⟩
 ·exact⟨(11,2),by simp[nZ],rfl,by decide⟩
 ·exact⟨(11,2),by simp[nZ],rfl,by decide⟩
 ·exact⟨(13,4),by simp[nZ],rfl,by decide⟩
 exact⟨(23,2),by simp[nZ],rfl,by decide⟩
def zHM{x:Int}(hx:x∈[(101:Int),1009,1019,65537,999983]):∃y∈yd,x=(y.1:Int):=by
 simp only[fK,jf,jg]at hx;rcases hx with rfl|rfl|rfl|rfl|rfl
 ·exact⟨(101,6),by simp[yd],rfl⟩
 ·exact⟨(1009,10),by simp[yd],rfl⟩
 ·exact⟨(1019,2),by simp[yd],rfl⟩
 ·exact⟨(65537,14),by simp[yd],rfl⟩
 exact⟨(999983,12),by simp[yd],rfl⟩
def zBd(h:y∈nZ):uM (y.1:Int)=J (ki y,Z):=Yl (bm.1 zyF y (sH _ h))
def zDG(h:y∈yd):uM (y.1:Int)=J (ki y,Z):=Yl (bm.1 zyF y (yz _ h))
def zDP(h:y∈nZ):(ki y).Q=(y.1:Int)/\1<=(ki y).P/\(ki y).P<=100/\0<=(ki y).G/\(ki y).G<=100:=by
 simp only[nZ,fK,jf,jg]at h;rcases h with rfl|rfl|rfl|rfl|rfl|rfl<;>exact⟨rfl,by decide,by decide,by decide,by decide⟩
def Yb{n:Int}(hb:Bt code)(h:Cu code n (c0,at_,dE))(hn:n<=6000000000000000):Rn (y8 c0 at_ dE) (λz=>zo7 z.1=Z):=by
 unfold y8;refine ay (jI hb h (by omega)) λz ⟨z1,z2,z3,z4,z5⟩=>?_
 refine aZ (λ_=>aj zA6) λ_=>aZ (λ_=>?_) λ_=>?_
 ·refine ay (oh hb z5 (by omega) (by simp)) λy ⟨y1,y2⟩=>?_
  obtain⟨q,hq,e⟩:=zHM y1;rw[e];exact ag (zDG hq) (aj (bm.1 zBP q hq))
 unfold FM;refine ay (ψ:=λw=>(∃q∈nZ,w.1=ki q/\3<=q.1/\q.1<=23)/\Cu code (n+8) w.2) (ay (oh hb z5 (by omega) (by simp)) λy ⟨y1,y2⟩=>?_) λy ⟨⟨q,hq,e,q3,q23⟩,y2⟩=>?_
 ·obtain⟨q,hq,e,q3⟩:=zCC y1;rw[e];exact ag (zBd hq) (aj ⟨⟨q,hq,rfl,q3⟩,y2.mono (by omega)⟩)
 obtain⟨b1,b2,b3,b4,b5⟩:=zDP hq;rw[e,b1,aI (n:=(q.1:Int)-1) (by omega) (by omega)];refine ay (jI hb y2 (by omega)) λx ⟨x1,x2,x3,x4,x5⟩=>?_
 have x3:=x3 (by omega);rw[aI (n:=1+x.1) (by omega) (by omega)];have hm:=Cv (a:=1+x.1) (q:=(ki q).Q) (by omega) (by omega);have e1:(1+x.1)%(ki q).Q=1+x.1:=qg (by omega) (by omega);have hw:=(py (a:=(ki q).G) (e:=1+x.1) (m:=(ki q).P) b4 (by omega) (by omega) (by omega) (by omega) (by omega)).2;refine ay (ψ:=λv=>v=(((ki q).G.toNat^(1+x.1).toNat%(ki q).P.toNat:Nat):Int)) ?_ ?_
 ·unfold cD;refine ag hm ?_;rw[e1];exact ag hw (aj rfl)
 rintro _ rfl;refine aj ?_;rw[<-b1];exact bm.1 (bm.1 zzu q hq) (1+x.1).toNat (kp.2 (by omega))
def IK{gr g:am}(h:zo7 gr=Z)(hm:g∈CK gr):Dg g:=by
 unfold zo7 at h;exact zGw (bm.1 h g hm)
def zuJ{n:Int}(hb:Bt code)(h:Cu code n (c0,at_,dE))(hn:n<=5000000000000000):Rn (CL c0 at_ dE) (λz=>Dg z.1):=by
 unfold CL;refine ay (O8 (PA hb h (by omega)) (Yb hb h (by omega))) λz ⟨⟨z1,z2⟩,z3⟩=>?_
 have g1:=z1.p;have g2:=z1.q;have g3:=z1.g;refine ay (jI hb z2 (by omega)) λy ⟨_,_,_,_,y5⟩=>?_
 rw[aI (n:=z.1.P+2) (by omega) (by omega),aI (n:=z.1.Q+1) (by omega) (by omega),aI (n:=z.1.P-1) (by omega) (by omega),aI (n:=z.1.G+1) (by omega) (by omega)];refine ay (ψ:=λx=>Dg (am.mk x.2.1 x.2.2.1 x.2.2.2)) ?_ λx hx=>aj hx
 refine aZ (λ_=>?_) λ_=>aZ (λ_=>?_) λ_=>aZ (λ_=>?_) λ_=>aj (IK z3 (by simp[CK]))
 ·exact ay (oh hb y5 (by omega) (by simp)) λx ⟨x1,x2⟩=>aj (IK z3 (by unfold CK;exact sH _ (sH _ (nV _ (jE.2 ⟨_,x1,rfl⟩)))))
 ·exact ay (oh hb y5 (by omega) (by simp)) λx ⟨x1,x2⟩=>aj (IK z3 (by unfold CK;exact sH _ (yz _ (jE.2 ⟨_,x1,rfl⟩))))
 exact ay (oh hb y5 (by omega) (by simp)) λx ⟨x1,x2⟩=>aj (IK z3 (by unfold CK;exact yz _ (jE.2 ⟨_,x1,rfl⟩)))
def zze{n:Int}(hb:Bt code)(h:Cu code n (c0,at_,dE))(hn:n<=1000000000000000):Rn (I4 c0 at_ dE) (λz=>(Gw z.1/\Dg z.1)/\z.2.2.1.length<=13/\Cu code (n+400) z.2.2.2.2.2):=by
 unfold I4;refine ay (O8 (PA hb h (by omega)) (Yb hb h (by omega))) λz ⟨⟨z1,z2⟩,z3⟩=>ay (LC hb z2 (by omega)) λy y1=>?_
 refine ay (ψ:=λx=>(Gw (am.mk x.2.1 x.2.2.1 x.2.2.2)/\Dg (am.mk x.2.1 x.2.2.1 x.2.2.2))/\Cu code (n+20) x.1) (aZ (λ_=>ay (O8 (zwx hb y1 (by omega)) (zuJ hb y1 (by omega))) λw ⟨⟨w1,w2⟩,w3⟩=>aj ⟨⟨w1,w3⟩,w2.mono (by omega)⟩) λ_=>aj ⟨⟨z1.w,IK z3 (by simp[CK])⟩,y1.mono (by omega)⟩) λx ⟨⟨x1,x0⟩,x2⟩=>?_
 refine ay (jI hb x2 (by omega)) λp ⟨p1,_,p3,_,p5⟩=>?_
 have p3:=p3 (by omega);obtain⟨K,hK⟩:=fJ p1;rw[hK,aI (n:=1+(K:Int)) (by omega) (by omega)];refine ay (ψ:=λr=>r.2.length=K+1/\Cu code (n+60) r.1) (kK (K+1) (λj s=>s.2.2=(K:Int)+1-j/\s.2.1.length=j/\Cu code (n+22+8*j) s.1) ⟨by dsimp only;omega,rfl,p5.mono (by omega)⟩ ?_ ?_) λr ⟨r1,r2⟩=>?_
 ·rintro j ⟨c,l,i⟩ hj ⟨h1,h2,h3⟩;have h1:i=(K:Int)+1-j:=h1;have h2:l.length=j:=h2;refine fV (by simp;omega) (ay (zzM hb h3 (by omega) x1) λw w1=>aG (by dsimp only;omega) (aj ⟨?_,by simp[h2],w1.mono (by push_cast;omega)⟩));show i64.wrap (i-1)=_;rw[aI (by omega) (by omega)];push_cast;omega
 ·rintro⟨c,l,i⟩ ⟨h1,h2,h3⟩;have h1:i=(K:Int)+1-((K+1:Nat):Int):=h1;exact bt (by simp;omega) (aj ⟨h2,h3.mono (by omega)⟩)
 refine ay (zDu hb r2 (by omega) (by omega)) λu ⟨u1,u2⟩=>?_
 refine ay (U0 hb u2 (by omega) x1 (by omega)) λv ⟨v1,v2⟩=>?_
 refine ay (jI hb v2 (by omega)) λq ⟨_,_,_,_,q5⟩=>?_
 refine ay (ψ:=λx=>x.2.1.length<=13/\Cu code (n+300) x.1) (aZ (λ_=>?_) λ_=>aZ (λ_=>?_) λ_=>aZ (λ_=>aj ⟨by simp,q5.mono (by omega)⟩) λ_=>aZ (λ_=>?_) λ_=>aj ⟨by dsimp only;omega,q5.mono (by omega)⟩) λw ⟨w1,w2⟩=>?_
 ·exact ay (zuj hb q5 (by omega) x1) λw w1=>bD (k:=0) (by omega) (aj ⟨by show(r.2.set _ _).length<=_;rw[KF];omega,w1.mono (by omega)⟩)
 ·exact ay (oh hb q5 (by omega) (by simp)) λw ⟨_,w1⟩=>bD (k:=0) (by omega) (aj ⟨by dsimp only;omega,w1.mono (by omega)⟩)
 ·refine sO (λs=>1<=s.2.length/\s.2.length<=13/\Cu code (n+200+2*s.2.length) s.1) (λs=>13-s.2.length) ⟨by dsimp only;omega,by dsimp only;omega,q5.mono (by dsimp only;omega)⟩ ?_;rintro⟨c,l⟩ ⟨h1,h2,h3⟩;have h1:1<=l.length:=h1;have h2:l.length<=13:=h2;have h3:Cu code (n+200+2*l.length) c:=h3;refine ay (jI hb h3 (by omega)) λw ⟨w1,_,w3,_,w5⟩=>?_
  have w3:=w3 (by omega);dsimp only;rw[aI (n:=12+w.1) (by omega) (by omega)];refine aZ (λg=>?_) λ_=>aj ⟨by dsimp only;omega,w5.mono (by omega)⟩
  have g:(l.length:Int)<12+w.1:=by simpa using g
  exact bD (k:=0) (by omega) (aG (by omega) (aj ⟨⟨by simp,by simp;omega,w5.mono (by simp;omega)⟩,by simp;omega⟩))
 exact ay (Kb hb w2 (by omega) x1) λt ⟨_,_,t3⟩=>aj ⟨⟨x1,x0⟩,w1,t3.mono (by omega)⟩
def rg(f:Nat->Int)(n:Nat):List Int:=(List.range n).map f
def bn(f:Nat->Int)(n:Nat):(rg f n).length=n:=by simp[rg]
theorem t9(f:Nat->Int):rg f 0=[]:=rfl
def o5(f:Nat->Int)(n:Nat):rg f (n+1)=rg f n++[f n]:=by simp[rg,mO]
def vx(f:Nat->Int)(n:Nat)(A:List Int):A++rg f (n+1)=(A++rg f n)++[f n]:=by rw[o5,gU]
def sU(f:Nat->Int)(h:i<n):ix (rg f n) (i:Int)=J (f i):=by
 rw[jt (by rw[bn];exact h)];simp[rg]
def kF(f:Nat->Int)(h:i<n):(rg f n).getD i 0=f i:=by
 rw[bU (by rw[bn];exact h)];simp[rg]
def m9{P:Int->Prop}{f:Nat->Int}(h:∀i,i<n->P (f i)):∀x∈rg f n,P x:=by
 intro x hx;obtain⟨i,hi,rfl⟩:=jE.1 hx;exact h i (kp.1 hi)
def eB{P:Int->Prop}{l:List Int}(h:∀x∈l,P x)(hi:i<l.length):P (l.getD i 0):=by
 rw[bU hi];exact h _ (e9 hi)
def d4{l:List Int}(hi:i<l.length):ix l (i:Int)=J (l.getD i 0):=by rw[jt hi,bU hi]
def po{σ γ:Type}{body:Int->σ->Option (fb σ γ)}{stop:σ->γ}{s0:σ}(S:Nat->σ)(h0:s0=S 0)(hs:∀i,i<n->Rn (body (i:Int) (S i)) (· =.go (S (i+1)))):aS body stop n 0 s0=J (stop (S n)):=by
 refine bE (ec (λi y=>y=S i) h0 ?_ ?_)
 ·rintro i y hi rfl;obtain⟨v,h1,rfl⟩:=hs i hi;exact⟨_,h1,rfl⟩
 rintro y rfl;rfl
def vc(gr:am)(h x r:Int):Int:=aP gr [av gr gr.G x,av gr h r]
def Vn{gr:am}(k:ao gr)(h x r:Int):R9 (vc gr h x r):=nF k (bJ k _ _) (bJ k _ _)
def G6{gr:am}(k:ao gr){h:Int}(hh:aK gr h=Z)(x r:Int):aK gr (vc gr h x r)=Z:=qN k (kH k (nK k) _) (kH k hh _)
def CY{gr:am}(k:ao gr){B:cr}(hh:R9 B.H)(x r:Int):oC gr B x r=J (vc gr B.H x r):=by
 unfold oC;rw[fa k (fF k),aR,fa k hh,aR,jG k (bJ k _ _) (bJ k _ _)];rfl
def EM{gr:am}(k:ao gr){h:Int}(hh:R9 h)(x r:Int):nD gr h x r=J (vc gr h x r):=by
 unfold nD;rw[fe k (fF k),aR,fe k hh,aR,iD k (bJ k _ _) (bJ k _ _)];rfl
structure Pc where
 a:List Int
 b:List Int
 c:List Int
 w:List Int
 v:List Int
 s:List Int
 g:Int
 k:List Int
 m:List Int
 f:Int
structure vt (q:Int) (n:Nat) (C:Pc):Prop where
 a:C.a.length=n/\∀z∈C.a,E9 q z
 b:C.b.length=n/\∀z∈C.b,E9 q z
 c:C.c.length=n/\∀z∈C.c,E9 q z
 w:C.w.length=n/\∀z∈C.w,E9 q z
 v:C.v.length=n/\∀z∈C.v,E9 q z
 s:C.s.length=n/\∀z∈C.s,E9 q z
 g:E9 q C.g
 k:C.k.length=n/\∀z∈C.k,E9 q z
 m:C.m.length=n/\∀z∈C.m,E9 q z
 f:E9 q C.f
def plF(gr:am)(h:Int)(perm:List Int)(C:Pc)(i:Nat):Int:=vc gr h (perm.getD i 0+1) (C.a.getD i 0)
def eF(q x:Int)(perm:List Int)(i:Nat):Int:=((x.toNat^(perm.getD i 0+1).toNat%q.toNat:Nat):Int)
def pwF(gr:am)(h:Int)(e:Nat->Int)(C:Pc)(i:Nat):Int:=vc gr h (e i) (C.b.getD i 0)
def uF(q y z:Int)(e:Nat->Int)(perm:List Int)(i:Nat):Int:=(y*(perm.getD i 0+1)+e i-z)%q
def rL(q:Int)(u:Nat->Int):Nat->Int
 |0=>1
 |i+1=>(rL q u i*u i)%q
def chF(gr:am)(h:Int)(u:Nat->Int)(C:Pc)(i:Nat):Int:=vc gr h (rL gr.Q u (i+1)) (C.c.getD i 0)
def Ax(C:Pc):Nat->Int
 |0=>0
 |i+1=>C.c.getD i 0
def dlF(q:Int)(u:Nat->Int)(C:Pc)(i:Nat):Int:=(C.c.getD i 0-Ax C i*u i)%q
def LG(gr:am)(h:Int)(C:Pc)(i:Nat):Int:=vc gr h (C.w.getD i 0) (C.v.getD i 0)
def c2F(gr:am)(h:Int)(ch:List Int)(C:Pc)(i:Nat):Int:=aP gr [av gr (bef gr.G ch i) (C.w.getD i 0),av gr h (C.s.getD i 0)]
def U2(gr:am)(h:Int)(C:Pc)(i:Nat):Int:=vc gr h (C.k.getD i 0) (C.m.getD i 0)
def abF(q y:Int)(C:Pc)(i:Nat):Int:=(y*C.a.getD i 0+C.b.getD i 0)%q
def rF(q t:Int)(w:List Int)(u:Nat->Int)(i:Nat):Int:=(w.getD i 0+t*u i)%q
def M8(hq:0<q)(x:Int)(perm:List Int)(i:Nat):E9 q (eF q x perm i):=by
 have h:=mN (x.toNat^(perm.getD i 0+1).toNat) (show 0<q.toNat by omega);exact⟨Int.natCast_nonneg _,by unfold eF;omega⟩
theorem X0(hq:1<q)(u:Nat->Int):∀i,E9 q (rL q u i)
 |0=>⟨by show(0:Int)<=1;omega,hq⟩
 |i+1=>gf (by omega) _
def Yr{C:Pc}(hq:0<q)(c:vt q n C)(hi:i<=n):E9 q (Ax C i):=by
 cases i with
 |zero=>exact⟨A2 0,hq⟩
 |succ i=>exact eB c.c.2 (by have:=c.c.1;omega)
def Ud{gr:am}(k:ao gr){x p:Int}(hx:E9 gr.Q x)(hp:0<=p/\p<=1000):nA x (i64.wrap (p+1)) gr.Q=J ((x.toNat^(p+1).toNat%gr.Q.toNat:Nat):Int)/\k9 x (i64.wrap (p+1)) gr.Q=J ((x.toNat^(p+1).toNat%gr.Q.toNat:Nat):Int):=by
 have hP:=k.p;have hq:=k.q;rw[aI (by omega) (by omega)];exact py hx.1 (by have:=hx.2;omega) (by omega) (by omega) (by omega) (by omega)
def zBj{a b:Int}:(a-b%q)%q=(a-b)%q:=by rw[sI,eM,<-sI]
def e_u{y p e z:Int}(hq:0<q/\q<=2000000000)(hy:E9 q y)(hp:0<=p/\p<=1000)(he:E9 q e)(hz:E9 q z):i64.wrap (i64.wrap (i64.wrap (y*i64.wrap (p+1))+e)-z)=y*(p+1)+e-z:=by
 have h1:0<=y*(p+1):=sK hy.1 (by omega);have h2:y*(p+1)<=2000000000*1001:=wh (by have:=hy.2;omega) (by omega) (by omega) (by omega);have:=he.1;have:=he.2;have:=hz.1;have:=hz.2;rw[aI (n:=p+1) (by omega) (by omega),aI (n:=y*(p+1)) (by omega) (by omega),aI (n:=y*(p+1)+e) (by omega) (by omega),aI (by omega) (by omega)]
def zNg{y p e z:Int}(hq:0<q/\q<=2000000000)(hy:E9 q y)(hp:0<=p/\p<=1000)(he:E9 q e)(hz:E9 q z):(i64.wrap (i64.wrap (i64.wrap (y*(i64.wrap (p+1)).tmod q)+e)-z))%q=(y*(p+1)+e-z)%q:=by
 have h0:E9 q ((p+1)%q):=gf hq.1 _;rw[aI (n:=p+1) (by omega) (by omega),je (by omega)];have h1:0<=y*((p+1)%q):=sK hy.1 h0.1;have h2:y*((p+1)%q)<=2000000000*2000000000:=wh (by have:=hy.2;omega) (by have:=h0.2;omega) h0.1 (by omega);have:=he.1;have:=he.2;have:=hz.1;have:=hz.2;rw[aI (n:=y*((p+1)%q)) (by omega) (by omega),aI (n:=y*((p+1)%q)+e) (by omega) (by omega),aI (by omega) (by omega)];have e1:(y*((p+1)%q))%q=(y*(p+1))%q:=by rw[mP,eM,<-mP]
 rw[sI,o9,e1,<-o9,<-sI]
section
variable {gr:am}{h:Int}{perm:List Int}{C:Pc}{n:Nat}
def X9{CM:Int->Int->Option Int}(hC:∀x r,CM x r=J (vc gr h x r))(hp:∀x∈perm,0<=x/\x<=1000)(hl:perm.length=n)(ha:C.a.length=n)(hn:n<=100):aS (σ:=(List Int)) (λi5 s4=>
 (ix perm i5).bind λaU=>
 (ix C.a i5).bind λcY=>
 (CM (i64.wrap (aU+1)) cY).bind λdk=>
 gd ((s4.length+1)*8<=140737488355328/\s4.length+1<=4611686018427387904)<|
 J (.go (s4++[dk]))) (λs4=>s4) perm.length 0 []=J (rg (plF gr h perm C) n):=by
 rw[hl];refine po (λi=>rg (plF gr h perm C) i) rfl λi hi=>?_
 have hp:=eB hp (i:=i) (by omega);refine ag (d4 (by omega)) (ag (d4 (by omega)) ?_);rw[aI (n:=perm.getD i 0+1) (by omega) (by omega)];refine ag (hC _ _) (aG (by rw[bn];omega) (aj ?_));rw[o5];rfl
def zGt(k:ao gr){B:cr}(hh:R9 B.H)(hp:∀x∈perm,0<=x/\x<=1000)(hl:perm.length=n)(ha:C.a.length=n)(hn:n<=100):Kl gr B perm C.a=J (rg (plF gr B.H perm C) n):=by
 unfold Kl;rw[X9 (CY k hh) hp hl ha hn];rfl
def zEN(k:ao gr)(hh:R9 h)(hp:∀x∈perm,0<=x/\x<=1000)(hl:perm.length=n)(ha:C.a.length=n)(hn:n<=100):Jn gr h perm C.a=J (rg (plF gr h perm C) n):=by
 unfold Jn;rw[X9 (EM k hh) hp hl ha hn];rfl
end
abbrev sX:ByteArray:=⟨#[109,105,120,32,120]⟩
abbrev sY:ByteArray:=⟨#[109,105,120,32,121]⟩
abbrev sZ:ByteArray:=⟨#[109,105,120,32,122]⟩
abbrev sE:ByteArray:=⟨#[109,105,120,32,101,110,100]⟩
section
variable {gr:am}{h:Int}{perm:List Int}{C:Pc}{n:Nat}
variable{A:List Int}
def zAN(k:ao gr){B:cr}(hh:R9 B.H)(hp:∀x∈perm,0<=x/\x<=1000)(hl:perm.length=n)(hb:C.b.length=n)(hn:n<=100){x:Int}(hx:E9 gr.Q x) :aS (σ:=(List Int)×List Int×List Int×List Int×List Int×List Int×List Int) (λuC dr=>
 (ix perm uC).bind λvo=>
 (nA x (i64.wrap (vo+1)) gr.Q).bind λut=>
 gd ((dr.2.2.2.2.2.2.length+1)*8<=140737488355328/\dr.2.2.2.2.2.2.length+1<=4611686018427387904)<|
 (J (dr.2.2.2.2.2.2++[ut])).bind λuv=>
 (ix uv uC).bind λvq=>
 (ix C.b uC).bind λA5=>
 (oC gr B vq A5).bind λyQ=>
 gd ((dr.2.1.length+1)*8<=140737488355328/\dr.2.1.length+1<=4611686018427387904)<|
 J (.go (dr.1,dr.2.1++[yQ],dr.2.2.1,dr.2.2.2.1,dr.2.2.2.2.1,dr.2.2.2.2.2.1,uv))) (λdr=>(dr.1,dr.2.1,dr.2.2.1,dr.2.2.2.1,dr.2.2.2.2.1,dr.2.2.2.2.2.1,dr.2.2.2.2.2.2)) perm.length 0 (A,[],[],[],[],[],[])=J (A,rg (pwF gr B.H (eF gr.Q x perm) C) n,[],[],[],[],rg (eF gr.Q x perm) n):=by
 rw[hl];refine po (λi=>(A,rg (pwF gr B.H (eF gr.Q x perm) C) i,[],[],[],[],rg (eF gr.Q x perm) i)) rfl λi hi=>?_
 have hp:=eB hp (i:=i) (by omega);refine ag (d4 (by omega)) (ag (Ud k hx hp).1 (aG (by rw[bn];omega) (ag (a:=rg (eF gr.Q x perm) (i+1)) (by rw[o5];rfl) (ag (sU _ (by omega)) (ag (d4 (by omega)) (ag (CY k hh _ _) (aG (by rw[bn];omega) (aj ?_))))))));rw[o5 (pwF gr B.H (eF gr.Q x perm) C)];rfl
def zBl(k:ao gr){B:cr}(hh:R9 B.H)(hp:∀x∈perm,0<=x/\x<=1000)(hl:perm.length=n)(c:vt gr.Q n C)(hn:n<=100){x y z:Int}(hy:E9 gr.Q y)(hz:E9 gr.Q z){W:List Int}:aS (σ:=(List Int)×List Int×List Int×List Int×List Int×List Int×List Int×Int×List Int) (λnz cG=>
 (ix perm nz).bind λpY=>
 (ix (rg (eF gr.Q x perm) n) nz).bind λKS=>
 (eU gr (i64.wrap ((i64.wrap ((i64.wrap (y*(i64.wrap (pY+1))))+KS))-z))).bind λoq=>
 gd ((cG.2.2.2.2.2.2.1.length+1)*8<=140737488355328/\cG.2.2.2.2.2.2.1.length+1<=4611686018427387904)<|
 (J (cG.2.2.2.2.2.2.1++[oq])).bind λyi=>
 (ix yi nz).bind λmA=>
 (eU gr (i64.wrap (cG.2.2.2.2.2.2.2.1*mA))).bind λD2=>
 (ix C.c nz).bind λjz=>
 (oC gr B D2 jz).bind λo0=>
 gd ((cG.2.2.1.length+1)*8<=140737488355328/\cG.2.2.1.length+1<=4611686018427387904)<|
 ((if decide (0<nz)=Z then(
 (ix C.c (i64.wrap (nz-1))).bind λQf=>
 (eU gr (i64.wrap (Qf*mA))).bind λJN=>
 (eU gr (i64.wrap (jz-JN))).bind λHi=>
 J Hi)else(
 J jz):Option Int).bind λxz=>
 gd ((cG.2.2.2.2.2.2.2.2.length+1)*8<=140737488355328/\cG.2.2.2.2.2.2.2.2.length+1<=4611686018427387904)<|
 J (.go (cG.1,cG.2.1,cG.2.2.1++[o0],cG.2.2.2.1,cG.2.2.2.2.1,cG.2.2.2.2.2.1,yi,D2,cG.2.2.2.2.2.2.2.2++[xz])))) (λcG=>(cG.1,cG.2.1,cG.2.2.1,cG.2.2.2.1,cG.2.2.2.2.1,cG.2.2.2.2.2.1,cG.2.2.2.2.2.2.1,cG.2.2.2.2.2.2.2.2)) perm.length 0 (A,W,[],[],[],[],[],1,[])=
  J (A,W,rg (chF gr B.H (uF gr.Q y z (eF gr.Q x perm) perm) C) n,[],[],[],rg (uF gr.Q y z (eF gr.Q x perm) perm) n,rg (dlF gr.Q (uF gr.Q y z (eF gr.Q x perm) perm) C) n):=by
 rw[hl];have hP:=k.p;have hq:=k.q;have cM:0<gr.Q/\gr.Q<=2000000000:=by omega
 generalize hu:uF gr.Q y z (eF gr.Q x perm) perm=u;have AM:∀i,E9 gr.Q (u i):=λi=>by rw[<-hu];exact gf cM.1 _
 refine po (λi=>(A,W,rg (chF gr B.H u C) i,[],[],[],rg u i,rL gr.Q u i,rg (dlF gr.Q u C) i)) rfl λi hi=>?_
 have hp:=eB hp (i:=i) (by omega);have hc:=eB c.c.2 (i:=i) (by have:=c.c.1;omega);have hm:=(uw (q:=gr.Q) (by omega) (X0 (by omega) u i) (AM i)).1;refine ag (d4 (by omega)) (ag (sU _ hi) (ag (lv k _) ?_));rw[e_u cM hy hp (M8 cM.1 _ _ _) hz,show(y*(perm.getD i 0+1)+eF gr.Q x perm i-z)%gr.Q=u i by rw[<-hu];rfl];refine aG (by rw[bn];omega) (ag (a:=rg u (i+1)) (by rw[o5]) (ag (sU _ (by omega)) (ag (lv k _) ?_)));rw[hm];refine ag (d4 (by have:=c.c.1;omega)) (ag (CY k hh _ _) (aG (by rw[bn];omega) (ay (ψ:=(· =dlF gr.Q u C i)) ?_ ?_)))
 ·refine aZ (λg=>?_) λg=>aj ?_
  ·have g:0<(i:Int):=by simpa using g
   obtain⟨j,rfl⟩:∃j,i=j+1:=⟨i-1,by omega⟩
   have hj:=eB c.c.2 (i:=j) (by have:=c.c.1;omega);rw[cL (m:=j) (by omega) (by omega)];refine ag (d4 (by have:=c.c.1;omega)) (ag (lv k _) ?_);rw[(uw (q:=gr.Q) (by omega) hj (AM (j+1))).1];refine ag (lv k _) (aj ?_);have hx:=gf cM.1 (C.c.getD j 0*u (j+1));rw[aI (by have:=hc.1;have:=hx.2;omega) (by have:=hc.2;have:=hx.1;omega),zBj];rfl
  have g:¬0<(i:Int):=by simpa using g
  have e:i=0:=by omega
  subst e;show C.c.getD 0 0=(C.c.getD 0 0-0*u 0)%gr.Q;rw[Int.zero_mul,Uy,qg hc.1 hc.2]
 rintro _ rfl;refine aG (by rw[bn];omega) (aj ?_);rw[o5 (chF gr B.H u C),o5 (dlF gr.Q u C)];rfl
def zvx{CM:Int->Int->Option Int}(hC:∀x r,CM x r=J (vc gr h x r)){w v:List Int}(hw:w.length=n)(hv:v.length=n)(hn:n<=100)(hA:A.length<=1000):aS (σ:=(List Int)) (λAg pe=>
 (ix w Ag).bind λQC=>
 (ix v Ag).bind λlZ=>
 (CM QC lZ).bind λDB=>
 gd ((pe.length+1)*8<=140737488355328/\pe.length+1<=4611686018427387904)<|
 J (.go (pe++[DB]))) (λpe=>pe) n 0 A=J (A++rg (λi=>vc gr h (w.getD i 0) (v.getD i 0)) n):=by
 refine po (λi=>A++rg (λi=>vc gr h (w.getD i 0) (v.getD i 0)) i) (by rw[t9,ri]) λi hi=>?_
 refine ag (d4 (by omega)) (ag (d4 (by omega)) (ag (hC _ _) (aG (by rw[bP,bn];omega) (aj ?_))));rw[vx]
def zBr(k:ao gr)(hh:R9 h){ch:List Int}(hc:ch.length=n/\∀z∈ch,aK gr z=Z)(c:vt gr.Q n C)(hn:n<=100)(hA:A.length<=1000):aS (σ:=(List Int)) (λvz px=>
 (ix ([gr.G]++ch) vz).bind λQu=>
 (ix C.w vz).bind λPD=>
 (ix C.s vz).bind λii=>
 (cQ gr Qu PD).bind λTe=>
 (cQ gr h ii).bind λIi=>
 (eg gr [Te,Ii]).bind λTz=>
 gd ((px.length+1)*8<=140737488355328/\px.length+1<=4611686018427387904)<|
 J (.go (px++[Tz]))) (λpx=>px) n 0 A=J (A++rg (c2F gr h ch C) n):=by
 refine po (λi=>A++rg (c2F gr h ch C) i) (by rw[t9,ri]) λi hi=>?_
 have hb:=EH k (nK k) hc.2 i (by omega);refine ag hb.1 (ag (d4 (by have:=c.w.1;omega)) (ag (d4 (by have:=c.s.1;omega)) (ag (fa k hb.2 _) (ag (fa k hh _) (ag (jG k (bJ k _ _) (bJ k _ _)) (aG (by rw[bP,bn];omega) (aj ?_)))))));rw[vx];rfl
def W2{q y a b:Int}(hq:q<=2000000000)(hy:E9 q y)(ha:E9 q a)(hb:E9 q b):i64.wrap (i64.wrap (y*a)+b)=y*a+b:=by
 have h1:0<=y*a:=sK hy.1 ha.1;have h2:y*a<=2000000000*2000000000:=wh (by have:=hy.2;omega) (by have:=ha.2;omega) ha.1 (by omega);have:=hb.1;have:=hb.2;rw[aI (n:=y*a) (by omega) (by omega),aI (by omega) (by omega)]
def zA0(k:ao gr)(c:vt gr.Q n C){u d e:Nat->Int}(hu:∀i,E9 gr.Q (u i))(hd:∀i,E9 gr.Q (d i))(he:∀i,E9 gr.Q (e i))(hn:n<=100){y t:Int}(hy:E9 gr.Q y)(ht:E9 gr.Q t):aS (σ:=(List Int)×List Int×List Int×List Int×List Int) (λiS dj=>
 (ix C.w iS).bind λM7=>
 (ix (rg u n) iS).bind λLO=>
 (eU gr (i64.wrap (M7+(i64.wrap (t*LO))))).bind λN8=>
 gd ((dj.1.length+1)*8<=140737488355328/\dj.1.length+1<=4611686018427387904)<|
 (ix C.v iS).bind λMw=>
 (ix C.a iS).bind λMn=>
 (ix C.b iS).bind λDG=>
 (eU gr (i64.wrap ((i64.wrap (y*Mn))+DG))).bind λOv=>
 (eU gr (i64.wrap (Mw+(i64.wrap (t*Ov))))).bind λLz=>
 gd ((dj.2.1.length+1)*8<=140737488355328/\dj.2.1.length+1<=4611686018427387904)<|
 (ix C.s iS).bind λMz=>
 (ix (rg d n) iS).bind λMr=>
 (eU gr (i64.wrap (Mz+(i64.wrap (t*Mr))))).bind λOh=>
 gd ((dj.2.2.1.length+1)*8<=140737488355328/\dj.2.2.1.length+1<=4611686018427387904)<|
 (ix C.k iS).bind λNA=>
 (ix (rg e n) iS).bind λBM=>
 (eU gr (i64.wrap (NA+(i64.wrap (t*BM))))).bind λNW=>
 gd ((dj.2.2.2.1.length+1)*8<=140737488355328/\dj.2.2.2.1.length+1<=4611686018427387904)<|
 (ix C.m iS).bind λO2=>
 (eU gr (i64.wrap (O2+(i64.wrap (t*DG))))).bind λRA=>
 gd ((dj.2.2.2.2.length+1)*8<=140737488355328/\dj.2.2.2.2.length+1<=4611686018427387904)<|
 J (.go (dj.1++[N8],dj.2.1++[Lz],dj.2.2.1++[Oh],dj.2.2.2.1++[NW],dj.2.2.2.2++[RA]))) (λdj=>(dj.1,dj.2.1,dj.2.2.1,dj.2.2.2.1,dj.2.2.2.2)) n 0 ([],[],[],[],[])=
  J (rg (rF gr.Q t C.w u) n,rg (rF gr.Q t C.v (abF gr.Q y C)) n,rg (rF gr.Q t C.s d) n,rg (rF gr.Q t C.k e) n,rg (rF gr.Q t C.m (λi=>C.b.getD i 0)) n):=by
 have hP:=k.p;have hq:=k.q;refine po (λi=>(rg (rF gr.Q t C.w u) i,rg (rF gr.Q t C.v (abF gr.Q y C)) i,rg (rF gr.Q t C.s d) i,rg (rF gr.Q t C.k e) i,rg (rF gr.Q t C.m (λi=>C.b.getD i 0)) i)) rfl λi hi=>?_
 have Bj:∀{l:List Int},l.length=n->ix l (i:Int)=J (l.getD i 0):=λh=>d4 (by omega)
 have g2:∀{l:List Int},(l.length=n/\∀z∈l,E9 gr.Q z)->E9 gr.Q (l.getD i 0):=λh=>eB h.2 (by omega)
 refine ag (Bj c.w.1) (ag (sU _ hi) (ag (lv k _) (aG (by rw[bn];omega) (ag (Bj c.v.1) (ag (Bj c.a.1) (ag (Bj c.b.1) (ag (lv k _) ?_)))))));rw[W2 (q:=gr.Q) (by omega) hy (g2 c.a) (g2 c.b),(iK (q:=gr.Q) (by omega) (g2 c.w) ht (hu i)).1];refine ag (lv k _) (aG (by rw[bn];omega) (ag (Bj c.s.1) (ag (sU _ hi) (ag (lv k _) (aG (by rw[bn];omega) (ag (Bj c.k.1) (ag (sU _ hi) (ag (lv k _) (aG (by rw[bn];omega) (ag (Bj c.m.1) (ag (lv k _) (aG (by rw[bn];omega) (aj ?_)))))))))))));rw[(iK (q:=gr.Q) (by omega) (g2 c.v) ht (gf (by omega) _)).1,(iK (q:=gr.Q) (by omega) (g2 c.s) ht (hd i)).1,(iK (q:=gr.Q) (by omega) (g2 c.k) ht (he i)).1,(iK (q:=gr.Q) (by omega) (g2 c.m) ht (g2 c.b)).1];show _=fb.go _;simp only[o5];rfl
end
section
attribute [local irreducible] chG zaR zdR zaO
def gy(gr:am)(h:Int)(perm:List Int)(C:Pc)(n:Nat):List Int:=rg (plF gr h perm C) n
def nl(gr:am)(key h:Int)(l:List an)(perm rs:List Int)(C:Pc):Int:=chG gr sX (zdR key l (zaR gr key l perm rs) (gy gr h perm C l.length))
def jV(gr:am)(key h:Int)(l:List an)(perm rs:List Int)(C:Pc):Nat->Int:=eF gr.Q (nl gr key h l perm rs C) perm
def kj(gr:am)(key h:Int)(l:List an)(perm rs:List Int)(C:Pc):List Int:=rg (pwF gr h (jV gr key h l perm rs C) C) l.length
def oG(gr:am)(key h:Int)(l:List an)(perm rs:List Int)(C:Pc):List Int:=zdR key l (zaR gr key l perm rs) (gy gr h perm C l.length++kj gr key h l perm rs C)
def qK(gr:am)(key h:Int)(l:List an)(perm rs:List Int)(C:Pc):Int:=chG gr sY (oG gr key h l perm rs C)
def tJ(gr:am)(key h:Int)(l:List an)(perm rs:List Int)(C:Pc):Int:=chG gr sZ (oG gr key h l perm rs C)
def kW(gr:am)(key h:Int)(l:List an)(perm rs:List Int)(C:Pc):Nat->Int:=uF gr.Q (qK gr key h l perm rs C) (tJ gr key h l perm rs C) (jV gr key h l perm rs C) perm
def jp(gr:am)(key h:Int)(l:List an)(perm rs:List Int)(C:Pc):List Int:=rg (chF gr h (kW gr key h l perm rs C) C) l.length
def oT(gr:am)(key h:Int)(out:List an)(ch:List Int)(C:Pc)(n:Nat):List Int:=(rg (LG gr h C) n++rg (c2F gr h ch C) n++[av gr h C.g])++rg (U2 gr h C) n++[aP gr [av gr gr.G (i64.wrap (0-C.f)),zaO gr (sdV out).1 C.k 1],aP gr [av gr key (i64.wrap (0-C.f)),zaO gr (sdV out).2 C.k 1]]
def gF(gr:am)(key h:Int)(l:List an)(perm rs:List Int)(C:Pc):List Int:=oT gr key h (zaR gr key l perm rs) (jp gr key h l perm rs C) C l.length
def j4(gr:am)(key h:Int)(l:List an)(perm rs:List Int)(C:Pc):Int:=chG gr sE (oG gr key h l perm rs C++jp gr key h l perm rs C++gF gr key h l perm rs C)
def M1(q y t:Int)(u e:Nat->Int)(rs:List Int)(C:Pc)(n:Nat):List Int:=rg (rF q t C.w u) n++(rg (rF q t C.v (abF q y C)) n++(rg (rF q t C.s (dlF q u C)) n++([(C.g+t*C.c.getD (n-1) 0)%q]++(rg (rF q t C.k e) n++(rg (rF q t C.m (λi=>C.b.getD i 0)) n++[(C.f+t*dtN q rs (rg e n) n)%q])))))
def iX(gr:am)(key h:Int)(l:List an)(perm rs:List Int)(C:Pc):ck:=
 ⟨gy gr h perm C l.length,kj gr key h l perm rs C,jp gr key h l perm rs C,⟨gF gr key h l perm rs C,[j4 gr key h l perm rs C],M1 gr.Q (qK gr key h l perm rs C) (j4 gr key h l perm rs C) (kW gr key h l perm rs C) (jV gr key h l perm rs C) rs C l.length⟩⟩
structure gT (gr:am) (key h:Int) (l:List an) (perm rs:List Int) (C:Pc):Prop where
 m:ni gr key l perm rs
 hh:aK gr h=Z
 c:vt gr.Q l.length C
section
variable {gr:am}{key h:Int}{l:List an}{perm rs:List Int}{C:Pc}
variable{L:List Int}
def gT.pr(P:gT gr key h l perm rs C):∀z∈perm,0<=z/\z<=1000:=λz hz=>by have:=P.m.pr z hz;have:=P.m.n;omega
def Q1(k:ao gr)(P:gT gr key h l perm rs C):∀z∈gy gr h perm C l.length,aK gr z=Z:=m9 λi hi=>G6 k P.hh _ _
def Wn(k:ao gr)(P:gT gr key h l perm rs C):∀z∈kj gr key h l perm rs C,aK gr z=Z:=m9 λi hi=>G6 k P.hh _ _
def H5(k:ao gr)(P:gT gr key h l perm rs C):(jp gr key h l perm rs C).length=l.length/\∀z∈jp gr key h l perm rs C,aK gr z=Z:=⟨bn _ _,m9 λi hi=>G6 k P.hh _ _⟩
def jB{P:Int->Prop}{l m:List Int}(h1:∀x∈l,P x)(h2:∀x∈m,P x):∀x∈l++m,P x:=λx hx=>(jY.1 hx).elim (h1 x) (h2 x)
def Dx(k:ao gr)(P:gT gr key h l perm rs C):(gF gr key h l perm rs C).length=3*l.length+3/\∀z∈gF gr key h l perm rs C,R9 z:=by
 have v2:∀i,R9 (c2F gr h (jp gr key h l perm rs C) C i):=λi=>nF k (bJ k _ _) (bJ k _ _)
 refine⟨by unfold gF oT;simp[bn];omega,?_⟩;unfold gF oT;refine jB (jB (jB (jB (m9 λi _=>Vn k _ _ _) (m9 λi _=>v2 i)) ?_) (m9 λi _=>Vn k _ _ _)) ?_
 ·intro x hx;rw[gB]at hx;rw[hx];exact bJ k _ _
 intro x hx;simp only[fK,jf,jg]at hx;rcases hx with rfl|rfl<;>exact nF k (bJ k _ _) (fE k _ _)
def Le(k:ao gr)(P:gT gr key h l perm rs C):(oG gr key h l perm rs C).length=1+6*l.length/\(oG gr key h l perm rs C).all cC=Z:=by
 have dN:=P.m.pl;refine⟨by unfold oG;rw[FJ,kO,bP,gy,kj,bn,bn];omega,?_⟩;unfold oG;exact FO k P.m.key P.m.c (uN k P.m) (oF k (bm.2 (jB (Q1 k P) (Wn k P))))
def NY(k:ao gr)(P:gT gr key h l perm rs C):(zdR key l (zaR gr key l perm rs) (gy gr h perm C l.length)).length=1+5*l.length/\(zdR key l (zaR gr key l perm rs) (gy gr h perm C l.length)).all cC=Z:=by
 have dN:=P.m.pl;exact⟨by rw[FJ,kO,gy,bn];omega,FO k P.m.key P.m.c (uN k P.m) (oF k (bm.2 (Q1 k P)))⟩
def WM(k:ao gr)(P:gT gr key h l perm rs C):(oG gr key h l perm rs C++jp gr key h l perm rs C++gF gr key h l perm rs C).length=4+10*l.length/\(oG gr key h l perm rs C++jp gr key h l perm rs C++gF gr key h l perm rs C).all cC=Z:=by
 have h1:=Le k P;have h2:=H5 k P;have h3:=Dx k P;refine⟨by rw[bP,bP,h1.1,h2.1,h3.1];omega,?_⟩;rw[kq,kq,h1.2,oF k (bm.2 h2.2),VB h3.2];rfl
def pz(k:ao gr){s:ByteArray}(hs:s.size<=40)(hl:L.length<=300)(hd:L.all cC=Z):ml gr s L=J (chG gr s L,Z)/\pd gr s L=J (chG gr s L):=by
 refine⟨?_,L4 k (by omega) (by omega) hd⟩;rw[K3 k _ (by omega),aB (K7 k hs (by omega) hd)]
def U1(h:L.length<=1000):u0 L=J L:=eE (by omega)
def zAB(k:ao gr)(hl:L.length<=300)(hd:L.all cC=Z):Cq gr L=J (chG gr sY L,chG gr sZ L,Z):=by
 unfold Cq;exact bE (ag (pz k (by decide) hl hd).1 (ag (pz k (by decide) hl hd).1 (ay (ψ:=(· =aa)) (bt rfl (aj rfl)) λb hb=>by subst hb;exact bt rfl (aj rfl))))
def Pc.cs(C:Pc):List Int:=C.a++(C.b++(C.c++(C.w++(C.v++(C.s++(C.g::(C.k++(C.m++[C.f]))))))))
attribute [local irreducible] rg plF pwF chF uF dlF c2F rF abF eF dtN sdV vc
set_option maxHeartbeats 4000000 in
def Wo(k:ao gr){B:cr}(P:gT gr key B.H l perm rs C):E4 gr B key l perm rs C.cs=J (iX gr key B.H l perm rs C,Z):=by
 have hp:=k.p;have hq:=k.q;have cM:0<gr.Q/\gr.Q<=2000000000:=by omega
 have hn:=P.m.n;have dN:=P.m.pl;have fj:=P.m.rl;have hk:=dT k P.m.key;have hH:=dT k P.hh;have kA:(zaR gr key l perm rs).length=l.length:=by rw[kO,P.m.pl]
 have f9:=sA k (uN k P.m);have eW:=mH (zaR gr key l perm rs);rw[kA]at eW;have hx:E9 gr.Q (nl gr key B.H l perm rs C):=mE k _ _;have hy:E9 gr.Q (qK gr key B.H l perm rs C):=mE k _ _;have hz:E9 gr.Q (tJ gr key B.H l perm rs C):=mE k _ _;have ht:E9 gr.Q (j4 gr key B.H l perm rs C):=mE k _ _;have a1:=NY k P;have a2:=Le k P;have a3:=WM k P;have a4:=Dx k P;have a5:=H5 k P;have ee:∀i,E9 gr.Q (jV gr key B.H l perm rs C i):=λi=>M8 cM.1 _ _ _
 have ue:∀i,E9 gr.Q (kW gr key B.H l perm rs C i):=λi=>by unfold kW uF;exact gf cM.1 _
 have de:∀i,E9 gr.Q (dlF gr.Q (kW gr key B.H l perm rs C) C i):=λi=>by unfold dlF;exact gf cM.1 _
 have lP:(gy gr B.H perm C l.length).length=l.length:=bn _ _;have lW:(kj gr key B.H l perm rs C).length=l.length:=bn _ _;have c1:=RZ k P.m;have c2:=zGt (B:=B) k hH P.pr dN P.c.a.1 (by omega);have c3:=DD (key:=key) (l:=l) (out:=zaR gr key l perm rs) (m:=gy gr B.H perm C l.length) (by omega) (by omega) (by omega);have c4:=(pz k (s:=sX) (by decide) (by omega) a1.2).1;have c5:=zAN (B:=B) (A:=gy gr B.H perm C l.length) k hH P.pr dN P.c.b.1 (by omega) hx;have c6:=DD (key:=key) (l:=l) (out:=zaR gr key l perm rs) (m:=gy gr B.H perm C l.length++kj gr key B.H l perm rs C) (by omega) (by omega) (by rw[bP];omega);have c7:=zAB k (L:=oG gr key B.H l perm rs C) (by omega) a2.2;have c8:=zBl (B:=B) (A:=gy gr B.H perm C l.length) (W:=kj gr key B.H l perm rs C) k hH P.pr dN P.c (by omega) (x:=nl gr key B.H l perm rs C) hy hz;have c9:=(zvx (A:=[]) (CY (B:=B) k hH) P.c.w.1 P.c.v.1 (by omega) (by simp)).trans (show _=J (rg (LG gr B.H C) l.length)from by rw[mM];rfl);have xT:=λA hA=>zBr (A:=A) k hH a5 P.c (by omega) hA
 have rH:=λA hA=>zvx (A:=A) (CY (B:=B) k hH) P.c.k.1 P.c.m.1 (by omega) hA
 have OT:=(rE (l:=zaR gr key l perm rs) (by omega)).1;have PN:=oR (m:=C.k) k f9.1 (by have:=P.c.k.1;omega);have TT:=oR (m:=C.k) k f9.2 (by have:=P.c.k.1;omega)
 have c15:pS [oG gr key B.H l perm rs C,jp gr key B.H l perm rs C,gF gr key B.H l perm rs C]=J (oG gr key B.H l perm rs C++jp gr key B.H l perm rs C++gF gr key B.H l perm rs C):=by
  have e:[oG gr key B.H l perm rs C,jp gr key B.H l perm rs C,gF gr key B.H l perm rs C].flatten=oG gr key B.H l perm rs C++jp gr key B.H l perm rs C++gF gr key B.H l perm rs C:=by simp
  rw[Dr _ (by rw[e,a3.1];omega),e]
 have TA:=(pz k (s:=sE) (by decide) (by omega) a3.2).1;have c17:=zA0 k P.c ue de ee (by omega) hy ht;have lE:(rg (jV gr key B.H l perm rs C) l.length).length=l.length:=bn _ _;have TZ:=((PQ cM (l:=rs) (m:=rg (jV gr key B.H l perm rs C) l.length) (zp P.m.re) (m9 λi _=>ee i) (by omega)).trans (by rw[fj]):vg rs (rg (jV gr key B.H l perm rs C) l.length) gr.Q=J (dtN gr.Q rs (rg (jV gr key B.H l perm rs C) l.length) l.length))
 have QI:=yK cM.1 rs (rg (jV gr key B.H l perm rs C) l.length) l.length;have gQ:ix C.c ((l.length-1:Nat):Int)=J (C.c.getD (l.length-1) 0):=d4 (by have:=P.c.c.1;omega);have Q8:E9 gr.Q (C.c.getD (l.length-1) 0):=eB P.c.c.2 (by have:=P.c.c.1;omega);have x1:=(lv k _).trans (gn (λv=>J (v%gr.Q)) (iK (by omega) P.c.g ht Q8).1);have x2:=(lv k _).trans (gn (λv=>J (v%gr.Q)) (iK (by omega) P.c.f ht QI).1);have w1:i64.wrap ((l.length:Int)-1)=((l.length-1:Nat):Int):=cL (by omega) (by omega);unfold E4 Pc.cs;refine bE (ag (mF P.c.a.1) (ag (mF P.c.b.1) (ag (mF P.c.c.1) (ag (mF P.c.w.1) (ag (mF P.c.v.1) (ag (mF P.c.s.1) (ag (AR _ _) (ag (mF P.c.k.1) (ag (mF P.c.m.1) (ag (AR _ _) ?_))))))))));dsimp only;refine ag c1 (ag c2 (ag c3 (ag c4 (ag c5 ?_))));dsimp only;refine ag (U1 (by show(gy gr B.H perm C l.length).length<=_;omega)) (aG (by rw[lP,bn];omega) (ag c6 (ag c7 (ag c8 ?_))));dsimp only;refine aG (by rw[bn];simp;omega) (ag rfl (ag c9 (ag (xT _ ?_) (ag (fa k hH _) (aG ?_ (ag (rH _ ?_) (ag OT ?_)))))))
 ·rw[bn];omega
 ·simp only[bP,bn];omega
 ·simp only[bP,bn,dX,ia];omega
 refine ag (fa k (fF k) _) (ag PN (ag (jG k (bJ k _ _) (fE k _ _)) (ag (fa k hk _) (ag TT (ag (jG k (bJ k _ _) (fE k _ _)) (aG ?_ (ag c15 (ag TA (ay (ψ:=(· =aa)) (bt rfl (bt rfl (aj rfl))) ?_)))))))))
 ·simp only[bP,bn,dX,ia];omega
 rintro _ rfl;refine bt rfl (ag c17 ?_);rw[w1];refine ag gQ (ag x1 (ag TZ (ag x2 (ag (Dr _ ?_) (aj ?_)))))
 ·simp[bn];omega
 unfold iX M1;simp only[Gv,List.flatten_nil,ri];rfl
end
end
section
variable {gr:am}{h:Int}{perm:List Int}{C:Pc}{n:Nat}
variable{A W:List Int}
def zGy(k:ao gr)(hp:∀x∈perm,0<=x/\x<=1000)(hl:perm.length=n)(hn:n<=100){x:Int}(hx:E9 gr.Q x):G9 gr perm x=J (rg (eF gr.Q x perm) n):=by
 unfold G9;rw[hl];refine bE (ag (po (λi=>rg (eF gr.Q x perm) i) rfl λi hi=>?_) (aj rfl));have hp:=eB hp (i:=i) (by omega);refine ag (d4 (by omega)) (ag (Ud k hx hp).2 (aG (by rw[bn];omega) (aj ?_)));rw[o5];rfl
def zzg(k:ao gr)(hh:R9 h)(hb:C.b.length=n)(hn:n<=100){e:Nat->Int}:aS (σ:=(List Int)×List Int×List Int×List Int×List Int×List Int) (λfL bW=>
 (ix (rg e n) fL).bind λig=>
 (ix C.b fL).bind λj6=>
 (nD gr h ig j6).bind λeY=>
 gd ((bW.2.1.length+1)*8<=140737488355328/\bW.2.1.length+1<=4611686018427387904)<|
 J (.go (bW.1,bW.2.1++[eY],bW.2.2.1,bW.2.2.2.1,bW.2.2.2.2.1,bW.2.2.2.2.2))) (λbW=>(bW.1,bW.2.1,bW.2.2.1,bW.2.2.2.1,bW.2.2.2.2.1,bW.2.2.2.2.2)) n 0 (A,[],[],[],[],[])=J (A,rg (pwF gr h e C) n,[],[],[],[]):=by
 refine po (λi=>(A,rg (pwF gr h e C) i,[],[],[],[])) rfl λi hi=>?_
 refine ag (sU _ hi) (ag (d4 (by omega)) (ag (EM k hh _ _) (aG (by rw[bn];omega) (aj ?_))));rw[o5];rfl
def zzi(k:ao gr)(hh:R9 h)(hp:∀x∈perm,0<=x/\x<=1000)(hl:perm.length=n)(c:vt gr.Q n C)(hn:n<=100){x y z:Int}(hy:E9 gr.Q y)(hz:E9 gr.Q z) :aS (σ:=(List Int)×List Int×List Int×List Int×List Int×List Int×List Int×List Int×Int×Int) (λvk cz=>
 (ix perm vk).bind λn8=>
 gd (gr.Q≠0)<|
 (ix (rg (eF gr.Q x perm) n) vk).bind λLN=>
 (qr (i64.wrap ((i64.wrap ((i64.wrap (y*((i64.wrap (n8+1)).tmod gr.Q)))+LN))-z)) gr.Q).bind λse=>
 gd ((cz.2.2.2.2.2.2.1.length+1)*8<=140737488355328/\cz.2.2.2.2.2.2.1.length+1<=4611686018427387904)<|
 gd (gr.Q≠0)<|
 (ix C.c vk).bind λqX=>
 (nD gr h ((i64.wrap (cz.2.2.2.2.2.2.2.2.1*se)).tmod gr.Q) qX).bind λCf=>
 gd ((cz.2.2.1.length+1)*8<=140737488355328/\cz.2.2.1.length+1<=4611686018427387904)<|
 (qr (i64.wrap (qX-(i64.wrap (cz.2.2.2.2.2.2.2.2.2*se)))) gr.Q).bind λBh=>
 gd ((cz.2.2.2.2.2.2.2.1.length+1)*8<=140737488355328/\cz.2.2.2.2.2.2.2.1.length+1<=4611686018427387904)<|
 J (.go (cz.1,cz.2.1,cz.2.2.1++[Cf],cz.2.2.2.1,cz.2.2.2.2.1,cz.2.2.2.2.2.1,cz.2.2.2.2.2.2.1++[se],cz.2.2.2.2.2.2.2.1++[Bh],(i64.wrap (cz.2.2.2.2.2.2.2.2.1*se)).tmod gr.Q,qX))) (λcz=>(cz.1,cz.2.1,cz.2.2.1,cz.2.2.2.1,cz.2.2.2.2.1,cz.2.2.2.2.2.1,cz.2.2.2.2.2.2.1,cz.2.2.2.2.2.2.2.1)) perm.length 0 (A,W,[],[],[],[],[],[],1,0)=
  J (A,W,rg (chF gr h (uF gr.Q y z (eF gr.Q x perm) perm) C) n,[],[],[],rg (uF gr.Q y z (eF gr.Q x perm) perm) n,rg (dlF gr.Q (uF gr.Q y z (eF gr.Q x perm) perm) C) n):=by
 rw[hl];have hP:=k.p;have hq:=k.q;have cM:0<gr.Q/\gr.Q<=2000000000:=by omega
 have hQ:gr.Q≠0:=by omega
 generalize hu:uF gr.Q y z (eF gr.Q x perm) perm=u;have AM:∀i,E9 gr.Q (u i):=λi=>by rw[<-hu];exact gf cM.1 _
 refine po (λi=>(A,W,rg (chF gr h u C) i,[],[],[],rg u i,rg (dlF gr.Q u C) i,rL gr.Q u i,Ax C i)) rfl λi hi=>?_
 have hp:=eB hp (i:=i) (by omega);have hc:=eB c.c.2 (i:=i) (by have:=c.c.1;omega);have hm:=(uw (q:=gr.Q) (by omega) (X0 (by omega) u i) (AM i)).2;have hls:=(uw (q:=gr.Q) (by omega) (Yr cM.1 c (i:=i) (by omega)) (AM i)).1
 have xi:0<=Ax C i*u i/\Ax C i*u i<=2000000000*2000000000:=by
  have a:=Yr cM.1 c (i:=i) (by omega);have b:=AM i;exact⟨sK a.1 b.1,wh (by have:=a.2;omega) (by have:=b.2;omega) b.1 (by omega)⟩
 refine ag (d4 (by omega)) (aG hQ (ag (sU _ hi) (ag (Cv (by omega) (by omega)) ?_)));rw[zNg cM hy hp (M8 cM.1 _ _ _) hz,show(y*(perm.getD i 0+1)+eF gr.Q x perm i-z)%gr.Q=u i by rw[<-hu];rfl];refine aG (by rw[bn];omega) (aG hQ (ag (d4 (by have:=c.c.1;omega)) ?_));dsimp only;rw[hm,hls,aI (n:=C.c.getD i 0-Ax C i*u i) (by have:=hc.1;omega) (by have:=hc.2;omega)];refine ag (EM k hh _ _) (aG (by rw[bn];omega) (ag (Cv (by omega) (by omega)) (aG (by rw[bn];omega) (aj ?_))));simp only[o5];rfl
def VP(k:ao gr)(hh:R9 h){w v:List Int}(hw:w.length=n)(hv:v.length=n)(hn:n<=100){H D:List Int}{X Y:List Int}(hD:D.length<=1000):aS (σ:=(List Int)×List Int×List Int×List Int×List Int×List Int) (λAe dQ=>
 (ix w Ae).bind λiR=>
 (ix v Ae).bind λjz=>
 (nD gr h iR jz).bind λo0=>
 gd ((dQ.2.2.2.1.length+1)*8<=140737488355328/\dQ.2.2.2.1.length+1<=4611686018427387904)<|
 J (.go (dQ.1,dQ.2.1,dQ.2.2.1,dQ.2.2.2.1++[o0],dQ.2.2.2.2.1,dQ.2.2.2.2.2))) (λdQ=>(dQ.1,dQ.2.1,dQ.2.2.1,dQ.2.2.2.1,dQ.2.2.2.2.1,dQ.2.2.2.2.2)) n 0 (A,W,H,D,X,Y)=J (A,W,H,D++rg (λi=>vc gr h (w.getD i 0) (v.getD i 0)) n,X,Y):=by
 refine po (λi=>(A,W,H,D++rg (λi=>vc gr h (w.getD i 0) (v.getD i 0)) i,X,Y)) (by rw[t9,ri]) λi hi=>?_
 refine ag (d4 (by omega)) (ag (d4 (by omega)) (ag (EM k hh _ _) (aG (by dsimp only;rw[bP,bn];omega) (aj ?_))));rw[vx]
def zzd(k:ao gr)(hh:R9 h){ch:List Int}(hc:ch.length=n/\∀z∈ch,aK gr z=Z)(c:vt gr.Q n C)(hn:n<=100){D X Y:List Int}(hD:D.length<=1000):aS (σ:=(List Int)×List Int×List Int×List Int×List Int×List Int×Int) (λvh dm=>
 (ix C.w vh).bind λLP=>
 (ix C.s vh).bind λMg=>
 (cD gr dm.2.2.2.2.2.2 LP).bind λMo=>
 (cD gr h Mg).bind λL8=>
 (d8 gr [Mo,L8]).bind λHG=>
 gd ((dm.2.2.2.1.length+1)*8<=140737488355328/\dm.2.2.2.1.length+1<=4611686018427387904)<|
 (ix dm.2.2.1 vh).bind λJ2=>
 J (.go (dm.1,dm.2.1,dm.2.2.1,dm.2.2.2.1++[HG],dm.2.2.2.2.1,dm.2.2.2.2.2.1,J2))) (λdm=>(dm.1,dm.2.1,dm.2.2.1,dm.2.2.2.1,dm.2.2.2.2.1,dm.2.2.2.2.2.1)) n 0 (A,W,ch,D,X,Y,gr.G)=J (A,W,ch,D++rg (c2F gr h ch C) n,X,Y):=by
 refine po (λi=>(A,W,ch,D++rg (c2F gr h ch C) i,X,Y,bef gr.G ch i)) (by rw[t9,ri];rfl) λi hi=>?_
 have hb:=EH k (nK k) hc.2 i (by omega);refine ag (d4 (by have:=c.w.1;omega)) (ag (d4 (by have:=c.s.1;omega)) (ag (fe k hb.2 _) (ag (fe k hh _) (ag (iD k (bJ k _ _) (bJ k _ _)) (aG (by dsimp only;rw[bP,bn];omega) (ag (d4 (by have:=hc.1;dsimp only;omega)) (aj ?_)))))));have e:ch.getD i 0=bef gr.G ch (i+1):=by unfold bef;simp
 rw[vx,e];rfl
def L2(k:ao gr){w:List Int}(hw:w.length=n/\∀z∈w,E9 gr.Q z){L:List Int}{u:Nat->Int}(hu:∀i,i<n->ix L (i:Int)=J (u i)/\E9 gr.Q (u i))(hn:n<=100){t:Int}(ht:E9 gr.Q t)(hA:A.length<=1000):aS (σ:=(List Int)) (λAb oY=>
 (ix w Ab).bind λIp=>
 (ix L Ab).bind λIy=>
 gd (gr.Q≠0)<|
 gd ((oY.length+1)*8<=140737488355328/\oY.length+1<=4611686018427387904)<|
 J (.go (oY++[(i64.wrap (Ip+(i64.wrap (t*Iy)))).tmod gr.Q]))) (λoY=>oY) n 0 A=J (A++rg (rF gr.Q t w u) n):=by
 have hP:=k.p;have hq:=k.q;refine po (λi=>A++rg (rF gr.Q t w u) i) (by rw[t9,ri]) λi hi=>?_
 refine ag (d4 (by omega)) (ag (hu i hi).1 (aG (by omega) (aG (by rw[bP,bn];omega) (aj ?_))));rw[(iK (q:=gr.Q) (by omega) (eB hw.2 (by omega)) ht (hu i hi).2).2,vx];rfl
def zzr(k:ao gr)(c:vt gr.Q n C)(hn:n<=100){y t:Int}(hy:E9 gr.Q y)(ht:E9 gr.Q t)(hA:A.length<=1000):aS (σ:=(List Int)) (λuq oX=>
 (ix C.v uq).bind λHp=>
 (ix C.a uq).bind λH6=>
 (ix C.b uq).bind λJ5=>
 gd (gr.Q≠0)<|
 gd (gr.Q≠0)<|
 gd ((oX.length+1)*8<=140737488355328/\oX.length+1<=4611686018427387904)<|
 J (.go (oX++[(i64.wrap (Hp+(i64.wrap (t*((i64.wrap ((i64.wrap (y*H6))+J5)).tmod gr.Q))))).tmod gr.Q]))) (λoX=>oX) n 0 A=J (A++rg (rF gr.Q t C.v (abF gr.Q y C)) n):=by
 have hP:=k.p;have hq:=k.q;refine po (λi=>A++rg (rF gr.Q t C.v (abF gr.Q y C)) i) (by rw[t9,ri]) λi hi=>?_
 have g2:∀{l:List Int},(l.length=n/\∀z∈l,E9 gr.Q z)->E9 gr.Q (l.getD i 0):=λh=>eB h.2 (by omega)
 refine ag (d4 (by have:=c.v.1;omega)) (ag (d4 (by have:=c.a.1;omega)) (ag (d4 (by have:=c.b.1;omega)) (aG (by omega) (aG (by omega) (aG (by rw[bP,bn];omega) (aj ?_))))));have e0:(y*C.a.getD i 0+C.b.getD i 0).tmod gr.Q=(y*C.a.getD i 0+C.b.getD i 0)%gr.Q:=je (by have:=sK hy.1 (g2 c.a).1;have:=(g2 c.b).1;omega);rw[W2 (q:=gr.Q) (by omega) hy (g2 c.a) (g2 c.b),e0,(iK (q:=gr.Q) (by omega) (g2 c.v) ht (gf (by omega) _)).2,vx];rfl
end
def w9{α:Type}{A X R L:List α}{p q:Nat}(e:L=A++(X++R))(h1:A.length=p)(h2:p+X.length=q):(L.take q).drop p=X:=by
 rw[e,<-gU,a0M (by simp;omega),OO h1]
def Om(key:Int)(l out:List an)(m w:List Int):zdR key l out m++w=zdR key l out (m++w):=by simp[zdR]
def zGC{q:Int}{n:Nat}{C:Pc}(c:vt q n C):C.cs.length=8*n+2/\(C.cs.take n).drop 0=C.a/\(C.cs.take (2*n)).drop n=C.b/\(C.cs.take (3*n)).drop (2*n)=C.c/\(C.cs.take (4*n)).drop (3*n)=C.w/\(C.cs.take (5*n)).drop (4*n)=C.v/\(C.cs.take (6*n)).drop (5*n)=C.s/\(C.cs.take (7*n+1)).drop (6*n+1)=C.k/\(C.cs.take (8*n+1)).drop (7*n+1)=C.m/\ix C.cs ((6*n:Nat):Int)=J C.g/\ix C.cs ((8*n+1:Nat):Int)=J C.f:=by
 have lA:=c.a.1;have lB:=c.b.1;have lC:=c.c.1;have lW:=c.w.1;have lV:=c.v.1;have lS:=c.s.1;have lK:=c.k.1;have lM:=c.m.1;refine⟨by simp[Pc.cs];omega,?_,?_,?_,?_,?_,?_,?_,?_,?_,?_⟩
 ·exact w9 (A:=[]) (R:=(C.b++(C.c++(C.w++(C.v++(C.s++(C.g::(C.k++(C.m++[C.f]))))))))) (by simp[Pc.cs]) rfl (by omega)
 ·exact w9 (A:=C.a) (R:=(C.c++(C.w++(C.v++(C.s++(C.g::(C.k++(C.m++[C.f])))))))) (by simp[Pc.cs]) lA (by omega)
 ·exact w9 (A:=(C.a++C.b)) (R:=(C.w++(C.v++(C.s++(C.g::(C.k++(C.m++[C.f]))))))) (by simp[Pc.cs]) (by simp;omega) (by omega)
 ·exact w9 (A:=(C.a++(C.b++C.c))) (R:=(C.v++(C.s++(C.g::(C.k++(C.m++[C.f])))))) (by simp[Pc.cs]) (by simp;omega) (by omega)
 ·exact w9 (A:=(C.a++(C.b++(C.c++C.w)))) (R:=(C.s++(C.g::(C.k++(C.m++[C.f]))))) (by simp[Pc.cs]) (by simp;omega) (by omega)
 ·exact w9 (A:=(C.a++(C.b++(C.c++(C.w++C.v))))) (R:=(C.g::(C.k++(C.m++[C.f])))) (by simp[Pc.cs]) (by simp;omega) (by omega)
 ·exact w9 (A:=(C.a++(C.b++(C.c++(C.w++(C.v++(C.s++[C.g]))))))) (R:=(C.m++[C.f])) (by simp[Pc.cs]) (by simp;omega) (by omega)
 ·exact w9 (A:=(C.a++(C.b++(C.c++(C.w++(C.v++(C.s++([C.g]++C.k)))))))) (R:=[C.f]) (by simp[Pc.cs]) (by simp;omega) (by omega)
 ·have e:C.cs=(C.a++(C.b++(C.c++(C.w++(C.v++C.s)))))++(C.g::(C.k++(C.m++[C.f]))):=by simp[Pc.cs]
  have h0:(C.a++(C.b++(C.c++(C.w++(C.v++C.s))))).length=6*n:=by simp;omega
  exact Jv (by rw[e,fT (by omega),h0,Nat.sub_self];rfl)
 have e:C.cs=(C.a++(C.b++(C.c++(C.w++(C.v++(C.s++([C.g]++(C.k++C.m))))))))++[C.f]:=by simp[Pc.cs]
 have h0:(C.a++(C.b++(C.c++(C.w++(C.v++(C.s++([C.g]++(C.k++C.m)))))))).length=8*n+1:=by simp;omega
 exact Jv (by rw[e,fT (by omega),h0,Nat.sub_self];rfl)
section
attribute [local irreducible] chG zaR zdR zaO
section
variable {gr:am}{key h:Int}{l:List an}{perm rs:List Int}{C:Pc}
def zGo(k:ao gr)(P:gT gr key h l perm rs C):Ak gr key l (zaR gr key l perm rs) (gy gr h perm C l.length) (kj gr key h l perm rs C)=J (qK gr key h l perm rs C,tJ gr key h l perm rs C):=by
 have hn:=P.m.n;have kA:(zaR gr key l perm rs).length=l.length:=by rw[kO,P.m.pl]
 have lP:(gy gr h perm C l.length).length=l.length:=bn _ _;have lW:(kj gr key h l perm rs C).length=l.length:=bn _ _;have a1:=NY k P;have a2:=Le k P;unfold Ak;refine bE (ag (zB (by omega) (by omega) (by omega)) (aG (by omega) ?_));rw[Om];exact ag (pz k (s:=sY) (by decide) (by have:=a2.1;omega) a2.2).2 (ag (pz k (s:=sZ) (by decide) (by have:=a2.1;omega) a2.2).2 (aj rfl))
def zHN(k:ao gr)(P:gT gr key h l perm rs C){x y:List Int}:yO gr key l (zaR gr key l perm rs) ⟨gy gr h perm C l.length,kj gr key h l perm rs C,jp gr key h l perm rs C,⟨gF gr key h l perm rs C,x,y⟩⟩=J (j4 gr key h l perm rs C):=by
 have hn:=P.m.n;have kA:(zaR gr key l perm rs).length=l.length:=by rw[kO,P.m.pl]
 have lP:(gy gr h perm C l.length).length=l.length:=bn _ _;have lW:(kj gr key h l perm rs C).length=l.length:=bn _ _;have lH:=(H5 k P).1;have lM:=(Dx k P).1;have a1:=NY k P;have a2:=Le k P;have a3:=WM k P;have a2':(zdR key l (zaR gr key l perm rs) (gy gr h perm C l.length++kj gr key h l perm rs C)).length=1+6*l.length:=a2.1;unfold yO;dsimp only;refine bE (ag (zB (by omega) (by omega) (by omega)) (aG (by omega) ?_));rw[Om];exact aG (by omega) (aG (by rw[bP];omega) (ag (pz k (s:=sE) (by decide) (by have:=a3.1;unfold oG at this;omega) a3.2).2 (aj rfl)))
attribute [local irreducible] rg plF pwF chF uF dlF c2F rF abF eF dtN sdV vc
set_option maxHeartbeats 4000000 in
def zGJ(k:ao gr)(P:gT gr key h l perm rs C):Eu gr key h l perm rs C.cs=J (iX gr key h l perm rs C):=by
 have hp:=k.p;have hq:=k.q;have cM:0<gr.Q/\gr.Q<=2000000000:=by omega
 have hQ:gr.Q≠0:=by omega
 have hn:=P.m.n;have dN:=P.m.pl;have fj:=P.m.rl;have hk:=dT k P.m.key;have hH:=dT k P.hh;have kA:(zaR gr key l perm rs).length=l.length:=by rw[kO,P.m.pl]
 have f9:=sA k (uN k P.m);have eW:=mH (zaR gr key l perm rs);rw[kA]at eW;have hx:E9 gr.Q (nl gr key h l perm rs C):=mE k _ _;have hy:E9 gr.Q (qK gr key h l perm rs C):=mE k _ _;have hz:E9 gr.Q (tJ gr key h l perm rs C):=mE k _ _;have ht:E9 gr.Q (j4 gr key h l perm rs C):=mE k _ _;have a1:=NY k P;have a4:=Dx k P;have a5:=H5 k P;have ee:∀i,E9 gr.Q (jV gr key h l perm rs C i):=λi=>M8 cM.1 _ _ _
 have ue:∀i,E9 gr.Q (kW gr key h l perm rs C i):=λi=>by unfold kW uF;exact gf cM.1 _
 have de:∀i,E9 gr.Q (dlF gr.Q (kW gr key h l perm rs C) C i):=λi=>by unfold dlF;exact gf cM.1 _
 have lP:(gy gr h perm C l.length).length=l.length:=bn _ _;have c1:=Sd k P.m;have c2:=zEN (h:=h) k hH P.pr dN P.c.a.1 (by omega);have c3:=zB (key:=key) (l:=l) (out:=zaR gr key l perm rs) (m:=gy gr h perm C l.length) (by omega) (by omega) (by omega);have c4:=(pz k (s:=sX) (by decide) (by omega) a1.2).2;have c5:=zGy k P.pr dN (by omega) hx;have c6:=zzg (A:=gy gr h perm C l.length) (e:=jV gr key h l perm rs C) k hH P.c.b.1 (by omega);have c7:=zGo k P;have c8:=zzi (A:=gy gr h perm C l.length) (W:=kj gr key h l perm rs C) k hH P.pr dN P.c (by omega) (x:=nl gr key h l perm rs C) hy hz;have c9:=(VP (A:=gy gr h perm C l.length) (W:=kj gr key h l perm rs C) (H:=jp gr key h l perm rs C) (D:=[]) (X:=[]) (Y:=[]) k hH P.c.w.1 P.c.v.1 (by omega) (by simp)).trans (show _=J (gy gr h perm C l.length,kj gr key h l perm rs C,jp gr key h l perm rs C,rg (LG gr h C) l.length,[],[])from by rw[mM];rfl);have xT:=λD hD=>zzd (A:=gy gr h perm C l.length) (W:=kj gr key h l perm rs C) (D:=D) (X:=[]) (Y:=[]) k hH a5 P.c (by omega) hD
 have rH:=λD hD=>VP (A:=gy gr h perm C l.length) (W:=kj gr key h l perm rs C) (H:=jp gr key h l perm rs C) (D:=D) (X:=[]) (Y:=[]) k hH P.c.k.1 P.c.m.1 (by omega) hD
 have OT:=(rE (l:=zaR gr key l perm rs) (by omega)).2;have PN:=oO (m:=C.k) k f9.1 (by rw[eW.1,P.c.k.1];exact cy _);have TT:=oO (m:=C.k) k f9.2 (by rw[eW.2,P.c.k.1];exact cy _);have TA:=zHN k P (x:=[]) (y:=[]);have r1:=λA hA=>L2 (A:=A) k P.c.w (L:=rg (kW gr key h l perm rs C) l.length) (u:=kW gr key h l perm rs C) (λi hi=>⟨sU _ hi,ue i⟩) (by omega) ht hA
 have r2:=λA hA=>zzr (A:=A) k P.c (by omega) hy ht hA
 have r3:=λA hA=>L2 (A:=A) k P.c.s (L:=rg (dlF gr.Q (kW gr key h l perm rs C) C) l.length) (u:=dlF gr.Q (kW gr key h l perm rs C) C) (λi hi=>⟨sU _ hi,de i⟩) (by omega) ht hA
 have r4:=λA hA=>L2 (A:=A) k P.c.k (L:=rg (jV gr key h l perm rs C) l.length) (u:=jV gr key h l perm rs C) (λi hi=>⟨sU _ hi,ee i⟩) (by omega) ht hA
 have r5:=λA hA=>L2 (A:=A) k P.c.m (L:=C.b) (u:=λi=>C.b.getD i 0) (λi hi=>⟨d4 (by rw[P.c.b.1];exact hi),eB P.c.b.2 (by rw[P.c.b.1];exact hi)⟩) (by omega) ht hA
 have TZ:=((Rf cM (l:=rs) (m:=rg (jV gr key h l perm rs C) l.length) (zp P.m.re) (m9 λi _=>ee i) ((bn _ _).trans fj.symm)).trans (by rw[fj]):vl rs (rg (jV gr key h l perm rs C) l.length) gr.Q=J (dtN gr.Q rs (rg (jV gr key h l perm rs C) l.length) l.length))
 have QI:=yK cM.1 rs (rg (jV gr key h l perm rs C) l.length) l.length;have gQ:ix C.c ((l.length-1:Nat):Int)=J (C.c.getD (l.length-1) 0):=d4 (by rw[P.c.c.1];omega);have Q8:E9 gr.Q (C.c.getD (l.length-1) 0):=eB P.c.c.2 (by rw[P.c.c.1];omega);have x1:=(iK (q:=gr.Q) (by omega) P.c.g ht Q8).2;have x2:=(iK (q:=gr.Q) (by omega) P.c.f ht QI).2;have w1:i64.wrap ((l.length:Int)-1)=((l.length-1:Nat):Int):=cL (by omega) (by omega);have w2:i64.wrap (2*(l.length:Int))=((2*l.length:Nat):Int):=cL (by omega) (by omega);have w3:i64.wrap (3*(l.length:Int))=((3*l.length:Nat):Int):=cL (by omega) (by omega);have w4:i64.wrap (4*(l.length:Int))=((4*l.length:Nat):Int):=cL (by omega) (by omega);have w5:i64.wrap (5*(l.length:Int))=((5*l.length:Nat):Int):=cL (by omega) (by omega);have w6:i64.wrap (6*(l.length:Int))=((6*l.length:Nat):Int):=cL (by omega) (by omega);have w7:i64.wrap (7*(l.length:Int))=((7*l.length:Nat):Int):=cL (by omega) (by omega);have w8:i64.wrap (8*(l.length:Int))=((8*l.length:Nat):Int):=cL (by omega) (by omega);have w61:i64.wrap (((6*l.length:Nat):Int)+1)=((6*l.length+1:Nat):Int):=cL (by omega) (by omega);have w71:i64.wrap (((7*l.length:Nat):Int)+1)=((7*l.length+1:Nat):Int):=cL (by omega) (by omega);have w81:i64.wrap (((8*l.length:Nat):Int)+1)=((8*l.length+1:Nat):Int):=cL (by omega) (by omega);obtain⟨a1v,hA,hB,hCc,hW,hV,hS,hK,hM,hg,hf⟩:=zGC P.c;generalize C.cs=aH at*;clear eW f9;unfold Eu;simp only[w1,w2,w3,w4,w5,w6,w7,w8,w61,w71,w81,dG,hA,hB,hCc,hW,hV,hS,hK,hM,P.c.w.1,P.c.k.1];refine bE (ag c1 ?_)
 iterate 17 refine aG (by omega) ?_
 refine ag hg ?_
 iterate 6 refine aG (by omega) ?_
 refine ag hf (ag c2 (ag c3 (ag c4 (ag c5 ?_))));rw[show(rg (eF gr.Q (nl gr key h l perm rs C) perm) l.length).length=l.length from bn _ _];refine ag c6 (ag c7 (ag c8 (ag OT (ag c9 (ag (xT _ ?_) ?_)))))
 ·rw[bn];omega
 dsimp only;refine ag (fe k hH _) (aG ?_ (ag (rH _ ?_) ?_))
 ·simp only[bP,bn];omega
 ·simp only[bP,bn,dX,ia];omega
 dsimp only;refine ag (fe k (fF k) _) (ag PN (ag (iD k (bJ k _ _) (fE k _ _)) (ag (fe k hk _) (ag TT (ag (iD k (bJ k _ _) (fE k _ _)) (aG ?_ (ag TA ?_)))))))
 ·simp only[bP,bn,dX,ia];omega
 refine ag (r1 _ (by simp)) (ag (r2 _ ?_) (ag (r3 _ ?_) (ag gQ (aG hQ (aG ?_ (ag (r4 _ ?_) (ag (r5 _ ?_) (ag TZ (aG hQ (aG ?_ (aj ?_)))))))))))
 ·simp only[bP,bn,ia];omega
 ·simp only[bP,bn,ia];omega
 ·simp only[bP,bn,ia];omega
 ·simp only[bP,bn,dX,ia];omega
 ·simp only[bP,bn,dX,ia];omega
 ·simp only[bP,bn,dX,ia];omega
 have eR:∀R1 R2 R3 R4 R5:List Int,∀a b:Int,[]++R1++R2++R3++[a]++R4++R5++[b]=R1++(R2++(R3++([a]++(R4++(R5++[b]))))):=λR1 R2 R3 R4 R5 a b=>by simp
 rw[x1,x2,eR];unfold iX M1;rfl
end
end
abbrev uL:ck:=⟨[],[],[],⟨[],[],[]⟩⟩
variable{q:Int}
def qk{l:List Int}{n m:Nat}(h:l.length=n+m):∃a r,l=a++r/\a.length=n/\r.length=m:=⟨l.take n,l.drop n,(Df n l).symm,by simp;omega,by simp;omega⟩
def WX{n:Nat}{aH:List Int}(hl:aH.length=8*n+2)(he:∀z∈aH,E9 q z):∃C:Pc,aH=C.cs/\vt q n C:=by
 obtain⟨a,r,rfl,ha,h1⟩:=qk (l:=aH) (n:=n) (m:=7*n+2) (by omega);obtain⟨b,r,rfl,hb,h2⟩:=qk (l:=r) (n:=n) (m:=6*n+2) (by omega);obtain⟨c,r,rfl,hc,h3⟩:=qk (l:=r) (n:=n) (m:=5*n+2) (by omega);obtain⟨w,r,rfl,hw,h4⟩:=qk (l:=r) (n:=n) (m:=4*n+2) (by omega);obtain⟨v,r,rfl,hv,h5⟩:=qk (l:=r) (n:=n) (m:=3*n+2) (by omega);obtain⟨s,r,rfl,hs,h6⟩:=qk (l:=r) (n:=n) (m:=2*n+2) (by omega)
 match r,h6 with
 |g::r,h6=>
  simp only[dX]at h6;obtain⟨k,r,rfl,hk,h7⟩:=qk (l:=r) (n:=n) (m:=n+1) (by omega);obtain⟨m,r,rfl,hm,h8⟩:=qk (l:=r) (n:=n) (m:=1) (by omega)
  match r,h8 with
  |[f],_=>
   refine⟨⟨a,b,c,w,v,s,g,k,m,f⟩,rfl,⟨ha,λz hz=>he z ?_⟩,⟨hb,λz hz=>he z ?_⟩,⟨hc,λz hz=>he z ?_⟩,⟨hw,λz hz=>he z ?_⟩,⟨hv,λz hz=>he z ?_⟩,⟨hs,λz hz=>he z ?_⟩,he g ?_,⟨hk,λz hz=>he z ?_⟩,⟨hm,λz hz=>he z ?_⟩,he f ?_⟩<;>simp_all
  |[],h=>simp at h
  |_::_::_,h=>simp at h
 |[],h6=>simp at h6
structure Zt (gr:am) (key:Int) (l:List an) (perm rs aH:List Int) (p:ck):Prop where
 k:ao gr
 x:∃(B:cr) (C:Pc),aH=C.cs/\gT gr key B.H l perm rs C/\p=iX gr key B.H l perm rs C/\lw gr 0=J (B,Z)
def Bl{gr:am}(k:ao gr)(hd:okD gr=Z)(key:Int){l:List an}(hl:l.length<=13):∃B,sB gr 0=J (B,Z)/\lw gr 0=J (B,Z)/\aK gr B.H=Z/\xB gr key l=J (if fG gr key l=Z then(B,Z)else(⟨0,[]⟩,aa)):=by
 obtain⟨Bn,_,b2,_⟩:=NZ k hd (n:=l.length) hl;obtain⟨B,c1,c2,c3⟩:=NZ k hd (n:=0) (by omega);have c2:lw gr 0=J (B,Z):=c2;refine⟨B,c1,c2,c3.h,?_⟩;unfold xB;rw[vf k key l b2,c2];cases fG gr key l<;>rfl
def Td{gr:am}(k:¬ao gr)(key:Int)(l:List an):xB gr key l=J (⟨0,[]⟩,aa):=by
 unfold xB;rw[Nz k];rfl
def zK7(gr:am)(hg:Dg gr)(key:Int){l:List an}(hl:l.length<=13)(perm rs aH:List Int):∃p t,rR gr key l perm rs aH=J (p,t)/\zl gr key l perm rs aH=J (p,t)/\(t=aa->p=uL)/\(t=Z->Zt gr key l perm rs aH p):=by
 have w8:i64.wrap (i64.wrap (8*(l.length:Int))+2)=((8*l.length+2:Nat):Int):=by
  rw[aI (n:=8*(l.length:Int)) (by omega) (by omega)];exact cL (by omega) (by omega)
 by_cases k:ao gr
 ·have hq:=k.q;have hp:=k.p;obtain⟨B,b1,b2,b3,b4⟩:=Bl k (hg k) key hl;have e2:((rs.length:Int) !=(l.length:Int))= !decide (rs.length=l.length):=by by_cases h:rs.length=l.length<;>simp[h];omega
  have e3:((aH.length:Int) !=((8*l.length+2:Nat):Int))= !decide (aH.length=8*l.length+2):=by by_cases h:aH.length=8*l.length+2<;>simp[h];omega
  have I:rR gr key l perm rs aH=if(fG gr key l&&(kd gr l.length perm rs&&(decide (aH.length=8*l.length+2)&&aH.all (di gr))))=Z then(E4 gr B key l perm rs aH).bind (λz=>J (z.1,z.2))else J (uL,aa):=by
   unfold rR;rw[b4,yP k (by omega),show(decide (perm.length=l.length)&&d5 perm&&(decide (rs.length=l.length)&&rs.all (di gr)))=kd gr l.length perm rs from rfl,w8,e3,yt (by omega) (by omega)];cases fG gr key l<;>cases kd gr l.length perm rs<;>cases decide (aH.length=8*l.length+2)<;>cases aH.all (di gr)<;>rfl
  have S:zl gr key l perm rs aH=if(fG gr key l&&(kd gr l.length perm rs&&(decide (aH.length=8*l.length+2)&&aH.all (di gr))))=Z then(Eu gr key B.H l perm rs aH).bind (λz=>J (z,Z))else J (uL,aa):=by
   unfold zl DA;rw[vj k,show(aK gr key&&(cX 1 12 l.length&&l.all (b8 gr)))=fG gr key l from rfl,SD perm l.length (by omega),zq (l:=rs) (by omega) (by omega),zq (l:=aH) (by omega) (by omega),e2,w8,e3,b1];unfold kd;cases fG gr key l<;>cases (decide (perm.length=l.length)&&d5 perm)<;>cases decide (rs.length=l.length)<;>cases rs.all (di gr)<;>cases decide (aH.length=8*l.length+2)<;>cases aH.all (di gr)<;>rfl
  by_cases hc:(fG gr key l&&(kd gr l.length perm rs&&(decide (aH.length=8*l.length+2)&&aH.all (di gr))))=Z
  ·rw[aB hc]at I S;obtain⟨h1,Pg⟩:=A4.1 hc;obtain⟨h2,Ql⟩:=A4.1 Pg;obtain⟨h3,h4⟩:=A4.1 Ql;have m:=N3.1 (show(fG gr key l&&kd gr l.length perm rs)=Z by rw[h1,h2];rfl);obtain⟨C,rfl,hC⟩:=WX (wg h3) (zp h4);have P:gT gr key B.H l perm rs C:=⟨m,b3,hC⟩
   rw[Wo k P]at I;rw[zGJ k P]at S;exact⟨iX gr key B.H l perm rs C,Z,I,S,λh=>(by cases h),λ_=>⟨k,B,C,rfl,P,rfl,b2⟩⟩
  rw[az hc]at I S;exact⟨uL,aa,I,S,λ_=>rfl,λh=>by cases h⟩
 refine⟨uL,aa,?_,?_,λ_=>rfl,λh=>by cases h⟩
 ·unfold rR;rw[Td k];rfl
 unfold zl;rw[EL k];rfl
def zDE{gr:am}{key:Int}{l:List an}(hl:l.length<=13){perm rs aH:List Int}{p:ck}(h:Zt gr key l perm rs aH p):p.bQ.length<=1000/\p.bL.length<=1000/\p.aF.length<=1000/\p.Pi.aC.length<=1000/\p.Pi.aW.length<=1000/\p.Pi.aD.length<=1000:=by
 obtain⟨k,B,C,_,P,rfl,_⟩:=h;have h4:=(Dx k P).1;refine⟨?_,?_,?_,?_,by simp[iX],by simp[iX,M1,bn];omega⟩
 ·show(rg _ l.length).length<=_;rw[bn];omega
 ·show(rg _ l.length).length<=_;rw[bn];omega
 ·show(rg _ l.length).length<=_;rw[bn];omega
 show(gF gr key B.H l perm rs C).length<=_;omega
def r7(gr:am)(n:Nat)(p:ck):Bool:=decide (p.bQ.length=n)&&(decide (p.bL.length=n)&&(decide (p.aF.length=n)&&(decide (p.Pi.aC.length=3*n+3)&&(decide (p.Pi.aW.length=1)&&(decide (p.Pi.aD.length=5*n+2)&&(p.bQ.all (aK gr)&&(p.bL.all (aK gr)&&(p.aF.all (aK gr)&&(p.Pi.aC.all (aK gr)&&p.Pi.aD.all (di gr))))))))))
def Wb{gr:am}(k:ao gr){n:Nat}(hn:n<=1000)(p:ck):Kq gr p (n:Int)=J (r7 gr n p):=by
 have hq:=k.q;have hp:=k.p
 have e1:i64.wrap (i64.wrap (3*(n:Int))+3)=((3*n+3:Nat):Int):=by
  rw[aI (n:=3*(n:Int)) (by omega) (by omega)];exact cL (by omega) (by omega)
 have e2:i64.wrap (i64.wrap (5*(n:Int))+2)=((5*n+2:Nat):Int):=by
  rw[aI (n:=5*(n:Int)) (by omega) (by omega)];exact cL (by omega) (by omega)
 have e3:((p.Pi.aW.length:Int)==1)=decide (p.Pi.aW.length=1):=iG _ 1;unfold Kq;rw[e1,e2,iG,iG,iG,iG,iG,e3,B7 k,B7 k,B7 k,B7 k,yt (by omega) (by omega)];unfold r7;generalize decide (p.bQ.length=n)=a1;generalize decide (p.bL.length=n)=a2;generalize decide (p.aF.length=n)=a3;generalize decide (p.Pi.aC.length=3*n+3)=a4;generalize decide (p.Pi.aW.length=1)=a5;generalize decide (p.Pi.aD.length=5*n+2)=a6;generalize p.bQ.all (aK gr)=a7;generalize p.bL.all (aK gr)=a8;generalize p.aF.all (aK gr)=a9;generalize p.Pi.aC.all (aK gr)=Jk;generalize p.Pi.aD.all (di gr)=a11;cases a1
 ·rfl
 cases a2
 ·rfl
 cases a3
 ·rfl
 cases a4
 ·rfl
 cases a5
 ·rfl
 cases a6
 ·rfl
 cases a7
 ·rfl
 cases a8
 ·rfl
 cases a9
 ·rfl
 cases Jk<;>rfl
def zAt{gr:am}(k:ao gr){n:Nat}(hn:n<=1000)(p:ck):Jc gr (n:Int) p=J (r7 gr n p):=by
 have hq:=k.q;have hp:=k.p
 have e1:i64.wrap (i64.wrap (3*(n:Int))+3)=((3*n+3:Nat):Int):=by
  rw[aI (n:=3*(n:Int)) (by omega) (by omega)];exact cL (by omega) (by omega)
 have e2:i64.wrap (i64.wrap (5*(n:Int))+2)=((5*n+2:Nat):Int):=by
  rw[aI (n:=5*(n:Int)) (by omega) (by omega)];exact cL (by omega) (by omega)
 have e3:((p.Pi.aW.length:Int)==1)=decide (p.Pi.aW.length=1):=iG _ 1;unfold Jc;rw[e1,e2,iG,iG,iG,iG,iG,e3,yk k,yk k,yk k,yk k,zq (by omega) (by omega)];unfold r7;generalize decide (p.bQ.length=n)=a1;generalize decide (p.bL.length=n)=a2;generalize decide (p.aF.length=n)=a3;generalize decide (p.Pi.aC.length=3*n+3)=a4;generalize decide (p.Pi.aW.length=1)=a5;generalize decide (p.Pi.aD.length=5*n+2)=a6;generalize p.bQ.all (aK gr)=a7;generalize p.bL.all (aK gr)=a8;generalize p.aF.all (aK gr)=a9;generalize p.Pi.aC.all (aK gr)=Jk;generalize p.Pi.aD.all (di gr)=a11;cases a1
 ·rfl
 cases a2
 ·rfl
 cases a3
 ·rfl
 cases a4
 ·rfl
 cases a5
 ·rfl
 cases a6
 ·rfl
 cases a7
 ·rfl
 cases a8
 ·rfl
 cases a9
 ·rfl
 cases Jk<;>rfl
def j5(q x:Int):Nat->Int
 |0=>1
 |i+1=>(j5 q x i*x)%q
def tgN(q x y z:Int):Nat->Int
 |0=>1
 |i+1=>(tgN q x y z i*((y*((i:Int)+1)+j5 q x (i+1)-z)%q))%q
theorem zz5(hq:1<q)(x:Int):∀i,E9 q (j5 q x i)
 |0=>⟨by show(0:Int)<=1;omega,hq⟩
 |i+1=>gf (by omega) _
theorem TX(hq:1<q)(x y z:Int):∀i,E9 q (tgN q x y z i)
 |0=>⟨by show(0:Int)<=1;omega,hq⟩
 |i+1=>gf (by omega) _
def zCL(hq:0<q/\q<=2000000000)(a:Int):AV a q=J (a%q):=O9 hq.1 hq.2
def zHC(hq:1<q/\q<=2000000000){n:Nat}(hn:n<=100){x y z:Int}(hx:E9 q x)(hy:E9 q y)(hz:E9 q z):Kn q (n:Int) x y z=J (tgN q x y z n):=by
 have cM:0<q/\q<=2000000000:=by omega
 have hQ:q≠0:=by omega
 unfold Kn;refine bE (ay (ψ:=(· =tgN q x y z n)) (kK n (λi s=>s=(tgN q x y z i,j5 q x i,(i:Int)+1)/\i<=n) ⟨rfl,by omega⟩ ?_ ?_) λv hv=>aj hv)
 ·rintro i s hi ⟨rfl,_⟩;have ui:=zz5 hq.1 x i;have PO:=TX hq.1 x y z i;have m1:=(uw (q:=q) hq.2 ui hx).2;have h1:0<=y*((i:Int)+1):=sK hy.1 (by omega);have h2:y*((i:Int)+1)<=2000000000*101:=wh (by have:=hy.2;omega) (by omega) (by omega) (by omega);have b1:=gf cM.1 (y*((i:Int)+1));have b2:=gf cM.1 (j5 q x i*x);refine fV (by simp;omega) (aG hQ (aG hQ ?_));dsimp only;rw[m1,aI (n:=y*((i:Int)+1)) (by omega) (by omega),je h1,aI (n:=y*((i:Int)+1)%q+j5 q x i*x%q) (by have:=b1.1;have:=b2.1;omega) (by have:=b1.2;have:=b2.2;omega),aI (by have:=b1.1;have:=b2.1;have:=hz.2;omega) (by have:=b1.2;have:=b2.2;have:=hz.1;omega)];refine ag (zCL cM _) (aG hQ (aj ?_))
  have e:(y*((i:Int)+1)%q+j5 q x i*x%q-z)%q=(y*((i:Int)+1)+j5 q x (i+1)-z)%q:=by
   show _=(y*((i:Int)+1)+j5 q x i*x%q-z)%q;rw[sI,o9,eM,eM,sI (y*((i:Int)+1)+_),o9 (y*((i:Int)+1)),eM]
  rw[e,(uw (q:=q) hq.2 PO (gf cM.1 _)).2,aI (n:=(i:Int)+1+1) (by omega) (by omega)];refine⟨?_,by omega⟩;show _=(tgN q x y z (i+1),j5 q x (i+1),((i+1:Nat):Int)+1);rfl
 rintro s ⟨rfl,_⟩;exact bt (by simp;omega) (aj rfl)
def zGm(hq:1<q/\q<=2000000000){n:Nat}(hn:n<=100){x y z:Int}(hx:E9 q x)(hy:E9 q y)(hz:E9 q z):Ka q (n:Int) x y z=J (tgN q x y z n):=by
 have cM:0<q/\q<=2000000000:=by omega
 have hQ:q≠0:=by omega
 unfold Ka;refine bE (aG hQ (ay (ψ:=(· =tgN q x y z n)) (kK n (λi s=>s=(tgN q x y z i,j5 q x i,(i:Int)+1)/\i<=n) ⟨?_,by omega⟩ ?_ ?_) λv hv=>aj hv))
 ·have e:(1:Int).tmod q=1:=by rw[je (by omega),qg (by omega) (by omega)]
  rw[e];rfl
 ·rintro i s hi ⟨rfl,_⟩;have ui:=zz5 hq.1 x i;have PO:=TX hq.1 x y z i;have m1:=(uw (q:=q) hq.2 ui hx).2;have b0:=gf cM.1 ((i:Int)+1);have h1:0<=y*(((i:Int)+1)%q):=sK hy.1 b0.1;have h2:y*(((i:Int)+1)%q)<=2000000000*2000000000:=wh (by have:=hy.2;omega) (by have:=b0.2;omega) b0.1 (by omega);have b2:=gf cM.1 (j5 q x i*x);refine fV (by simp;omega) (aG hQ (aG hQ ?_));dsimp only;rw[m1,je (a:=(i:Int)+1) (by omega),aI (n:=y*(((i:Int)+1)%q)) (by omega) (by omega),aI (n:=y*(((i:Int)+1)%q)+j5 q x i*x%q) (by have:=b2.1;omega) (by have:=b2.2;omega),aI (by have:=b2.1;have:=hz.2;omega) (by have:=b2.2;have:=hz.1;omega)];refine ag (Cv cM.1 cM.2) (aG hQ (aj ?_))
  have e:(y*(((i:Int)+1)%q)+j5 q x i*x%q-z)%q=(y*((i:Int)+1)+j5 q x (i+1)-z)%q:=by
   show _=(y*((i:Int)+1)+j5 q x i*x%q-z)%q;rw[sI,o9,mP,eM,<-mP,<-o9,<-sI]
  rw[e,(uw (q:=q) hq.2 PO (gf cM.1 _)).2,aI (n:=(i:Int)+1+1) (by omega) (by omega)];exact⟨rfl,by omega⟩
 rintro s ⟨rfl,_⟩;exact bt (by simp;omega) (aj rfl)
def im(q x:Int)(i:Nat):Int:=((x.toNat^(i+1)%q.toNat:Nat):Int)
def Wi{gr:am}(k:ao gr){x:Int}(hx:E9 gr.Q x){i:Nat}(hi:i<=100):nA x (i64.wrap ((i:Int)+1)) gr.Q=J (im gr.Q x i)/\k9 x ((i:Int)+1) gr.Q=J (im gr.Q x i):=by
 have h:=Ud k hx (p:=(i:Int)) (by omega);have e:((i:Int)+1).toNat=i+1:=by omega
 have w:i64.wrap ((i:Int)+1)=(i:Int)+1:=aI (by omega) (by omega);rw[e]at h;exact⟨h.1,by rw[w]at h;exact h.2⟩
def zH7{gr:am}(k:ao gr){n:Nat}(hn:n<=100){x:Int}(hx:E9 gr.Q x):Em gr (n:Int) x=J (rg (im gr.Q x) n):=by
 unfold Em;refine bE (ay (ψ:=(· =rg (im gr.Q x) n)) (kK n (λi s=>s=(rg (im gr.Q x) i,(i:Int)+1)/\i<=n) ⟨rfl,by omega⟩ ?_ ?_) λv hv=>aj hv)
 ·rintro i s hi ⟨rfl,_⟩;refine fV (by simp;omega) (ag (Wi k hx (by omega)).2 (aG (by dsimp only;rw[bn];omega) (aj ⟨?_,by omega⟩)));dsimp only;rw[aI (n:=(i:Int)+1+1) (by omega) (by omega),o5];rfl
 rintro s ⟨rfl,_⟩;exact bt (by simp;omega) (aj rfl)
def D9{gr:am}(k:ao gr){x y w z:Int}(b:Bool)(hx:R9 x)(hy:R9 y):qU x y w b gr.P gr.Q gr.G z=J (b&&(aP gr [x,av gr y z]==w)):=by
 unfold qU;cases b
 ·rfl
 show(cQ gr y z).bind _=_;rw[fa k hy,aR];show(eg gr _).bind _=_;rw[jG k hx (bJ k _ _),aR];rfl
structure Rp where
 s1:List Int
 s2:List Int
 s3:List Int
 g:Int
 kk:List Int
 mm:List Int
 f:Int
def Rp.cs(R:Rp):List Int:=R.s1++(R.s2++(R.s3++(R.g::(R.kk++(R.mm++[R.f])))))
structure Cg (n:Nat) (R:Rp):Prop where
 s1:R.s1.length=n
 s2:R.s2.length=n
 s3:R.s3.length=n
 kk:R.kk.length=n
 mm:R.mm.length=n
def zIi{n:Nat}{r:List Int}(hl:r.length=5*n+2):∃R:Rp,r=R.cs/\Cg n R:=by
 obtain⟨a,r,rfl,ha,h1⟩:=qk (l:=r) (n:=n) (m:=4*n+2) (by omega);obtain⟨b,r,rfl,hb,h2⟩:=qk (l:=r) (n:=n) (m:=3*n+2) (by omega);obtain⟨c,r,rfl,hc,h3⟩:=qk (l:=r) (n:=n) (m:=2*n+2) (by omega)
 match r,h3 with
 |g::r,h3=>
  simp only[dX]at h3;obtain⟨k,r,rfl,hk,h7⟩:=qk (l:=r) (n:=n) (m:=n+1) (by omega);obtain⟨m,r,rfl,hm,h8⟩:=qk (l:=r) (n:=n) (m:=1) (by omega)
  match r,h8 with
  |[f],_=>exact⟨⟨a,b,c,g,k,m,f⟩,rfl,ha,hb,hc,hk,hm⟩
  |[],h=>simp at h
  |_::_::_,h=>simp at h
 |[],h3=>simp at h3
def alB(f:Nat->Bool):Nat->Bool
 |0=>Z
 |i+1=>alB f i&&f i
def q1(gr:am)(h y z T:Int)(p:ck)(R:Rp)(i:Nat):Bool:=aP gr [p.Pi.aC.getD i 0,av gr (aP gr [av gr (p.bQ.getD i 0) y,p.bL.getD i 0,av gr gr.G (i64.wrap (0-z))]) T]==vc gr h (R.s1.getD i 0) (R.s2.getD i 0)
def q2(gr:am)(h T:Int)(p:ck)(R:Rp)(n i:Nat):Bool:=aP gr [p.Pi.aC.getD (n+i) 0,av gr (p.aF.getD i 0) T]==aP gr [av gr (bef gr.G p.aF i) (R.s1.getD i 0),av gr h (R.s3.getD i 0)]
def q4(gr:am)(h T:Int)(p:ck)(R:Rp)(n i:Nat):Bool:=aP gr [p.Pi.aC.getD (2*n+1+i) 0,av gr (p.bL.getD i 0) T]==vc gr h (R.kk.getD i 0) (R.mm.getD i 0)
section
variable {gr:am}{p:ck}{R:Rp}{n:Nat}
def Rt(k:ao gr){x y z:Int}(hx:R9 x)(hy:R9 y)(hz:R9 z):R9 (aP gr [x,y,z])/\eg gr [x,y,z]=J (aP gr [x,y,z])/\d8 gr [x,y,z]=J (aP gr [x,y,z]):=by
 have h:∀v∈[x,y,z],0<=v/\v<=2000000000:=by
  intro v hv;simp only[fK,jf,jg]at hv;rcases hv with rfl|rfl|rfl<;>assumption
 exact⟨F6 k h,AK k h,GM k h⟩
def zBT(k:ao gr){B:cr}(hh:R9 B.H)(hn:n<=12)(hp:p.bQ.length=n/\∀z∈p.bQ,aK gr z=Z)(hw:p.bL.length=n/\∀z∈p.bL,aK gr z=Z)(hc:p.aF.length=n/\∀z∈p.aF,aK gr z=Z)(hm:p.Pi.aC.length=3*n+3/\∀z∈p.Pi.aC,aK gr z=Z)(hr:Cg n R){x y z T:Int}(hx:E9 gr.Q x):aS (σ:=(List Int)×Bool) (λf7 lj=>
 (nA x (i64.wrap (f7+1)) gr.Q).bind λoH=>
 gd ((lj.1.length+1)*8<=140737488355328/\lj.1.length+1<=4611686018427387904)<|
 (ix p.Pi.aC f7).bind λMU=>
 (ix p.bQ f7).bind λNv=>
 (ix p.bL f7).bind λFW=>
 (ix R.s1 f7).bind λwN=>
 (ix R.s2 f7).bind λkc=>
 (cQ gr Nv y).bind λCe=>
 (cQ gr gr.G (i64.wrap (0-z))).bind λBH=>
 (eg gr [Ce,FW,BH]).bind λvd=>
 (oC gr B wN kc).bind λnp=>
 (qU MU vd np lj.2 gr.P gr.Q gr.G T).bind λC4=>
 (ix p.Pi.aC (i64.wrap ((n:Int)+f7))).bind λN9=>
 (ix p.aF f7).bind λBA=>
 (ix ([gr.G]++p.aF) f7).bind λEh=>
 (ix R.s3 f7).bind λpY=>
 (cQ gr Eh wN).bind λwj=>
 (cQ gr B.H pY).bind λoq=>
 (eg gr [wj,oq]).bind λBN=>
 (qU N9 BA BN C4 gr.P gr.Q gr.G T).bind λOk=>
 (ix p.Pi.aC (i64.wrap ((i64.wrap ((i64.wrap (2*(n:Int)))+1))+f7))).bind λmA=>
 (ix R.kk f7).bind λiR=>
 (ix R.mm f7).bind λjz=>
 (oC gr B iR jz).bind λo0=>
 (qU mA FW o0 Ok gr.P gr.Q gr.G T).bind λKW=>
 J (.go (lj.1++[oH],KW))) (λlj=>(lj.1,lj.2)) n 0 ([],Z)=J (rg (im gr.Q x) n,alB (λi=>q1 gr B.H y z T p R i&&q2 gr B.H T p R n i&&q4 gr B.H T p R n i) n):=by
 refine po (λi=>(rg (im gr.Q x) i,alB (λi=>q1 gr B.H y z T p R i&&q2 gr B.H T p R n i&&q4 gr B.H T p R n i) i)) rfl λi hi=>?_
 have w1:i64.wrap ((n:Int)+(i:Int))=((n+i:Nat):Int):=cL (by omega) (by omega)
 have w2:i64.wrap (i64.wrap (i64.wrap (2*(n:Int))+1)+(i:Int))=((2*n+1+i:Nat):Int):=by
  rw[aI (n:=2*(n:Int)) (by omega) (by omega),aI (n:=2*(n:Int)+1) (by omega) (by omega)];exact cL (by omega) (by omega)
 have g0:∀{l:List Int},l.length=n->ix l (i:Int)=J (l.getD i 0):=λh=>d4 (by omega)
 have gc:∀j,j<3*n+3->ix p.Pi.aC (j:Int)=J (p.Pi.aC.getD j 0)/\R9 (p.Pi.aC.getD j 0):=λj hj=>⟨d4 (by omega),dT k (eB hm.2 (by omega))⟩
 have a1:=dT k (eB hp.2 (i:=i) (by omega));have a2:=dT k (eB hw.2 (i:=i) (by omega));have a3:=dT k (eB hc.2 (i:=i) (by omega));have hb:=EH k (nK k) hc.2 i (by omega);have m3:=Rt k (bJ k (p.bQ.getD i 0) y) a2 (bJ k gr.G (i64.wrap (0-z)));rw[w1,w2];refine ag (Wi k hx (by omega)).1 (aG (by rw[bn];omega) (ag (gc i (by omega)).1 (ag (g0 hp.1) (ag (g0 hw.1) (ag (g0 hr.s1) (ag (g0 hr.s2) (ag (fa k a1 _) (ag (fa k (fF k) _) (ag m3.2.1 (ag (CY k hh _ _) (ag (D9 k _ (gc i (by omega)).2 m3.1) ?_)))))))))));refine ag (gc (n+i) (by omega)).1 (ag (g0 hc.1) (ag hb.1 (ag (g0 hr.s3) (ag (fa k hb.2 _) (ag (fa k hh _) (ag (jG k (bJ k _ _) (bJ k _ _)) (ag (D9 k _ (gc (n+i) (by omega)).2 a3) ?_)))))));refine ag (gc (2*n+1+i) (by omega)).1 (ag (g0 hr.kk) (ag (g0 hr.mm) (ag (CY k hh _ _) (ag (D9 k _ (gc (2*n+1+i) (by omega)).2 a2) (aj ?_)))));rw[o5];show fb.go (_,_)=fb.go (_,alB _ i&&_);unfold q1 q2 q4;simp only[KJ]
end
section
attribute [local irreducible] chG zdR zaO
def mK(key:Int)(l out:List an)(p:ck):List Int:=zdR key l out (p.bQ++p.bL)
def vpX(gr:am)(key:Int)(l out:List an)(p:ck):Int:=chG gr sX (zdR key l out p.bQ)
def vpY(gr:am)(key:Int)(l out:List an)(p:ck):Int:=chG gr sY (mK key l out p)
def vpZ(gr:am)(key:Int)(l out:List an)(p:ck):Int:=chG gr sZ (mK key l out p)
def vpT(gr:am)(key:Int)(l out:List an)(p:ck):Int:=chG gr sE (mK key l out p++p.aF++p.Pi.aC)
def q3(gr:am)(h tg T:Int)(p:ck)(R:Rp)(n:Nat):Bool:=aP gr [p.Pi.aC.getD (2*n) 0,av gr (aP gr [p.aF.getD (n-1) 0,av gr (av gr gr.G tg) (-1)]) T]==av gr h R.g
def qE(gr:am)(T c base:Int)(B3 Fw yY:List Int)(R:Rp):Bool:=aP gr [c,av gr (zaO gr Fw B3 1) T]==aP gr [av gr base (i64.wrap (0-R.f)),zaO gr yY R.kk 1]
def CT(gr:am)(key h:Int)(l out:List an)(p:ck)(R:Rp)(x y z T:Int)(n:Nat):Bool:=
 (((alB (λi=>q1 gr h y z T p R i&&q2 gr h T p R n i&&q4 gr h T p R n i) n&&q3 gr h (tgN gr.Q x y z n) T p R n)&&qE gr T (p.Pi.aC.getD (3*n+1) 0) gr.G (rg (im gr.Q x) n) (sdV l).1 (sdV out).1 R)&&qE gr T (p.Pi.aC.getD (3*n+2) 0) key (rg (im gr.Q x) n) (sdV l).2 (sdV out).2 R)
structure xu (gr:am) (key h:Int) (l out:List an) (p:ck) (R:Rp):Prop where
 key:aK gr key=Z
 n:1<=l.length/\l.length<=12
 lc:∀c∈l,b8 gr c=Z
 oc:∀c∈out,b8 gr c=Z
 ol:out.length=l.length
 hh:aK gr h=Z
 pl:p.bQ.length=l.length/\∀z∈p.bQ,aK gr z=Z
 pw:p.bL.length=l.length/\∀z∈p.bL,aK gr z=Z
 ch:p.aF.length=l.length/\∀z∈p.aF,aK gr z=Z
 cm:p.Pi.aC.length=3*l.length+3/\∀z∈p.Pi.aC,aK gr z=Z
 cl:p.Pi.aW.length=1
 rs:p.Pi.aD=R.cs
 r:Cg l.length R
section
variable {gr:am}{key h:Int}{l out:List an}{p:ck}{R:Rp}
def zG5(hk:aK gr key=Z)(hn:1<=l.length/\l.length<=12)(lc:∀c∈l,b8 gr c=Z)(oc:∀c∈out,b8 gr c=Z)(hh:aK gr h=Z)(ho:out.length=l.length)(hs:r7 gr l.length p=Z):∃R,xu gr key h l out p R:=by
 simp only[r7,bI,eC]at hs;obtain⟨a1,a2,a3,a4,a5,a6,a7,a8,a9,Jk,_⟩:=hs;obtain⟨R,r1,r2⟩:=zIi a6;exact⟨R,hk,hn,lc,oc,ho,hh,⟨a1,bm.1 a7⟩,⟨a2,bm.1 a8⟩,⟨a3,bm.1 a9⟩,⟨a4,bm.1 Jk⟩,a5,r1,r2⟩
def LX(k:ao gr)(V:xu gr key h l out p R):(zdR key l out p.bQ).length=1+5*l.length/\(zdR key l out p.bQ).all cC=Z:=by
 have h1:=V.pl.1;have h2:=V.ol;exact⟨by rw[FJ];omega,FO k V.key V.lc V.oc (oF k (bm.2 V.pl.2))⟩
def LR(k:ao gr)(V:xu gr key h l out p R):(mK key l out p).length=1+6*l.length/\(mK key l out p).all cC=Z:=by
 have h1:=V.pl.1;have h2:=V.ol;have h3:=V.pw.1;unfold mK;exact⟨by rw[FJ,bP];omega,FO k V.key V.lc V.oc (oF k (bm.2 (jB V.pl.2 V.pw.2)))⟩
def Yv(k:ao gr)(V:xu gr key h l out p R):(mK key l out p++p.aF++p.Pi.aC).length=4+10*l.length/\(mK key l out p++p.aF++p.Pi.aC).all cC=Z:=by
 have h1:=LR k V;have h2:=V.ch.1;have h3:=V.cm.1;refine⟨by rw[bP,bP,h1.1,h2,h3];omega,?_⟩;rw[kq,kq,h1.2,oF k (bm.2 V.ch.2),oF k (bm.2 V.cm.2)];rfl
attribute [local irreducible] rg sdV vc vpX vpY vpZ vpT tgN alB q1 q2 q4
set_option maxHeartbeats 2000000 in
def XC(k:ao gr){B:cr}(V:xu gr key B.H l out p R)(hs:r7 gr l.length p=Z):An gr B key l out p=J ((p.Pi.aW.getD 0 0==vpT gr key l out p)&&CT gr key B.H l out p R (vpX gr key l out p) (vpY gr key l out p) (vpZ gr key l out p) (vpT gr key l out p) l.length):=by
 have hp:=k.p;have hq:=k.q;have hn:=V.n;have hol:=V.ol;have hH:=dT k V.hh;have hK:=dT k V.key;have lP:=V.pl.1;have lW:=V.pw.1;have lH:=V.ch.1;have lM:=V.cm.1;have l1:=LX k V;have l2:=LR k V;have l3:=Yv k V;have hx:E9 gr.Q (vpX gr key l out p):=by unfold vpX;exact mE k _ _
 have hy:E9 gr.Q (vpY gr key l out p):=by unfold vpY;exact mE k _ _
 have hz:E9 gr.Q (vpZ gr key l out p):=by unfold vpZ;exact mE k _ _
 have c1:=DD (key:=key) (l:=l) (out:=out) (m:=p.bQ) (by omega) (by omega) (by omega);have c2:ml gr sX (zdR key l out p.bQ)=J (vpX gr key l out p,Z):=by unfold vpX;exact(pz k (by decide) (by omega) l1.2).1
 have c3:qq key l out (p.bQ++p.bL)=J (mK key l out p):=DD (by omega) (by omega) (by rw[bP];omega);have c4:Cq gr (mK key l out p)=J (vpY gr key l out p,vpZ gr key l out p,Z):=by unfold vpY vpZ;exact zAB k (by omega) l2.2
 have c5:pS [mK key l out p,p.aF,p.Pi.aC]=J (mK key l out p++p.aF++p.Pi.aC):=by
  have e:[mK key l out p,p.aF,p.Pi.aC].flatten=mK key l out p++p.aF++p.Pi.aC:=by simp
  rw[Dr _ (by rw[e,l3.1];omega),e]
 have c6:ml gr sE (mK key l out p++p.aF++p.Pi.aC)=J (vpT gr key l out p,Z):=by unfold vpT;exact(pz k (by decide) (by omega) l3.2).1
 have c7:=zBT (B:=B) (y:=vpY gr key l out p) (z:=vpZ gr key l out p) (T:=vpT gr key l out p) k hH hn.2 V.pl V.pw V.ch V.cm V.r hx;have c8:=zHC (q:=gr.Q) (by omega) (n:=l.length) (by omega) hx hy hz;have c9:=(rE (l:=l) (by omega)).1;have xT:=(rE (l:=out) (by omega)).1;have eW:=sA k V.lc;have lO:=sA k V.oc;have ry:=mH l;have hlo:=mH out;have u1:=oR k (m:=rg (im gr.Q (vpX gr key l out p)) l.length) eW.1 (by rw[bn,ry.1];exact cy _);have u2:=oR k (m:=rg (im gr.Q (vpX gr key l out p)) l.length) eW.2 (by rw[bn,ry.2];exact cy _);have u3:=oR k (m:=R.kk) lO.1 (by rw[hlo.1,V.r.kk];omega);have u4:=oR k (m:=R.kk) lO.2 (by rw[hlo.2,V.r.kk];omega);have w1:i64.wrap ((l.length:Int)-1)=((l.length-1:Nat):Int):=cL (by omega) (by omega);have w2:i64.wrap (2*(l.length:Int))=((2*l.length:Nat):Int):=cL (by omega) (by omega);have w3:i64.wrap (3*(l.length:Int))=((3*l.length:Nat):Int):=cL (by omega) (by omega);have P8:i64.wrap (((3*l.length:Nat):Int)+1)=((3*l.length+1:Nat):Int):=cL (by omega) (by omega);have w32:i64.wrap (((3*l.length:Nat):Int)+2)=((3*l.length+2:Nat):Int):=cL (by omega) (by omega);have gc:∀j,j<3*l.length+3->ix p.Pi.aC (j:Int)=J (p.Pi.aC.getD j 0)/\R9 (p.Pi.aC.getD j 0):=λj hj=>⟨d4 (by omega),dT k (eB V.cm.2 (by omega))⟩
 have gh:ix p.aF ((l.length-1:Nat):Int)=J (p.aF.getD (l.length-1) 0):=d4 (by omega);have rh:=dT k (eB V.ch.2 (i:=l.length-1) (by omega));have rp:=bJ k gr.G (tgN gr.Q (vpX gr key l out p) (vpY gr key l out p) (vpZ gr key l out p) l.length);have ov:=Re k (b:=p.aF.getD (l.length-1) 0) (x:=av gr gr.G (tgN gr.Q (vpX gr key l out p) (vpY gr key l out p) (vpZ gr key l out p) l.length)) rh.1 rh.2 rp.1 rp.2;have ho:((out.length:Int) !=(l.length:Int))=aa:=by rw[hol];simp
 have kh:0<p.Pi.aW.length:=by rw[V.cl];omega
 unfold An;refine bE (ay (ψ:=(· =aa)) (bt ho (ag (Wb k (by omega) p) (aj (by rw[hs];rfl)))) ?_);rintro _ rfl;refine bt rfl (ag c1 (ag c2 (ag (U1 (by omega)) (aG (by omega) (ag c3 (ag c4 (ag c5 (ag c6 (ay (ψ:=(· =(p.Pi.aW.getD 0 0 !=vpT gr key l out p))) (bt rfl (bt rfl (bt rfl (ag (d4 (i:=0) kh) (aj rfl))))) ?_)))))))));rintro _ rfl;refine aZ (λg=>aj ?_) λg=>?_
 ·have:(p.Pi.aW.getD 0 0==vpT gr key l out p)=aa:=by simpa[bne]using g
  rw[this];rfl
 have g2:(p.Pi.aW.getD 0 0==vpT gr key l out p)=Z:=by simpa[bne]using g
 rw[g2,gV,V.rs];unfold Rp.cs;refine ag (mF V.r.s1) (ag (mF V.r.s2) (ag (mF V.r.s3) (ag (AR _ _) (ag (mF V.r.kk) (ag (mF V.r.mm) (ag (AR _ _) ?_))))));dsimp only;refine aG (by simp;omega) (ag rfl (ag c7 ?_));rw[w1,w2,w3,P8,w32];refine ag (gc (2*l.length) (by omega)).1 (ag gh (ag c8 (ag (fa k (fF k) _) (ag ov (ag (fa k hH _) (ag (D9 k _ (gc (2*l.length) (by omega)).2 (nF k rh (bJ k _ _))) (ag c9 (ag xT ?_))))))));refine ag (gc (3*l.length+1) (by omega)).1 (ag u1 (ag (fa k (fF k) _) (ag u3 (ag (jG k (bJ k _ _) (fE k _ _)) (ag (D9 k _ (gc (3*l.length+1) (by omega)).2 (fE k _ _)) ?_)))));exact ag (gc (3*l.length+2) (by omega)).1 (ag u2 (ag (fa k hK _) (ag u4 (ag (jG k (bJ k _ _) (fE k _ _)) (ag (D9 k _ (gc (3*l.length+2) (by omega)).2 (fE k _ _)) (aj rfl))))))
end
end
def DR{A X Y:List Int}{a i:Nat}(ha:A.length=a)(hi:i<X.length):ix (A++(X++Y)) ((a+i:Nat):Int)=J (X.getD i 0):=by
 refine Jv ?_;rw[fT (by omega),ha,UI,fw hi,cE hi,bU hi]
def Ng{n:Nat}{R:Rp}(r:Cg n R):(∀i,i<n->ix R.cs (i:Int)=J (R.s1.getD i 0)/\ix R.cs ((n+i:Nat):Int)=J (R.s2.getD i 0)/\ix R.cs ((2*n+i:Nat):Int)=J (R.s3.getD i 0)/\ix R.cs ((4*n+1+i:Nat):Int)=J (R.mm.getD i 0))/\ix R.cs ((3*n:Nat):Int)=J R.g/\ix R.cs ((5*n+1:Nat):Int)=J R.f/\(R.cs.take (4*n+1)).drop (3*n+1)=R.kk:=by
 have h1:=r.s1;have h2:=r.s2;have h3:=r.s3;have h4:=r.kk;have h5:=r.mm;refine⟨λi hi=>⟨?_,?_,?_,?_⟩,?_,?_,?_⟩
 ·have:=DR (A:=[]) (X:=R.s1) (Y:=R.s2++(R.s3++(R.g::(R.kk++(R.mm++[R.f]))))) (a:=0) (i:=i) rfl (by omega)
  rwa [gk]at this
 ·exact DR (A:=R.s1) (X:=R.s2) h1 (by omega)
 ·have:=DR (A:=R.s1++R.s2) (X:=R.s3) (Y:=R.g::(R.kk++(R.mm++[R.f]))) (a:=2*n) (i:=i) (by rw[bP];omega) (by omega);rw[gU]at this;exact this
 ·have:=DR (A:=R.s1++(R.s2++(R.s3++(R.g::R.kk)))) (X:=R.mm) (Y:=[R.f]) (a:=4*n+1) (i:=i) (by simp;omega) (by omega);have e:R.s1++(R.s2++(R.s3++(R.g::R.kk)))++(R.mm++[R.f])=R.cs:=by simp[Rp.cs]
  rwa [e]at this
 ·have:=DR (A:=R.s1++(R.s2++R.s3)) (X:=[R.g]) (Y:=R.kk++(R.mm++[R.f])) (a:=3*n) (i:=0) (by simp;omega) (by simp);have e:R.s1++(R.s2++R.s3)++([R.g]++(R.kk++(R.mm++[R.f])))=R.cs:=by simp[Rp.cs]
  rw[e]at this;exact this
 ·have:=DR (A:=R.s1++(R.s2++(R.s3++(R.g::(R.kk++R.mm))))) (X:=[R.f]) (Y:=[]) (a:=5*n+1) (i:=0) (by simp;omega) (by simp);have e:R.s1++(R.s2++(R.s3++(R.g::(R.kk++R.mm))))++([R.f]++[])=R.cs:=by simp[Rp.cs]
  rw[e]at this;exact this
 exact w9 (A:=R.s1++(R.s2++(R.s3++[R.g]))) (R:=R.mm++[R.f]) (by simp[Rp.cs]) (by simp;omega) (by omega)
def Ik(gr:am)(y z:Int)(p:ck)(i:Nat):Int:=aP gr [av gr (p.bQ.getD i 0) y,p.bL.getD i 0,av gr gr.G (i64.wrap (0-z))]
def Im(gr:am)(h:Int)(R:Rp)(i:Nat):Int:=vc gr h (R.s1.getD i 0) (R.s2.getD i 0)
def HO(gr:am)(h:Int)(p:ck)(R:Rp)(i:Nat):Int:=aP gr [av gr (bef gr.G p.aF i) (R.s1.getD i 0),av gr h (R.s3.getD i 0)]
def IG(gr:am)(h:Int)(R:Rp)(i:Nat):Int:=vc gr h (R.kk.getD i 0) (R.mm.getD i 0)
section
variable {gr:am}{p:ck}{R:Rp}{n:Nat}{h:Int}
def zA9(k:ao gr)(hh:R9 h)(hn:n<=12)(hp:p.bQ.length=n/\∀z∈p.bQ,aK gr z=Z)(hw:p.bL.length=n/\∀z∈p.bL,aK gr z=Z)(hr:Cg n R){y z:Int}:dJ (σ:=(List Int)×List Int×Int) (β:=(List Int)×List Int) (λfi=>
 if decide (fi.2.2<(n:Int))=Z then(
 (ix p.bQ fi.2.2).bind λCr=>
 (ix p.bL fi.2.2).bind λqH=>
 (cD gr Cr y).bind λiT=>
 (cD gr gr.G (i64.wrap (0-z))).bind λnm=>
 (d8 gr [iT,qH,nm]).bind λfP=>
 gd ((fi.1.length+1)*8<=140737488355328/\fi.1.length+1<=4611686018427387904)<|
 (ix R.cs fi.2.2).bind λj6=>
 (ix R.cs (i64.wrap ((n:Int)+fi.2.2))).bind λEa=>
 (nD gr h j6 Ea).bind λgp=>
 gd ((fi.2.1.length+1)*8<=140737488355328/\fi.2.1.length+1<=4611686018427387904)<|
 J (.go (fi.1++[fP],fi.2.1++[gp],i64.wrap (fi.2.2+1))))else(
 J (.out (fi.1,fi.2.1)))) ([],[],0)=J (rg (Ik gr y z p) n,rg (Im gr h R) n):=by
 refine bE (kK n (λi s=>s=(rg (Ik gr y z p) i,rg (Im gr h R) i,(i:Int))/\i<=n) ⟨rfl,by omega⟩ ?_ ?_)
 ·rintro i s hi ⟨rfl,_⟩;have g0:∀{l:List Int},l.length=n->ix l (i:Int)=J (l.getD i 0):=λh=>d4 (by omega)
  have a1:=dT k (eB hp.2 (i:=i) (by omega));have a2:=dT k (eB hw.2 (i:=i) (by omega));have m3:=Rt k (bJ k (p.bQ.getD i 0) y) a2 (bJ k gr.G (i64.wrap (0-z)));have rx:=(Ng hr).1 i hi;have w1:i64.wrap ((n:Int)+(i:Int))=((n+i:Nat):Int):=cL (by omega) (by omega);refine fV (by simp;omega) ?_;dsimp only;rw[w1];refine ag (g0 hp.1) (ag (g0 hw.1) (ag (fe k a1 _) (ag (fe k (fF k) _) (ag m3.2.2 (aG (by rw[bn];omega) (ag rx.1 (ag rx.2.1 (ag (EM k hh _ _) (aG (by rw[bn];omega) (aj ⟨?_,by omega⟩))))))))));rw[aI (n:=(i:Int)+1) (by omega) (by omega),o5,o5];rfl
 rintro s ⟨rfl,_⟩;exact bt (by simp) (aj rfl)
def zBg(k:ao gr)(hh:R9 h)(hn:n<=12)(hc:p.aF.length=n/\∀z∈p.aF,aK gr z=Z)(hr:Cg n R){A D:List Int}(hA:A.length<=1000)(hD:D.length<=1000):dJ (σ:=(List Int)×List Int×Int×Int) (β:=(List Int)×List Int) (λfh=>
 if decide (fh.2.2.2<(n:Int))=Z then(
 (ix p.aF fh.2.2.2).bind λvq=>
 gd ((fh.1.length+1)*8<=140737488355328/\fh.1.length+1<=4611686018427387904)<|
 (ix R.cs fh.2.2.2).bind λA5=>
 (ix R.cs (i64.wrap ((i64.wrap (2*(n:Int)))+fh.2.2.2))).bind λBG=>
 (cD gr fh.2.2.1 A5).bind λF9=>
 (cD gr h BG).bind λDT=>
 (d8 gr [F9,DT]).bind λE5=>
 gd ((fh.2.1.length+1)*8<=140737488355328/\fh.2.1.length+1<=4611686018427387904)<|
 J (.go (fh.1++[vq],fh.2.1++[E5],vq,i64.wrap (fh.2.2.2+1))))else(
 J (.out (fh.1,fh.2.1)))) (A,D,gr.G,0)=J (A++rg (λi=>p.aF.getD i 0) n,D++rg (HO gr h p R) n):=by
 refine bE (kK n (λi s=>s=(A++rg (λi=>p.aF.getD i 0) i,D++rg (HO gr h p R) i,bef gr.G p.aF i,(i:Int))/\i<=n) ⟨by rw[t9,t9,ri,ri];rfl,by omega⟩ ?_ ?_)
 ·rintro i s hi ⟨rfl,_⟩;have hb:=EH k (nK k) hc.2 i (by omega);have rx:=(Ng hr).1 i hi
  have w1:i64.wrap (i64.wrap (2*(n:Int))+(i:Int))=((2*n+i:Nat):Int):=by
   rw[aI (n:=2*(n:Int)) (by omega) (by omega)];exact cL (by omega) (by omega)
  refine fV (by simp;omega) ?_;dsimp only;rw[w1];refine ag (d4 (by omega)) (aG (by rw[bP,bn];omega) (ag rx.1 (ag rx.2.2.1 (ag (fe k hb.2 _) (ag (fe k hh _) (ag (iD k (bJ k _ _) (bJ k _ _)) (aG (by rw[bP,bn];omega) (aj ⟨?_,by omega⟩))))))));have e:p.aF.getD i 0=bef gr.G p.aF (i+1):=by unfold bef;simp
  rw[aI (n:=(i:Int)+1) (by omega) (by omega),vx,vx,<-e];rfl
 rintro s ⟨rfl,_⟩;exact bt (by simp) (aj rfl)
def zBn(k:ao gr)(hh:R9 h)(hn:n<=12)(hw:p.bL.length=n)(hr:Cg n R){A D:List Int}(hA:A.length<=1000)(hD:D.length<=1000):dJ (σ:=(List Int)×List Int×Int) (β:=(List Int)×List Int) (λfO=>
 if decide (fO.2.2<(n:Int))=Z then(
 (ix p.bL fO.2.2).bind λqO=>
 gd ((fO.1.length+1)*8<=140737488355328/\fO.1.length+1<=4611686018427387904)<|
 (ix R.kk fO.2.2).bind λMb=>
 (ix R.cs (i64.wrap ((i64.wrap ((i64.wrap (4*(n:Int)))+1))+fO.2.2))).bind λGT=>
 (nD gr h Mb GT).bind λqI=>
 gd ((fO.2.1.length+1)*8<=140737488355328/\fO.2.1.length+1<=4611686018427387904)<|
 J (.go (fO.1++[qO],fO.2.1++[qI],i64.wrap (fO.2.2+1))))else(
 J (.out (fO.1,fO.2.1)))) (A,D,0)=J (A++rg (λi=>p.bL.getD i 0) n,D++rg (IG gr h R) n):=by
 refine bE (kK n (λi s=>s=(A++rg (λi=>p.bL.getD i 0) i,D++rg (IG gr h R) i,(i:Int))/\i<=n) ⟨by rw[t9,t9,ri,ri];rfl,by omega⟩ ?_ ?_)
 ·rintro i s hi ⟨rfl,_⟩;have rx:=(Ng hr).1 i hi
  have w1:i64.wrap (i64.wrap (i64.wrap (4*(n:Int))+1)+(i:Int))=((4*n+1+i:Nat):Int):=by
   rw[aI (n:=4*(n:Int)) (by omega) (by omega),aI (n:=4*(n:Int)+1) (by omega) (by omega)];exact cL (by omega) (by omega)
  refine fV (by simp;omega) ?_;dsimp only;rw[w1];refine ag (d4 (by omega)) (aG (by rw[bP,bn];omega) (ag (d4 (by rw[hr.kk];exact hi)) (ag rx.2.2.2 (ag (EM k hh _ _) (aG (by rw[bP,bn];omega) (aj ⟨?_,by omega⟩))))));rw[aI (n:=(i:Int)+1) (by omega) (by omega),vx,vx];rfl
 rintro s ⟨rfl,_⟩;exact bt (by simp) (aj rfl)
end
theorem LF(f:Nat->Bool):∀n,alB f n=(List.range n).all f
 |0=>rfl
 |n+1=>by
  unfold alB;rw[LF f n,mO,kq];simp
def GV(f:Nat->Bool)(a b:Nat):(List.range (a+b)).all f=((List.range a).all f&&(List.range b).all λi=>f (a+i)):=by
 rw[a0p,kq,Uq];rfl
theorem WV(f g h:Nat->Bool):∀n,((List.range n).all λi=>f i&&g i&&h i)=((List.range n).all f&&(List.range n).all g&&(List.range n).all h)
 |0=>rfl
 |n+1=>by
  simp only[mO,kq,yC,KH,A3];rw[WV f g h n];cases (List.range n).all f<;>cases (List.range n).all g<;>cases (List.range n).all h<;>cases f n<;>cases g n<;>cases h n<;>rfl
theorem Kg{f g:Nat->Bool}:∀{n:Nat},(∀i,i<n->f i=g i)->(List.range n).all f=(List.range n).all g
 |0,_=>rfl
 |n+1,h=>by
  simp only[mO,kq,yC,KH,A3];rw[Kg λi hi=>h i (by omega),h n (by omega)]
def Fx{A B:List Int}{i:Nat}(h:i<A.length):(A++B).getD i 0=A.getD i 0:=by
 rw[nw,nw,fw h]
def Af{A B:List Int}{a i:Nat}(h:A.length=a):(A++B).getD (a+i) 0=B.getD i 0:=by
 rw[nw,nw,fT (by omega),h,UI]
def zzt(E:Nat->Int->Int->Bool){n:Nat}{a1 a2 a4 b1 b2 b4:List Int}{a3 a5 a6 b3 b5 b6:Int}(h1:a1.length=n)(h2:a2.length=n)(h4:a4.length=n)(g1:b1.length=n)(g2:b2.length=n)(g4:b4.length=n):
 ((List.range (3*n+3)).all λi=>E i ((a1++(a2++(a3::(a4++[a5,a6])))).getD i 0) ((b1++(b2++(b3::(b4++[b5,b6])))).getD i 0))=
 ((((alB (λi=>E i (a1.getD i 0) (b1.getD i 0)&&E (n+i) (a2.getD i 0) (b2.getD i 0)&&E (2*n+1+i) (a4.getD i 0) (b4.getD i 0)) n&&E (2*n) a3 b3)&&E (3*n+1) a5 b5)&&E (3*n+2) a6 b6)):=by
 have e:3*n+3=n+(n+(1+(n+(1+1)))):=by omega
 rw[LF,WV,e,GV,GV,GV,GV,GV]
 have p1:=Kg (n:=n) (f:=λi=>E i ((a1++(a2++(a3::(a4++[a5,a6])))).getD i 0) ((b1++(b2++(b3::(b4++[b5,b6])))).getD i 0)) (g:=λi=>E i (a1.getD i 0) (b1.getD i 0)) λi hi=>by
  simp only[Fx (A:=a1) (show i<a1.length by omega),Fx (A:=b1) (show i<b1.length by omega)]
 have p2:=Kg (n:=n) (f:=λi=>E (n+i) ((a1++(a2++(a3::(a4++[a5,a6])))).getD (n+i) 0) ((b1++(b2++(b3::(b4++[b5,b6])))).getD (n+i) 0)) (g:=λi=>E (n+i) (a2.getD i 0) (b2.getD i 0)) λi hi=>by
  simp only[Af h1,Af g1,Fx (A:=a2) (show i<a2.length by omega),Fx (A:=b2) (show i<b2.length by omega)]
 have s3:∀j,(a1++(a2++(a3::(a4++[a5,a6])))).getD (n+(n+j)) 0=(a3::(a4++[a5,a6])).getD j 0:=λj=>by rw[Af h1,Af h2]
 have t3:∀j,(b1++(b2++(b3::(b4++[b5,b6])))).getD (n+(n+j)) 0=(b3::(b4++[b5,b6])).getD j 0:=λj=>by rw[Af g1,Af g2]
 have s4:∀j,(a3::(a4++[a5,a6])).getD (1+j) 0=(a4++[a5,a6]).getD j 0:=λj=>by rw[Ox];rfl
 have t4:∀j,(b3::(b4++[b5,b6])).getD (1+j) 0=(b4++[b5,b6]).getD j 0:=λj=>by rw[Ox];rfl
 have p4:=Kg (n:=n) (f:=λi=>E (n+(n+(1+i))) ((a1++(a2++(a3::(a4++[a5,a6])))).getD (n+(n+(1+i))) 0) ((b1++(b2++(b3::(b4++[b5,b6])))).getD (n+(n+(1+i))) 0)) (g:=λi=>E (2*n+1+i) (a4.getD i 0) (b4.getD i 0)) λi hi=>by
  simp only[s3,t3,s4,t4,Fx (A:=a4) (show i<a4.length by omega),Fx (A:=b4) (show i<b4.length by omega)];congr 1;omega
 rw[p1,p2,p4];have r1:List.range 1=[0]:=rfl;simp only[r1,yC,KH,A3,s3,t3,s4,t4,Af h4,Af g4];have i1:n+(n+0)=2*n:=by omega
 have i2:n+(n+(1+(n+0)))=3*n+1:=by omega
 have i3:n+(n+(1+(n+(1+0))))=3*n+2:=by omega
 simp only[i1,i2,i3];show(_&&(_&&(E (2*n) a3 b3&&(_&&(E (3*n+1) a5 b5&&E (3*n+2) a6 b6)))))=_;generalize (List.range n).all (λi=>E i (a1.getD i 0) (b1.getD i 0))=x1;generalize (List.range n).all (λi=>E (n+i) (a2.getD i 0) (b2.getD i 0))=x2;generalize (List.range n).all (λi=>E (2*n+1+i) (a4.getD i 0) (b4.getD i 0))=x4;cases x1<;>cases x2<;>cases x4<;>simp[KJ]
def tT(gr:am)(T:Int)(c:List Int)(i:Nat)(a b:Int):Bool:=aP gr [c.getD i 0,av gr a T]==b
def zzU{gr:am}(k:ao gr){T:Int}{c L Q:List Int}(hc:∀z∈c,aK gr z=Z)(hL:L.length=c.length/\∀z∈L,R9 z)(hQ:Q.length=c.length):Rn (aS (σ:=(List Int)×List Int) (β:=Unit ⊕ Bool) (λvy oU=>
 (ix c vy).bind λGq=>
 (ix oU.1 vy).bind λQj=>
 (ix oU.2 vy).bind λPu=>
 (cD gr Qj T).bind λGm=>
 (d8 gr [Gq,Gm]).bind λPL=>
 if(PL !=Pu)=Z then(
 J (.out (.inr aa)))else(
 J (.go (oU.1,oU.2)))) (λoU=>.inl ()) c.length 0 (L,Q)) (λv=>(v=.inl ()/\(List.range c.length).all (λi=>tT gr T c i (L.getD i 0) (Q.getD i 0))=Z)\/(v=.inr aa/\(List.range c.length).all (λi=>tT gr T c i (L.getD i 0) (Q.getD i 0))=aa)):=by
 refine ec (λi s=>s=(L,Q)/\i<=c.length/\(List.range i).all (λi=>tT gr T c i (L.getD i 0) (Q.getD i 0))=Z) ⟨rfl,by omega,rfl⟩ ?_ ?_
 ·rintro i s hi ⟨rfl,_,hI⟩;have hr:=eB hL.2 (i:=i) (by omega);have hcr:=dT k (eB hc hi);refine ag (d4 hi) (ag (d4 (by dsimp only;omega)) (ag (d4 (by dsimp only;omega)) (ag (fe k hr _) (ag (iD k hcr (bJ k _ _)) (aZ (λg=>aj (.inr ⟨rfl,?_⟩)) λg=>aj ⟨rfl,by omega,?_⟩)))))
  ·rw[yD];exact⟨i,kp.2 hi,by unfold tT;simpa[bne]using g⟩
  rw[mO,kq,hI];have:tT gr T c i (L.getD i 0) (Q.getD i 0)=Z:=by unfold tT;simpa[bne]using g
  rw[yC,KH,this];rfl
 rintro s ⟨rfl,_,hI⟩;exact .inl ⟨rfl,hI⟩
section
attribute [local irreducible] chG zdR zaO
section
variable {gr:am}{key h:Int}{l out:List an}{p:ck}{R:Rp}
def zCu(k:ao gr)(V:xu gr key h l out p R):Ak gr key l out p.bQ p.bL=J (vpY gr key l out p,vpZ gr key l out p):=by
 have hn:=V.n;have hol:=V.ol;have lP:=V.pl.1;have lW:=V.pw.1;have a1:=LX k V;have a2:=LR k V;unfold Ak;refine bE (ag (zB (by omega) (by omega) (by omega)) (aG (by omega) ?_));rw[Om];exact ag (pz k (s:=sY) (by decide) (by have:=a2.1;unfold mK at this;omega) a2.2).2 (ag (pz k (s:=sZ) (by decide) (by have:=a2.1;unfold mK at this;omega) a2.2).2 (aj rfl))
def zDU(k:ao gr)(V:xu gr key h l out p R):yO gr key l out p=J (vpT gr key l out p):=by
 have hn:=V.n;have hol:=V.ol;have lP:=V.pl.1;have lW:=V.pw.1;have lH:=V.ch.1;have lM:=V.cm.1;have a1:=LX k V;have a2:=LR k V;have a3:=Yv k V;have a2':(zdR key l out (p.bQ++p.bL)).length=1+6*l.length:=a2.1;unfold yO;refine bE (ag (zB (by omega) (by omega) (by omega)) (aG (by omega) ?_));rw[Om];exact aG (by omega) (aG (by rw[bP];omega) (ag (pz k (s:=sE) (by decide) (by have:=a3.1;unfold mK at this;omega) a3.2).2 (aj rfl)))
end
end
section
attribute [local irreducible] chG zdR zaO
section
variable {gr:am}{key h:Int}{l out:List an}{p:ck}{R:Rp}
attribute [local irreducible] rg sdV vc vpX vpY vpZ vpT tgN alB
set_option maxHeartbeats 2000000 in
def zGV(k:ao gr)(V:xu gr key h l out p R)(hs:r7 gr l.length p=Z):CI gr key h l out p=J ((p.Pi.aW.getD 0 0==vpT gr key l out p)&&CT gr key h l out p R (vpX gr key l out p) (vpY gr key l out p) (vpZ gr key l out p) (vpT gr key l out p) l.length):=by
 have hp:=k.p;have hq:=k.q;have hn:=V.n;have hol:=V.ol;have hH:=dT k V.hh;have hK:=dT k V.key;have lP:=V.pl.1;have lW:=V.pw.1;have lH:=V.ch.1;have lM:=V.cm.1;have l1:=LX k V;have hx:E9 gr.Q (vpX gr key l out p):=by unfold vpX;exact mE k _ _
 have hy:E9 gr.Q (vpY gr key l out p):=by unfold vpY;exact mE k _ _
 have hz:E9 gr.Q (vpZ gr key l out p):=by unfold vpZ;exact mE k _ _
 have c1:=zB (key:=key) (l:=l) (out:=out) (m:=p.bQ) (by omega) (by omega) (by omega);have c2:pd gr sX (zdR key l out p.bQ)=J (vpX gr key l out p):=by unfold vpX;exact(pz k (by decide) (by omega) l1.2).2
 have c3:=zCu k V;have c4:=zDU k V;have c5:=zA9 (y:=vpY gr key l out p) (z:=vpZ gr key l out p) k hH hn.2 V.pl V.pw V.r;have c6:=λA D hA hD=>zBg (A:=A) (D:=D) k hH hn.2 V.ch V.r hA hD
 have c7:=λA D hA hD=>zBn (A:=A) (D:=D) k hH hn.2 V.pw.1 V.r hA hD
 have c8:=zGm (q:=gr.Q) (by omega) (n:=l.length) (by omega) hx hy hz;have tb:=TX (show 1<gr.Q by omega) (vpX gr key l out p) (vpY gr key l out p) (vpZ gr key l out p) l.length;have c9:=(rE (l:=l) (by omega)).2;have xT:=(rE (l:=out) (by omega)).2;have rH:=zH7 k (n:=l.length) (by omega) hx;have eW:=sA k V.lc;have lO:=sA k V.oc;have ry:=mH l;have hlo:=mH out;have u1:=oO k (m:=rg (im gr.Q (vpX gr key l out p)) l.length) eW.1 (by rw[bn,ry.1];exact cy _);have u2:=oO k (m:=rg (im gr.Q (vpX gr key l out p)) l.length) eW.2 (by rw[bn,ry.2];exact cy _);have u3:=oO k (m:=R.kk) lO.1 (by rw[hlo.1,V.r.kk];omega);have u4:=oO k (m:=R.kk) lO.2 (by rw[hlo.2,V.r.kk];omega);obtain⟨_,r2,r3,r4⟩:=Ng V.r;have w1:i64.wrap ((l.length:Int)-1)=((l.length-1:Nat):Int):=cL (by omega) (by omega);have w3:i64.wrap (3*(l.length:Int))=((3*l.length:Nat):Int):=cL (by omega) (by omega);have w4:i64.wrap (4*(l.length:Int))=((4*l.length:Nat):Int):=cL (by omega) (by omega);have w5:i64.wrap (5*(l.length:Int))=((5*l.length:Nat):Int):=cL (by omega) (by omega);have P8:i64.wrap (((3*l.length:Nat):Int)+1)=((3*l.length+1:Nat):Int):=cL (by omega) (by omega);have U3:i64.wrap (((4*l.length:Nat):Int)+1)=((4*l.length+1:Nat):Int):=cL (by omega) (by omega);have w51:i64.wrap (((5*l.length:Nat):Int)+1)=((5*l.length+1:Nat):Int):=cL (by omega) (by omega);have wt:i64.wrap (0-tgN gr.Q (vpX gr key l out p) (vpY gr key l out p) (vpZ gr key l out p) l.length)=0-tgN gr.Q (vpX gr key l out p) (vpY gr key l out p) (vpZ gr key l out p) l.length:=aI (by have:=tb.1;have:=tb.2;omega) (by have:=tb.1;omega);have gh:ix p.aF ((l.length-1:Nat):Int)=J (p.aF.getD (l.length-1) 0):=d4 (by omega);have rh:=dT k (eB V.ch.2 (i:=l.length-1) (by omega));have ho:((out.length:Int) !=(l.length:Int))=aa:=by rw[hol];simp
 have kh:0<p.Pi.aW.length:=by rw[V.cl];omega
 have hRl:R.cs.length=5*l.length+2:=by have:=V.r.s1;have:=V.r.s2;have:=V.r.s3;have:=V.r.kk;have:=V.r.mm;simp[Rp.cs];omega
 have hpn:=We k (nK k) tb.1;have c7:∀A D:List Int,A.length<=1000->D.length<=1000->_:=c7;simp only[w4,U3]at c7;unfold CI;refine bE (ay (ψ:=(· =(p.Pi.aW.getD 0 0 !=vpT gr key l out p))) (bt ho (ag (zAt k (by omega) p) (bt (by rw[hs];rfl) (ag (d4 (i:=0) kh) (ag c4 (aj rfl)))))) ?_);rintro _ rfl;refine aZ (λg=>aj ?_) λg=>?_
 ·have:(p.Pi.aW.getD 0 0==vpT gr key l out p)=aa:=by simpa[bne]using g
  rw[this];rfl
 have g2:(p.Pi.aW.getD 0 0==vpT gr key l out p)=Z:=by simpa[bne]using g
 have g3:p.Pi.aW.getD 0 0=vpT gr key l out p:=eq_of_beq g2;rw[g2,gV,V.rs];refine ag (d4 (i:=0) kh) ?_;rw[g3,w1,w3,w4,w5,P8,U3,w51,dG,dG,r4];refine ag c1 (ag c2 (ag c3 (aG (by omega) (aG (by omega) (aG (by omega) (ag r3 (ag c5 (ag (c6 _ _ (by rw[bn];omega) (by rw[bn];omega)) (ag gh (ag c8 ?_))))))))));rw[wt];refine ag (fe k (fF k) _) (ag (iD k rh (bJ k _ _)) (aG ?_ (ag r2 (ag (fe k hH _) (aG ?_ (ag (c7 _ _ ?_ ?_) (ag c9 (ag xT ?_))))))))
 ·simp only[bP,bn];omega
 ·simp only[bP,bn];omega
 ·simp only[bP,bn,dX,ia];omega
 ·simp only[bP,bn,dX,ia];omega
 refine ag rH (ag u1 (ag rH (ag u2 (aG ?_ (ag (fe k (fF k) _) (ag u3 (ag (iD k (bJ k _ _) (fE k _ _)) (ag (fe k hK _) (ag u4 (ag (iD k (bJ k _ _) (fE k _ _)) (aG ?_ ?_)))))))))))
 ·simp only[bP,bn,dX,ia];omega
 ·simp only[bP,bn,dX,ia];omega
 dsimp only;refine ay (zzU k V.cm.2 ⟨?_,?_⟩ ?_) λv hv=>?_
 ·simp only[bP,bn,dX,ia];omega
 ·refine jB (jB (jB (jB (m9 λi hi=>?_) (m9 λi hi=>?_)) ?_) (m9 λi hi=>?_)) ?_
  ·exact(Rt k (bJ k _ _) (dT k (eB V.pw.2 (by omega))) (bJ k _ _)).1
  ·exact dT k (eB V.ch.2 (by omega))
  ·intro x hx;rw[gB]at hx;rw[hx];exact nF k rh (bJ k _ _)
  ·exact dT k (eB V.pw.2 (by omega))
  intro x hx;simp only[fK,jf,jg]at hx;rcases hx with rfl|rfl<;>exact fE k _ _
 ·simp only[bP,bn,dX,ia];omega
 have a07:=zzt (tT gr (vpT gr key l out p) p.Pi.aC) (n:=l.length) (a1:=rg (Ik gr (vpY gr key l out p) (vpZ gr key l out p) p) l.length) (a2:=rg (λi=>p.aF.getD i 0) l.length) (a4:=rg (λi=>p.bL.getD i 0) l.length) (b1:=rg (Im gr h R) l.length) (b2:=rg (HO gr h p R) l.length) (b4:=rg (IG gr h R) l.length)
  (a3:=aP gr [p.aF.getD (l.length-1) 0,av gr gr.G (0-tgN gr.Q (vpX gr key l out p) (vpY gr key l out p) (vpZ gr key l out p) l.length)]) (b3:=av gr h R.g) (a5:=zaO gr (sdV l).1 (rg (im gr.Q (vpX gr key l out p)) l.length) 1) (a6:=zaO gr (sdV l).2 (rg (im gr.Q (vpX gr key l out p)) l.length) 1)
  (b5:=aP gr [av gr gr.G (i64.wrap (0-R.f)),zaO gr (sdV out).1 R.kk 1]) (b6:=aP gr [av gr key (i64.wrap (0-R.f)),zaO gr (sdV out).2 R.kk 1]) (bn _ _) (bn _ _) (bn _ _) (bn _ _) (bn _ _) (bn _ _)
 have hB:CT gr key h l out p R (vpX gr key l out p) (vpY gr key l out p) (vpZ gr key l out p) (vpT gr key l out p) l.length=(List.range p.Pi.aC.length).all (λi=>tT gr (vpT gr key l out p) p.Pi.aC i ((rg (Ik gr (vpY gr key l out p) (vpZ gr key l out p) p) l.length++rg (λi=>p.aF.getD i 0) l.length++[aP gr [p.aF.getD (l.length-1) 0,av gr gr.G (0-tgN gr.Q (vpX gr key l out p) (vpY gr key l out p) (vpZ gr key l out p) l.length)]]++rg (λi=>p.bL.getD i 0) l.length++[zaO gr (sdV l).1 (rg (im gr.Q (vpX gr key l out p)) l.length) 1,zaO gr (sdV l).2 (rg (im gr.Q (vpX gr key l out p)) l.length) 1]).getD i 0) ((rg (Im gr h R) l.length++rg (HO gr h p R) l.length++[av gr h R.g]++rg (IG gr h R) l.length++[aP gr [av gr gr.G (i64.wrap (0-R.f)),zaO gr (sdV out).1 R.kk 1],aP gr [av gr key (i64.wrap (0-R.f)),zaO gr (sdV out).2 R.kk 1]]).getD i 0)):=by
  rw[lM];simp only[gU,t5,mM];rw[a07,LF];unfold CT q3 qE;rw[LF,hpn]
  have e:=Kg (n:=l.length) (f:=λi=>q1 gr h (vpY gr key l out p) (vpZ gr key l out p) (vpT gr key l out p) p R i&&q2 gr h (vpT gr key l out p) p R l.length i&&q4 gr h (vpT gr key l out p) p R l.length i) (g:=λi=>tT gr (vpT gr key l out p) p.Pi.aC i ((rg (Ik gr (vpY gr key l out p) (vpZ gr key l out p) p) l.length).getD i 0) ((rg (Im gr h R) l.length).getD i 0)&&tT gr (vpT gr key l out p) p.Pi.aC (l.length+i) ((rg (λi=>p.aF.getD i 0) l.length).getD i 0) ((rg (HO gr h p R) l.length).getD i 0)&&tT gr (vpT gr key l out p) p.Pi.aC (2*l.length+1+i) ((rg (λi=>p.bL.getD i 0) l.length).getD i 0) ((rg (IG gr h R) l.length).getD i 0)) λi hi=>by
   simp only[kF _ hi];rfl
  rw[e];rfl
 rw[hB];rcases hv with⟨rfl,hv⟩|⟨rfl,hv⟩
 ·exact aj hv.symm
 exact aj hv.symm
end
end
def zFE{gr:am}(k:ao gr){key h:Int}{B:cr}{l out:List an}{p:ck}(hn:l.length<=12)(hf:(decide (out.length=l.length)&&r7 gr l.length p)=aa):An gr B key l out p=J aa/\CI gr key h l out p=J aa:=by
 have e:((out.length:Int) !=(l.length:Int))= !decide (out.length=l.length):=by rw[bne,iG]
 unfold An CI;rw[e,Wb k (by omega),zAt k (by omega)];cases h1:decide (out.length=l.length)
 ·exact⟨rfl,rfl⟩
 rw[h1,gV]at hf;rw[hf];exact⟨rfl,rfl⟩
def zN1(gr:am)(hg:Dg gr)(key:Int){l:List an}(hl:l.length<=13)(out:List an)(p:ck):∃v t,tP gr key l out p=J (v,t)/\Gi gr key l out p=J (v,t):=by
 by_cases k:ao gr
 ·obtain⟨B,b1,b2,b3,b4⟩:=Bl k (hg k) key hl;unfold tP Gi DA;rw[b4,vj k,vj k,xt k,b1,show(aK gr key&&(cX 1 12 l.length&&l.all (b8 gr)))=fG gr key l from rfl];cases h1:fG gr key l
  ·exact⟨aa,aa,rfl,rfl⟩
  have jO:=h1;simp only[fG,cX,bI,eC]at jO;obtain⟨c1,c2,c3⟩:=jO;rw[c1];cases h2:(cX 1 12 out.length&&out.all (b8 gr))
  ·exact⟨aa,aa,rfl,rfl⟩
  simp only[bI]at h2;cases h3:(decide (out.length=l.length)&&r7 gr l.length p)
  ·obtain⟨e1,e2⟩:=zFE (key:=key) (h:=B.H) (B:=B) k (by omega) h3;refine⟨aa,Z,?_,?_⟩
   ·simp[e1]
   simp[e2]
  obtain⟨g1,g2⟩:=A4.1 h3;obtain⟨R,V⟩:=zG5 (h:=B.H) c1 (l:=l) (by omega) (bm.1 c3) (bm.1 h2.2) b3 (wg g1) g2;have e1:=XC k V g2;have e2:=zGV k V g2;generalize ((p.Pi.aW.getD 0 0==vpT gr key l out p)&&CT gr key B.H l out p R (vpX gr key l out p) (vpY gr key l out p) (vpZ gr key l out p) (vpT gr key l out p) l.length)=v at e1 e2;refine⟨v,Z,?_,?_⟩
  ·simp[e1]
  simp[e2]
 refine⟨aa,aa,?_,?_⟩
 ·unfold tP;rw[Td k];rfl
 unfold Gi;rw[EL k];rfl
def uf(q x y z:Int)(a j:Int):Int:=a*((y*(j+1)+j5 q x (j.toNat+1)-z)%q)%q
def zGF(q x y z a i j:Int):uf q x y z (uf q x y z a i) j=uf q x y z (uf q x y z a j) i:=by
 unfold uf;generalize (y*(i+1)+j5 q x (i.toNat+1)-z)%q=u;generalize (y*(j+1)+j5 q x (j.toNat+1)-z)%q=v;rw[mP (a*u%q),eM,<-mP,mP (a*v%q),eM,<-mP];congr 1;rw[KI,a0K u v,KI]
def zAV(q x y z:Int)(n:Nat):((List.range n).map λ(i:Nat)=>(i:Int)).foldl (uf q x y z) 1=tgN q x y z n:=by
 induction n with
 |zero=>rfl
 |succ n ih=>
  rw[mO,l8,GC,ih];rfl
def SF{l:List Int}(h:d5 l=Z):l.Perm ((List.range l.length).map λ(i:Nat)=>(i:Int)):=by
 have h':=h;simp only[d5,bI,oz,eC,bm,cX]at h'
 have hnd:((List.range l.length).map λ(i:Nat)=>(i:Int)).Nodup:=by
  refine UE.2 ?_;exact List.Pairwise.imp (λh e=>h (by exact_mod_cast e)) (List.nodup_range (n:=l.length))
 refine(List.perm_ext_iff_of_nodup h'.2 hnd).2 λa=>⟨λha=>?_,λha=>?_⟩
 ·have:=h'.1 a ha;simp only[jE,kp];exact⟨a.toNat,by omega,by omega⟩
 simp only[jE,kp]at ha;obtain⟨i,hi,rfl⟩:=ha;exact TN h ⟨by omega,by omega⟩
def zA4{l:List Int}(h:d5 l=Z)(q x y z:Int):l.foldl (uf q x y z) 1=tgN q x y z l.length:=by
 rw[(SF h).foldl_eq' (λi _ j _ a=>zGF q x y z a i j),zAV]
def Nl{l:List Int}{f:Int->Int->Int}{a:Int}{i:Nat}(hi:i<l.length):(l.take (i+1)).foldl f a=f ((l.take i).foldl f a) (l.getD i 0):=by
 rw[iO hi,GC,bU hi];rfl
def pg(gr:am)(a:Int):Int:=av gr gr.G a
section
variable {gr:am}
variable{q:Int}
def Hg{a b:Int}(h:a%gr.Q=b%gr.Q):pg gr a=pg gr b:=by unfold pg av;rw[h]
def Ad{a b:Int}(K:Int)(h:a=b+gr.Q*K):pg gr a=pg gr b:=Hg (by rw[h,GE])
def zJT{x a b:Int}(h:a%gr.Q=b%gr.Q):av gr x a=av gr x b:=by unfold av;rw[h]
def Q9(a:Int):pg gr (a%gr.Q)=pg gr a:=Hg (eM _ _)
def mw(a q:Int):∃m,a%q=a-q*m:=⟨a/q,Int.emod_def a q⟩
def gM(k:ao gr)(a b:Int):aP gr [pg gr a,pg gr b]=pg gr (a+b):=by
 have hq:=k.q;rw[<-Q9 a,<-Q9 b];unfold pg;rw[zzN k (nW _ (by omega)) (nW _ (by omega))];exact Hg (o9 a b gr.Q).symm
def g8(k:ao gr)(a e:Int):av gr (pg gr a) e=pg gr (a*e):=by
 have hq:=k.q;rw[<-Q9 a,zJT (b:=e%gr.Q) (eM _ _).symm];unfold pg;rw[Yo k (nK k) (nW _ (by omega)) (nW _ (by omega))];exact Hg (mP a e gr.Q).symm
def Pz(k:ao gr):pg gr 0=1:=zxn k
def ES(k:ao gr)(a:Int):aK gr (pg gr a)=Z:=kH k (nK k) a
def Zl(k:ao gr)(a:Int):0<=pg gr a/\pg gr a<gr.P:=by
 have:=zu k gr.G a;exact⟨this.1,by unfold pg;omega⟩
def SQ(k:ao gr)(a b:Int):pg gr a*pg gr b%gr.P=pg gr (a+b):=by
 rw[<-gM k,Kc k (Zl k a) (Zl k b).1]
def Sl(k:ao gr):pg gr 1=gr.G:=by
 have hq:=k.q;have hp:=k.p;have hg:=k.g;unfold pg av;rw[qg (by omega) (by omega)];show((gr.G.toNat^1%gr.P.toNat:Nat):Int)=gr.G;rw[Nat.pow_one,nU (by omega)];omega
def zBb(k:ao gr)(a b c:Int):aP gr [pg gr a,pg gr b,pg gr c]=pg gr (a+b+c):=by
 have h:aP gr [pg gr a,pg gr b,pg gr c]=aP gr [pg gr a,pg gr b]*pg gr c%gr.P:=rfl;rw[h,gM k,SQ k]
open Classical in
noncomputable def dl(gr:am)(x:Int):Int:=if h:∃a,x=pg gr a then Classical.choose h else 0
def j7(k:ao gr){x:Int}(h:aK gr x=Z):x=pg gr (dl gr x):=by
 have hg:=k.g;have hq:=k.q
 have he:∃a,x=pg gr a:=by
  obtain⟨s,hs⟩:=zDq k (nK k) (show gr.G≠1 by omega) h;have hx:=(EQ h).1;refine⟨s,?_⟩;unfold pg av;obtain⟨n,hn⟩:=fJ (show 0<=gr.Q by omega);have h3:=(EQ (nK k)).2.2;rw[hn]at h3⊢;rw[dG]at h3;rw[<-o7,dG,HK h3,hs];omega
 unfold dl;rw[dif_pos he];exact a2s he
theorem GI(a b:Nat->Int)(T:Int):∀n,ce (λi=>a i+T*b i) n=ce a n+T*ce b n
 |0=>by simp[ce]
 |n+1=>by
  show ce (λi=>a i+T*b i) n+(a n+T*b n)=(ce a n+a n)+T*(ce b n+b n);rw[GI a b T n];grind
def zCW(a b:Nat->Int)(n:Nat):ce (λi=>a i+b i) n=ce a n+ce b n:=by
 have:=GI a b 1 n;simpa using this
theorem Zk(f:Int->Int)(l:List Int):∀n,n<=l.length->(l.take n).foldl (λa j=>a+f j) 0=ce (λi=>f (l.getD i 0)) n
 |0,_=>rfl
 |n+1,h=>by
  rw[Nl (by omega),Zk f l n (by omega)];rfl
theorem Yc(f:Int->Int):∀n,((List.range n).map λ(i:Nat)=>(i:Int)).foldl (λa j=>a+f j) 0=ce (λi=>f (i:Nat)) n
 |0=>rfl
 |n+1=>by
  rw[mO,l8,GC,Yc f n];rfl
def zvy{l:List Int}(h:d5 l=Z)(f:Int->Int):ce (λi=>f (l.getD i 0)) l.length=ce (λi=>f (i:Nat)) l.length:=by
 have h1:=Zk f l l.length (cy _);rw[f6]at h1;rw[<-h1,(SF h).foldl_eq' (λi _ j _ a=>by omega),Yc]
def tI(k:ao gr){l m:List Int}{f:Nat->Int}(hl:l.length=m.length)(hf:∀i,i<l.length->l.getD i 0=pg gr (f i)):zaO gr l m 1=pg gr (ce (λi=>f i*m.getD i 0) l.length):=by
 have key:∀n,n<=l.length->zaO gr (l.take n) (m.take n) 1=pg gr (ce (λi=>f i*m.getD i 0) n):=by
  intro n;induction n with
  |zero=>intro _;exact(Pz k).symm
  |succ n ih=>
   intro hn;have h1:n<l.length:=by omega
   have h2:n<m.length:=by omega
   rw[iO h1,iO h2,LM gr _ _ _ _ _ (by simp;omega),ih (by omega),<-bU h1,<-bU h2,hf n h1,g8 k,SQ k];rfl
 have:=key l.length (cy _);rw[f6,hl,f6]at this;rw[this,hl]
def Zf(k:ao gr){l:List Int}{f:Nat->Int}(hf:∀i,i<l.length->l.getD i 0=pg gr (f i)):aP gr l=pg gr (ce f l.length):=by
 have key:∀n,n<=l.length->(l.take n).foldl (λo x=>o*x%gr.P) 1=pg gr (ce f n):=by
  intro n;induction n with
  |zero=>intro _;exact(Pz k).symm
  |succ n ih=>
   intro hn;have h1:n<l.length:=by omega
   rw[Nl h1,ih (by omega),hf n h1,SQ k];rfl
 have:=key l.length (cy _);rw[f6]at this;exact this
theorem MW{q:Int}(hq:0<q)(l m:List Int):∀n,dtN q l m n%q=ce (λi=>l.getD i 0*m.getD i 0) n%q
 |0=>rfl
 |n+1=>by
  show(dtN q l m n+l.getD n 0*m.getD n 0)%q%q=(ce _ n+l.getD n 0*m.getD n 0)%q;rw[eM,o9,MW hq l m n,<-o9]
theorem VS{q:Int}(hq:0<q)(l:List Int):∀n,smN q l n%q=ce (λi=>l.getD i 0) n%q
 |0=>rfl
 |n+1=>by
  show(smN q l n+l.getD n 0)%q%q=(ce _ n+l.getD n 0)%q;rw[eM,o9,VS hq l n,<-o9]
def zF9{S0 S1 S2 S3 T b0 f F D m1 m2 m3 m4 m5 m6:Int}(e1:S0-q*m1=S1+T*(S2+b0*S3)-q*m2)(e2:F-q*m3=f+T*D-q*m4)(e3:D-q*m5=S3-q*m6):
 (b0*(0-f)+S1)+S2*T=(b0*(0-F)+S0)+q*(m2-m1+b0*(m3-m4)+T*b0*(m5-m6)):=by
 have a1:S0=S1+T*(S2+b0*S3)-q*m2+q*m1:=by rw[<-e1];grind
 have a2:D=S3-q*m6+q*m5:=by rw[<-e3];grind
 have a3:F=f+T*D-q*m4+q*m3:=by rw[<-e2];grind
 rw[a3,a1,a2];grind
def zFK{perm:List Int}(hp:d5 perm=Z){al U o rs kk K:Nat->Int}{b0 f F D T:Int}(ho:∀i,i<perm.length->o i=al (perm.getD i 0).toNat+b0*rs i)
(hK:∀i,i<perm.length->K i%q=(kk i+T*U (perm.getD i 0).toNat)%q)(hF:F%q=(f+T*D)%q)(hD:D%q=ce (λi=>rs i*U (perm.getD i 0).toNat) perm.length%q):
 ((b0*(0-f)+ce (λi=>o i*kk i) perm.length)+ce (λj=>al j*U j) perm.length*T)%q=(b0*(0-F)+ce (λi=>o i*K i) perm.length)%q:=by
 have e1:ce (λi=>o i*K i) perm.length%q=ce (λi=>o i*kk i+T*(o i*U (perm.getD i 0).toNat)) perm.length%q:=QS _ λi hi=>by
  rw[mP,hK i hi,<-mP,show o i*(kk i+T*U (perm.getD i 0).toNat)=o i*kk i+T*(o i*U (perm.getD i 0).toNat)by grind]
 rw[GI]at e1;have e2:ce (λi=>o i*U (perm.getD i 0).toNat) perm.length=ce (λi=>al (perm.getD i 0).toNat*U (perm.getD i 0).toNat+b0*(rs i*U (perm.getD i 0).toNat)) perm.length:=Bs _ λi hi=>by rw[ho i hi];grind
 rw[GI]at e2;have e3:=zvy hp (λj=>al j.toNat*U j.toNat);have e4:ce (λi:Nat=>al (i:Int).toNat*U (i:Int).toNat) perm.length=ce (λj=>al j*U j) perm.length:=rfl;rw[e4]at e3;rw[e2,e3]at e1;generalize ce (λi=>o i*K i) perm.length=S0 at e1⊢;generalize ce (λi=>o i*kk i) perm.length=S1 at e1⊢;generalize ce (λj=>al j*U j) perm.length=S2 at e1⊢;generalize ce (λi=>rs i*U (perm.getD i 0).toNat) perm.length=S3 at e1 hD;obtain⟨m1,h1⟩:=mw S0 q;obtain⟨m2,h2⟩:=mw (S1+T*(S2+b0*S3)) q;obtain⟨m3,h3⟩:=mw F q;obtain⟨m4,h4⟩:=mw (f+T*D) q;obtain⟨m5,h5⟩:=mw D q;obtain⟨m6,h6⟩:=mw S3 q;rw[h1,h2]at e1;rw[h3,h4]at hF;rw[h5,h6]at hD;rw[zF9 e1 hF hD,GE]
end
section
variable {gr:am}
variable{i:Nat}
def ek{a b q:Int}(h:a%q=b%q):∃m,a=b+q*m:=by
 obtain⟨m,hm⟩:=mw a q;obtain⟨n,hn⟩:=mw b q;rw[hm,hn]at h;exact⟨m-n,by rw[Int.mul_sub];omega⟩
def uU(k:ao gr){h eta:Int}(hh:h=pg gr eta)(x r:Int):vc gr h x r=pg gr (x+eta*r):=by
 rw[hh];unfold vc;rw[g8 k];exact gM k x (eta*r)
def ti{α:Type}{a b:List α}{d:α}(h:i<a.length):(a++b).getD i d=a.getD i d:=by
 rw[nw,nw,fw h]
def sP{α:Type}{a b:List α}{j:Nat}{d:α}(h:i=a.length+j):(a++b).getD i d=b.getD j d:=by
 rw[nw,nw,fT (by omega),h,UI]
def zKk{q w v T y p e z u ab a b eta n1 n2 n3 n4 s1 s2:Int}(h1:u=y*p+e-z+q*n1)(h2:s1=w+T*u+q*n2)(h3:ab=y*a+b+q*n3)(h4:s2=v+T*ab+q*n4):
 (w+eta*v)+((p+eta*a)*y+(e+eta*b)+(0-z))*T=(s1+eta*s2)+q*(0-(T*n1+n2+eta*T*n3+eta*n4)):=by
 rw[h4,h3,h2,h1];grind
def zMG(k:ao gr){h eta w v T y p e z u ab a b s1 s2:Int}(hh:h=pg gr eta)(h1:u%gr.Q=(y*p+e-z)%gr.Q)(h2:s1%gr.Q=(w+T*u)%gr.Q)(h3:ab%gr.Q=(y*a+b)%gr.Q)(h4:s2%gr.Q=(v+T*ab)%gr.Q)(hz:i64.wrap (0-z)=0-z):
 aP gr [vc gr h w v,av gr (aP gr [av gr (vc gr h p a) y,vc gr h e b,av gr gr.G (i64.wrap (0-z))]) T]=vc gr h s1 s2:=by
 obtain⟨n1,h1⟩:=ek h1;obtain⟨n2,h2⟩:=ek h2;obtain⟨n3,h3⟩:=ek h3;obtain⟨n4,h4⟩:=ek h4;rw[uU k hh,uU k hh,uU k hh,uU k hh,g8 k,hz,show av gr gr.G (0-z)=pg gr (0-z)from rfl,zBb k,g8 k,gM k];exact Ad _ (zKk h1 h2 h3 h4)
def zNH{q pr ls eta w s T xR c u s1 s3 d n1 n2 n3 n4:Int}(h1:xR=pr*u+q*n1)(h2:s1=w+T*u+q*n2)(h3:d=c-ls*u+q*n3)(h4:s3=s+T*d+q*n4):
 ((pr+eta*ls)*w+eta*s)+(xR+eta*c)*T=((pr+eta*ls)*s1+eta*s3)+q*(T*n1-(pr+eta*ls)*n2-eta*T*n3-eta*n4):=by
 rw[h4,h3,h2,h1];grind
def zJ3(k:ao gr){h eta bf pr ls w s T xR c u s1 s3 d:Int}(hh:h=pg gr eta)(hb:bf=pg gr (pr+eta*ls))(h1:xR%gr.Q=(pr*u)%gr.Q)(h2:s1%gr.Q=(w+T*u)%gr.Q)(h3:d%gr.Q=(c-ls*u)%gr.Q)(h4:s3%gr.Q=(s+T*d)%gr.Q):
 aP gr [aP gr [av gr bf w,av gr h s],av gr (vc gr h xR c) T]=aP gr [av gr bf s1,av gr h s3]:=by
 obtain⟨n1,h1⟩:=ek h1;obtain⟨n2,h2⟩:=ek h2;obtain⟨n3,h3⟩:=ek h3;obtain⟨n4,h4⟩:=ek h4;rw[uU k hh,hb,hh,g8 k,g8 k,g8 k,g8 k,g8 k,gM k,gM k,gM k];exact Ad _ (zNH h1 h2 h3 h4)
def zJ4{q kk m e b T K M eta n1 n2:Int}(h1:K=kk+T*e+q*n1)(h2:M=m+T*b+q*n2):(kk+eta*m)+(e+eta*b)*T=(K+eta*M)+q*(0-(n1+eta*n2)):=by
 rw[h1,h2];grind
def zNt(k:ao gr){h eta kk m e b T K M:Int}(hh:h=pg gr eta)(h1:K%gr.Q=(kk+T*e)%gr.Q)(h2:M%gr.Q=(m+T*b)%gr.Q):aP gr [vc gr h kk m,av gr (vc gr h e b) T]=vc gr h K M:=by
 obtain⟨n1,h1⟩:=ek h1;obtain⟨n2,h2⟩:=ek h2;rw[uU k hh,uU k hh,uU k hh,g8 k,gM k];exact Ad _ (zJ4 h1 h2)
def zNK{q g pn c tg T G eta n1 n2:Int}(h1:pn=tg+q*n1)(h2:G=g+T*c+q*n2):eta*g+(pn+eta*c+tg*(-1))*T=eta*G+q*(T*n1-eta*n2):=by
 rw[h1,h2];grind
def zMe(k:ao gr){h eta g pn c tg T G:Int}(hh:h=pg gr eta)(h1:pn%gr.Q=tg%gr.Q)(h2:G%gr.Q=(g+T*c)%gr.Q):aP gr [av gr h g,av gr (aP gr [vc gr h pn c,av gr (av gr gr.G tg) (-1)]) T]=av gr h G:=by
 obtain⟨n1,h1⟩:=ek h1;obtain⟨n2,h2⟩:=ek h2;rw[uU k hh,hh,show av gr gr.G tg=pg gr tg from rfl,g8 k,g8 k,g8 k,gM k,g8 k,gM k];exact Ad _ (zNK h1 h2)
def K0(k:ao gr){b0 f F D T base:Int}{Fw yY B3 ks Ks perm:List Int}{al U o rs:Nat->Int}(hb:base=pg gr b0)(hp:d5 perm=Z)(li:Fw.length=perm.length)(lo:yY.length=perm.length)(lu:B3.length=perm.length)(lk:ks.length=perm.length)(lK:Ks.length=perm.length)
(hi:∀j,j<perm.length->Fw.getD j 0=pg gr (al j))(hu:∀j,j<perm.length->B3.getD j 0=U j)(ho:∀i,i<perm.length->yY.getD i 0=pg gr (o i))(Dp:∀i,i<perm.length->o i=al (perm.getD i 0).toNat+b0*rs i)
(hK:∀i,i<perm.length->Ks.getD i 0%gr.Q=(ks.getD i 0+T*U (perm.getD i 0).toNat)%gr.Q)(hF:F%gr.Q=(f+T*D)%gr.Q)(hD:D%gr.Q=ce (λi=>rs i*U (perm.getD i 0).toNat) perm.length%gr.Q)
(hf:i64.wrap (0-f)=0-f)(hF2:i64.wrap (0-F)=0-F):
 aP gr [aP gr [av gr base (i64.wrap (0-f)),zaO gr yY ks 1],av gr (zaO gr Fw B3 1) T]=aP gr [av gr base (i64.wrap (0-F)),zaO gr yY Ks 1]:=by
 have e1:ce (λi=>al i*B3.getD i 0) perm.length=ce (λi=>al i*U i) perm.length:=Bs _ λi hi=>by rw[hu i hi]
 rw[hf,hF2,hb,g8 k,g8 k,tI k (l:=yY) (m:=ks) (f:=o) (by omega) (by rw[lo];exact ho),tI k (l:=yY) (m:=Ks) (f:=o) (by omega) (by rw[lo];exact ho),tI k (l:=Fw) (m:=B3) (f:=al) (by omega) (by rw[li];exact hi),lo,li,e1,gM k,gM k,g8 k,gM k];exact Hg (zFK hp Dp hK hF hD)
theorem Xp{q x:Int}(hq:1<q)(hx:0<=x):∀i,j5 q x i=((x.toNat^i%q.toNat:Nat):Int)
 |0=>by
  show(1:Int)=_;rw[Uu,nU (by omega)];rfl
 |i+1=>by
  obtain⟨n,rfl⟩:=fJ hx;obtain⟨m,rfl⟩:=fJ (show 0<=q by omega);show j5 _ _ i*_%_=_;rw[Xp hq hx i,dG,dG,<-C9,<-o7,Nat.pow_succ,t7,OL,<-t7]
def Qq{q x:Int}{perm:List Int}(h:0<=perm.getD i 0):eF q x perm i=im q x (perm.getD i 0).toNat:=by
 unfold eF im;rw[show(perm.getD i 0+1).toNat=(perm.getD i 0).toNat+1 by omega]
def zIe{q x y z:Int}(hq:1<q)(hx:0<=x){perm:List Int}(hp:∀j∈perm,0<=j/\j<=1000)(hb:d5 perm=Z):rL q (uF q y z (eF q x perm) perm) perm.length=tgN q x y z perm.length:=by
 have key:∀n,n<=perm.length->rL q (uF q y z (eF q x perm) perm) n=(perm.take n).foldl (uf q x y z) 1:=by
  intro n;induction n with
  |zero=>intro _;rfl
  |succ n ih=>
   intro hn;rw[Nl (by omega),<-ih (by omega)];show rL q _ n*uF q y z _ perm n%q=uf q x y z _ _;have hj:=(eB hp (show n<perm.length by omega)).1;unfold uf uF;rw[Xp hq hx,Qq hj];rfl
 rw[key _ (cy _),f6,zA4 hb]
theorem zAk{f:Nat->Bool}:∀{n},(∀i,i<n->f i=Z)->alB f n=Z
 |0,_=>rfl
 |n+1,h=>by
  show(alB f n&&f n)=Z;rw[zAk λi hi=>h i (by omega),h n (by omega)];rfl
end
section
variable {gr:am}{key h:Int}{l:List an}{perm rs:List Int}{C:Pc}
abbrev c0:an:=⟨0,0⟩
variable{ch:List Int}
def I7{l:List an}{j:Nat}(hj:j<l.length):(sdV l).1.getD j 0=(l.getD j c0).A/\(sdV l).2.getD j 0=(l.getD j c0).B:=by
 simp[sdV,List.getD,hj]
def Jq(hl:∀c∈l,b8 gr c=Z){j:Nat}(hj:j<l.length):aK gr (l.getD j c0).A=Z/\aK gr (l.getD j c0).B=Z:=by
 have h:=hl _ (e9 hj);have e:l.getD j c0=l[j]:=by simp[List.getD,hj]
 rw[e];simpa only[b8,bI]using h
def zE6{i:Nat}(hi:i<perm.length):(zaR gr key l perm rs).getD i c0=AF gr key (l.getD (perm.getD i 0).toNat c0) (rs.getD i 0):=by
 simp[zaR,List.getD,hi]
def zw(k:ao gr)(m:ni gr key l perm rs){i:Nat}(hi:i<perm.length):(sdV (zaR gr key l perm rs)).1.getD i 0=pg gr (dl gr (l.getD (perm.getD i 0).toNat c0).A+1*rs.getD i 0)/\(sdV (zaR gr key l perm rs)).2.getD i 0=pg gr (dl gr (l.getD (perm.getD i 0).toNat c0).B+dl gr key*rs.getD i 0):=by
 have hj:=eB m.pr hi;have hc:=Jq m.c (show(perm.getD i 0).toNat<l.length by omega);have hs:=I7 (l:=zaR gr key l perm rs) (j:=i) (by rw[kO];exact hi);rw[hs.1,hs.2,zE6 hi];unfold AF;generalize l.getD (perm.getD i 0).toNat c0=c at hc;have e1:=j7 k hc.1;have e2:=j7 k hc.2;have e3:=j7 k m.key;generalize dl gr c.A=a at e1;generalize dl gr c.B=b at e2;generalize dl gr key=kk at e3;dsimp only;rw[e1,e2,e3,g8 k];refine⟨by rw[show av gr gr.G (rs.getD i 0)=pg gr (rs.getD i 0)from rfl,gM k,UH],?_⟩;rw[<-Pz k,gM k,gM k,KE]
def zxM(k:ao gr){eta:Int}(hh:h=pg gr eta){u:Nat->Int}{n i:Nat}(hi:i<n):bef gr.G (rg (chF gr h u C) n) i=pg gr (rL gr.Q u i+eta*Ax C i):=by
 unfold bef;cases i with
 |zero=>
  show gr.G=pg gr (1+eta*0);rw[Int.mul_zero,Int.add_zero,Sl k]
 |succ i=>
  rw[sP (a:=[gr.G]) (j:=i) (by simp;omega),kF _ (by omega)];exact uU k hh _ _
def G1{gr:am}(k:ao gr){z:Int}(hz:E9 gr.Q z):i64.wrap (0-z)=0-z:=by
 have h1:=hz.1;have h2:=hz.2;have hq:=k.q;have hp:=k.p;exact aI (by omega) (by omega)
def zMA{out:List an}{n i:Nat}(hi:i<n):(oT gr key h out ch C n).getD i 0=LG gr h C i:=by
 unfold oT;rw[ti (by simp[bn];omega),ti (by simp[bn];omega),ti (by simp[bn];omega),ti (by simp[bn];omega),kF _ hi]
def zJ2{out:List an}{n i:Nat}(hi:i<n):(oT gr key h out ch C n).getD (n+i) 0=c2F gr h ch C i:=by
 unfold oT;rw[ti (by simp[bn];omega),ti (by simp[bn];omega),ti (by simp[bn];omega),sP (j:=i) (by simp[bn]),kF _ hi]
def zKZ{out:List an}{n:Nat}:(oT gr key h out ch C n).getD (2*n) 0=av gr h C.g:=by
 unfold oT;rw[ti (by simp[bn];omega),ti (by simp[bn];omega),sP (j:=0) (by simp[bn];omega)];rfl
def zLl{out:List an}{n i:Nat}(hi:i<n):(oT gr key h out ch C n).getD (2*n+1+i) 0=U2 gr h C i:=by
 unfold oT;rw[ti (by simp[bn];omega),sP (j:=i) (by simp[bn];omega),kF _ hi]
def zDX{out:List an}{n:Nat}:(oT gr key h out ch C n).getD (3*n+1) 0=aP gr [av gr gr.G (i64.wrap (0-C.f)),zaO gr (sdV out).1 C.k 1]/\(oT gr key h out ch C n).getD (3*n+2) 0=aP gr [av gr key (i64.wrap (0-C.f)),zaO gr (sdV out).2 C.k 1]:=by
 unfold oT;rw[sP (i:=3*n+1) (j:=0) (by simp[bn];omega),sP (i:=3*n+2) (j:=1) (by simp[bn];omega)];exact⟨rfl,rfl⟩
def gY(gr:am)(key h:Int)(l:List an)(perm rs:List Int)(C:Pc):Rp:=
 let q:=gr.Q;let t:=j4 gr key h l perm rs C;let u:=kW gr key h l perm rs C;let e:=jV gr key h l perm rs C;let n:=l.length
 ⟨rg (rF q t C.w u) n,rg (rF q t C.v (abF q (qK gr key h l perm rs C) C)) n,rg (rF q t C.s (dlF q u C)) n,(C.g+t*C.c.getD (n-1) 0)%q,rg (rF q t C.k e) n,rg (rF q t C.m (λi=>C.b.getD i 0)) n,(C.f+t*dtN q rs (rg e n) n)%q⟩
def zCR(k:ao gr)(P:gT gr key h l perm rs C):∀z∈gF gr key h l perm rs C,aK gr z=Z:=by
 have hh:=j7 k P.hh;have dN:=P.m.pl;have Lu:=P.c.k.1;have kA:(zaR gr key l perm rs).length=l.length:=by rw[kO,P.m.pl]
 have eW:=mH (zaR gr key l perm rs)
 have d1:aK gr (zaO gr (sdV (zaR gr key l perm rs)).1 C.k 1)=Z:=by
  rw[tI k (f:=λi=>dl gr (l.getD (perm.getD i 0).toNat c0).A+1*rs.getD i 0) (by omega) λi hi=>(zw k P.m (by omega)).1];exact ES k _
 have d2:aK gr (zaO gr (sdV (zaR gr key l perm rs)).2 C.k 1)=Z:=by
  rw[tI k (f:=λi=>dl gr (l.getD (perm.getD i 0).toNat c0).B+dl gr key*rs.getD i 0) (by omega) λi hi=>(zw k P.m (by omega)).2];exact ES k _
 unfold gF oT;refine jB (jB (jB (jB (m9 λi _=>G6 k P.hh _ _) (m9 λi hi=>?_)) ?_) (m9 λi _=>G6 k P.hh _ _)) ?_
 ·unfold c2F;refine qN k (kH k ?_ _) (kH k P.hh _);unfold jp;rw[zxM k hh hi];exact ES k _
 ·intro x hx;rw[gB]at hx;rw[hx];exact kH k P.hh _
 intro x hx;simp only[fK,jf,jg]at hx;rcases hx with rfl|rfl
 ·exact qN k (kH k (nK k) _) d1
 exact qN k (kH k P.m.key _) d2
def zGT(k:ao gr)(P:gT gr key h l perm rs C):∀z∈(gY gr key h l perm rs C).cs,E9 gr.Q z:=by
 have hq:=k.q;have cM:0<gr.Q:=by omega
 have hr:∀(t:Int) (w:List Int) (u:Nat->Int) (n:Nat),∀z∈rg (rF gr.Q t w u) n,E9 gr.Q z:=λt w u n=>m9 λi _=>by unfold rF;exact gf cM _
 have h1:∀x:Int,∀z∈[x%gr.Q],E9 gr.Q z:=λx z hz=>by rw[gB]at hz;rw[hz];exact gf cM _
 exact jB (hr _ _ _ _) (jB (hr _ _ _ _) (jB (hr _ _ _ _) (jB (h1 _) (jB (hr _ _ _ _) (jB (hr _ _ _ _) (h1 _))))))
def UX(k:ao gr)(P:gT gr key h l perm rs C):xu gr key h l (zaR gr key l perm rs) (iX gr key h l perm rs C) (gY gr key h l perm rs C):=
 ⟨P.m.key,P.m.n,P.m.c,uN k P.m,by rw[kO,P.m.pl],P.hh,⟨bn _ _,Q1 k P⟩,⟨bn _ _,Wn k P⟩,H5 k P,⟨(Dx k P).1,zCR k P⟩,rfl,rfl,⟨bn _ _,bn _ _,bn _ _,bn _ _,bn _ _⟩⟩
def zHS(k:ao gr)(P:gT gr key h l perm rs C):r7 gr l.length (iX gr key h l perm rs C)=Z:=by
 have V:=UX k P;have e1:=V.rs
 have hl:(iX gr key h l perm rs C).Pi.aD.length=5*l.length+2:=by
  rw[e1];have r:=V.r;simp only[Rp.cs,bP,dX,ia,r.s1,r.s2,r.s3,r.kk,r.mm];omega
 simp only[r7,bI,eC];exact⟨V.pl.1,V.pw.1,V.ch.1,V.cm.1,V.cl,hl,bm.2 V.pl.2,bm.2 V.pw.2,bm.2 V.ch.2,bm.2 V.cm.2,by rw[e1];exact zAc (zGT k P)⟩
end
section
variable {gr:am}{key h:Int}{l:List an}{perm rs:List Int}{C:Pc}
variable{i:Nat}
def zGZ(k:ao gr)(P:gT gr key h l perm rs C)(hi:i<l.length):q1 gr h (qK gr key h l perm rs C) (tJ gr key h l perm rs C) (j4 gr key h l perm rs C) (iX gr key h l perm rs C) (gY gr key h l perm rs C) i=Z:=by
 have hz:E9 gr.Q (tJ gr key h l perm rs C):=mE k _ _;show(aP gr [(gF gr key h l perm rs C).getD i 0,av gr (aP gr [av gr ((gy gr h perm C l.length).getD i 0) (qK gr key h l perm rs C),(kj gr key h l perm rs C).getD i 0,av gr gr.G (i64.wrap (0-tJ gr key h l perm rs C))]) (j4 gr key h l perm rs C)]==vc gr h ((gY gr key h l perm rs C).s1.getD i 0) ((gY gr key h l perm rs C).s2.getD i 0))=Z;unfold gF gy kj gY;dsimp only;rw[zMA hi,kF _ hi,kF _ hi,kF _ hi,kF _ hi];exact beq_iff_eq.2 (zMG k (j7 k P.hh) (u:=kW gr key h l perm rs C i) (ab:=abF gr.Q (qK gr key h l perm rs C) C i) (eM _ _) (eM _ _) (eM _ _) (eM _ _) (G1 k hz))
def zHD(k:ao gr)(P:gT gr key h l perm rs C)(hi:i<l.length):q2 gr h (j4 gr key h l perm rs C) (iX gr key h l perm rs C) (gY gr key h l perm rs C) l.length i=Z:=by
 show(aP gr [(gF gr key h l perm rs C).getD (l.length+i) 0,av gr ((jp gr key h l perm rs C).getD i 0) (j4 gr key h l perm rs C)]==aP gr [av gr (bef gr.G (jp gr key h l perm rs C) i) ((gY gr key h l perm rs C).s1.getD i 0),av gr h ((gY gr key h l perm rs C).s3.getD i 0)])=Z;unfold gF gY;dsimp only;rw[zJ2 hi,kF _ hi,kF _ hi];unfold c2F;have hb:bef gr.G (jp gr key h l perm rs C) i=pg gr (rL gr.Q (kW gr key h l perm rs C) i+dl gr h*Ax C i):=zxM k (j7 k P.hh) hi;have hc:(jp gr key h l perm rs C).getD i 0=vc gr h (rL gr.Q (kW gr key h l perm rs C) (i+1)) (C.c.getD i 0):=kF _ hi;rw[hc];exact beq_iff_eq.2 (zJ3 k (j7 k P.hh) hb (u:=kW gr key h l perm rs C i) (d:=dlF gr.Q (kW gr key h l perm rs C) C i) (eM _ _) (eM _ _) (eM _ _) (eM _ _))
def zGM(k:ao gr)(P:gT gr key h l perm rs C)(hi:i<l.length):q4 gr h (j4 gr key h l perm rs C) (iX gr key h l perm rs C) (gY gr key h l perm rs C) l.length i=Z:=by
 show(aP gr [(gF gr key h l perm rs C).getD (2*l.length+1+i) 0,av gr ((kj gr key h l perm rs C).getD i 0) (j4 gr key h l perm rs C)]==vc gr h ((gY gr key h l perm rs C).kk.getD i 0) ((gY gr key h l perm rs C).mm.getD i 0))=Z;unfold gF gY kj;dsimp only;rw[zLl hi,kF _ hi,kF _ hi,kF _ hi];exact beq_iff_eq.2 (zNt k (j7 k P.hh) (eM _ _) (eM _ _))
def zHZ(k:ao gr)(P:gT gr key h l perm rs C):q3 gr h (tgN gr.Q (nl gr key h l perm rs C) (qK gr key h l perm rs C) (tJ gr key h l perm rs C) l.length) (j4 gr key h l perm rs C) (iX gr key h l perm rs C) (gY gr key h l perm rs C) l.length=Z:=by
 have hn:=P.m.n;have hq:=k.q;have hx:E9 gr.Q (nl gr key h l perm rs C):=mE k _ _;have ht:=zIe (q:=gr.Q) (y:=qK gr key h l perm rs C) (z:=tJ gr key h l perm rs C) (by omega) hx.1 P.pr P.m.pb;rw[P.m.pl]at ht;have hc:(jp gr key h l perm rs C).getD (l.length-1) 0=vc gr h (rL gr.Q (kW gr key h l perm rs C) (l.length-1+1)) (C.c.getD (l.length-1) 0):=kF _ (by omega);rw[show l.length-1+1=l.length by omega]at hc;show(aP gr [(gF gr key h l perm rs C).getD (2*l.length) 0,av gr (aP gr [(jp gr key h l perm rs C).getD (l.length-1) 0,av gr (av gr gr.G (tgN gr.Q _ _ _ l.length)) (-1)]) (j4 gr key h l perm rs C)]==av gr h (gY gr key h l perm rs C).g)=Z;rw[hc];unfold gF gY;dsimp only;rw[zKZ];exact beq_iff_eq.2 (zMe k (j7 k P.hh) (gn (· %gr.Q) ht) (eM _ _))
def Z8(k:ao gr)(P:gT gr key h l perm rs C):dtN gr.Q rs (rg (jV gr key h l perm rs C) l.length) l.length%gr.Q=ce (λi=>rs.getD i 0*im gr.Q (nl gr key h l perm rs C) (perm.getD i 0).toNat) perm.length%gr.Q:=by
 have hq:=k.q;rw[MW (by omega),P.m.pl];refine gn (· %gr.Q) (Bs _ λi hi=>?_);rw[kF _ hi];unfold jV;rw[Qq (eB P.pr (by rw[P.m.pl];exact hi)).1]
def zGz(k:ao gr)(P:gT gr key h l perm rs C):qE gr (j4 gr key h l perm rs C) ((gF gr key h l perm rs C).getD (3*l.length+1) 0) gr.G (rg (im gr.Q (nl gr key h l perm rs C)) l.length) (sdV l).1 (sdV (zaR gr key l perm rs)).1 (gY gr key h l perm rs C)=Z/\
 qE gr (j4 gr key h l perm rs C) ((gF gr key h l perm rs C).getD (3*l.length+2) 0) key (rg (im gr.Q (nl gr key h l perm rs C)) l.length) (sdV l).2 (sdV (zaR gr key l perm rs)).2 (gY gr key h l perm rs C)=Z:=by
 have hq:=k.q;have dN:=P.m.pl;have eW:=mH l;have lO:=mH (zaR gr key l perm rs);rw[kO]at lO;have hk:=P.c.k.1;have hf:=G1 k P.c.f;have hF:i64.wrap (0-(gY gr key h l perm rs C).f)=0-(gY gr key h l perm rs C).f:=G1 k (gf (by omega) _)
 have hK:∀i,i<perm.length->(gY gr key h l perm rs C).kk.getD i 0%gr.Q=(C.k.getD i 0+j4 gr key h l perm rs C*im gr.Q (nl gr key h l perm rs C) (perm.getD i 0).toNat)%gr.Q:=λi hi=>by
  unfold gY;dsimp only;rw[kF _ (by omega)];unfold rF;rw[eM];unfold jV;rw[Qq (eB P.pr hi).1]
 have hl:(gY gr key h l perm rs C).kk.length=perm.length:=by unfold gY;dsimp only;rw[bn,dN]
 have lu:(rg (im gr.Q (nl gr key h l perm rs C)) l.length).length=perm.length:=by rw[bn,dN]
 have hu:∀j,j<perm.length->(rg (im gr.Q (nl gr key h l perm rs C)) l.length).getD j 0=im gr.Q (nl gr key h l perm rs C) j:=λj hj=>kF _ (by omega)
 have hFF:(gY gr key h l perm rs C).f%gr.Q=(C.f+j4 gr key h l perm rs C*dtN gr.Q rs (rg (jV gr key h l perm rs C) l.length) l.length)%gr.Q:=eM _ _;unfold qE gF;rw[zDX.1,zDX.2];refine⟨beq_iff_eq.2 (K0 k (perm:=perm) (b0:=1) (Sl k).symm P.m.pb (by omega) lO.1 lu (by omega) hl (al:=λj=>dl gr (l.getD j c0).A) (o:=λi=>dl gr (l.getD (perm.getD i 0).toNat c0).A+1*rs.getD i 0) (rs:=λi=>rs.getD i 0) (λj hj=>?_) hu (λi hi=>(zw k P.m hi).1) (λ_ _=>rfl) hK hFF (Z8 k P) hf hF),beq_iff_eq.2 (K0 k (perm:=perm) (b0:=dl gr key) (j7 k P.m.key) P.m.pb (by omega) lO.2 lu (by omega) hl (al:=λj=>dl gr (l.getD j c0).B) (o:=λi=>dl gr (l.getD (perm.getD i 0).toNat c0).B+dl gr key*rs.getD i 0) (rs:=λi=>rs.getD i 0) (λj hj=>?_) hu (λi hi=>(zw k P.m hi).2) (λ_ _=>rfl) hK hFF (Z8 k P) hf hF)⟩
 ·rw[(I7 (by omega)).1];exact j7 k (Jq P.m.c (by omega)).1
 rw[(I7 (by omega)).2];exact j7 k (Jq P.m.c (by omega)).2
def zIc(k:ao gr)(P:gT gr key h l perm rs C):CT gr key h l (zaR gr key l perm rs) (iX gr key h l perm rs C) (gY gr key h l perm rs C) (nl gr key h l perm rs C) (qK gr key h l perm rs C) (tJ gr key h l perm rs C) (j4 gr key h l perm rs C) l.length=Z:=by
 unfold CT;rw[zAk λi hi=>by rw[zGZ k P hi,zHD k P hi,zGM k P hi];rfl,zHZ k P];have h1:=zGz k P;have e:(iX gr key h l perm rs C).Pi.aC=gF gr key h l perm rs C:=rfl;rw[e,h1.1,h1.2];rfl
def zAT(k:ao gr){B:cr}(P:gT gr key B.H l perm rs C):An gr B key l (zaR gr key l perm rs) (iX gr key B.H l perm rs C)=J Z:=by
 rw[XC k (UX k P) (zHS k P)];have h1:=zIc k P;have e1:vpX gr key l (zaR gr key l perm rs) (iX gr key B.H l perm rs C)=nl gr key B.H l perm rs C:=rfl;have e2:vpY gr key l (zaR gr key l perm rs) (iX gr key B.H l perm rs C)=qK gr key B.H l perm rs C:=rfl;have e3:vpZ gr key l (zaR gr key l perm rs) (iX gr key B.H l perm rs C)=tJ gr key B.H l perm rs C:=rfl;have e4:vpT gr key l (zaR gr key l perm rs) (iX gr key B.H l perm rs C)=j4 gr key B.H l perm rs C:=rfl;have e5:(iX gr key B.H l perm rs C).Pi.aW.getD 0 0=j4 gr key B.H l perm rs C:=rfl;rw[e1,e2,e3,e4,e5,h1,a0L];rfl
end
section
variable {gr:am}{key:Int}{B:cr}{l:List an}{perm rs s t w x:List Int}{a b d f:Int}
variable{i:Nat}
def zuX(h:d5 perm=Z){j:Nat}(hi:i<perm.length)(hj:j<perm.length)(e:perm.getD i 0=perm.getD j 0):i=j:=by
 simp only[d5,bI,oz,eC]at h;rw[bU hi,bU hj]at e;exact(List.getElem_inj h.2).1 e
def zDF{Hs ss:List Int}(hp:d5 perm=Z)(hr:∀x∈perm,0<=x/\x<perm.length)(hi:i<perm.length):(zez gr Hs perm ss).getD (perm.getD i 0).toNat 0=aP gr [av gr gr.G (ss.getD (perm.getD i 0).toNat 0),Hs.getD i 0]:=by
 have h:=Nt (f:=tR gr Hs perm ss) (I:=λm s=>s.length=perm.length/\∀i,i<m->i<perm.length->s.getD (perm.getD i 0).toNat 0=aP gr [av gr gr.G (ss.getD (perm.getD i 0).toNat 0),Hs.getD i 0]) (s0:=List.replicate perm.length 0) (m:=perm.length) ⟨by simp,λi hi=>by omega⟩ (λm s hm ⟨h1,h2⟩=>by
  refine⟨by simp[tR,h1],λi hi cF=>?_⟩;unfold tR;have hx:=eB hr cF;have hy:=eB hr hm;by_cases e:m=i
  ·subst e;rw[nw,a2q (by omega),v9]
  ·have hne:(perm.getD m 0).toNat≠(perm.getD i 0).toNat:=λe2=>e (zuX hp hm cF (by omega))
   rw[nw,a2r hne,<-nw]
   exact h2 i (by omega) cF) perm.length (cy _)
 exact h.2 i hi hi
def zBw(h:d5 perm=Z):∃kG:Nat->Nat,∀j,j<perm.length->kG j<perm.length/\perm.getD (kG j) 0=(j:Int):=by
 have key:∀j:Nat,∃i,j<perm.length->i<perm.length/\perm.getD i 0=(j:Int):=by
  intro j;by_cases hj:j<perm.length
  ·obtain⟨i,hi,e⟩:=OA (TN h (j:=(j:Int)) ⟨by omega,by omega⟩);exact⟨i,λ_=>⟨hi,by rw[bU hi,e]⟩⟩
  ·exact⟨0,λhh=>absurd hh hj⟩
 exact⟨λj=>Classical.choose (key j),λj hj=>a2s (key j) hj⟩
def zKy(q u v a:Int):a*u%q*v%q=a*v%q*u%q:=by
 rw[mP (a*u%q),eM,<-mP,mP (a*v%q),eM,<-mP];congr 1;rw[KI,a0K u v,KI]
theorem ZA(q:Int)(e:List Int):∀n,((List.range n).map λ(i:Nat)=>(i:Int)).foldl (λa j=>a*e.getD j.toNat 0%q) 1=alN q e n
 |0=>rfl
 |n+1=>by
  rw[mO,l8,GC,ZA q e n];rfl
theorem Xb(q:Int)(e:List Int):∀n,n<=perm.length->alN q (pM e perm) n=(perm.take n).foldl (λa j=>a*e.getD j.toNat 0%q) 1
 |0,_=>rfl
 |n+1,h=>by
  rw[Nl (by omega),<-Xb q e n (by omega)];show alN q _ n*(pM e perm).getD n 0%q=_;have:(pM e perm).getD n 0=e.getD (perm.getD n 0).toNat 0:=by simp[pM,List.getD,show n<perm.length by omega]
  rw[this]
def zBF(h:d5 perm=Z)(q:Int)(e:List Int):alN q (pM e perm) perm.length=alN q e perm.length:=by
 rw[Xb q e _ (cy _),f6,(SF h).foldl_eq' (λi _ j _ a=>zKy q _ _ a),ZA]
def YY{e:List Int}(hi:i<perm.length):(pM e perm).getD i 0=e.getD (perm.getD i 0).toNat 0:=by simp[pM,List.getD,hi]
def Lp(eta:Int)(own t:List Int):Nat->Int
 |0=>eta
 |i+1=>t.getD i 0+Lp eta own t i*own.getD i 0
theorem KZ(k:ao gr){h eta:Int}(hh:h=pg gr eta)(own t:List Int):∀i,hN gr h own t i=pg gr (Lp eta own t i)
 |0=>hh
 |i+1=>by
  show aP gr [av gr gr.G (t.getD i 0),av gr (hN gr h own t i) (own.getD i 0)]=_;rw[KZ k hh own t i,g8 k];exact gM k _ _
theorem Wg{q:Int}(eta:Int)(own t:List Int):∀n,Lp eta own t n%q=(yN q own t n+eta*alN q own n)%q
 |0=>by
  show eta%q=(0+eta*1)%q;rw[UB,KE]
 |n+1=>by
  obtain⟨m1,h1⟩:=ek (Wg (q:=q) eta own t n);obtain⟨m2,h2⟩:=mw (t.getD n 0+own.getD n 0*yN q own t n) q;obtain⟨m3,h3⟩:=mw (alN q own n*own.getD n 0) q;show(t.getD n 0+Lp eta own t n*own.getD n 0)%q=((t.getD n 0+own.getD n 0*yN q own t n)%q+eta*(alN q own n*own.getD n 0%q))%q;rw[h1,h2,h3];generalize t.getD n 0=a;generalize own.getD n 0=c;generalize yN q own t n=y;generalize alN q own n=p;have e:a+(y+eta*p+q*m1)*c=(a+c*y-q*m2+eta*(p*c-q*m3))+q*(m1*c+m2+eta*m3):=by grind
  rw[e,GE]
end
section
variable {gr:am}{key:Int}{B:cr}{l:List an}{perm rs s t w x:List Int}{a b d f:Int}
def ZW(k:ao gr){Hs ss:List Int}(hp:d5 perm=Z)(hr:∀x∈perm,0<=x/\x<perm.length)(hl:Hs.length=perm.length)(hH:∀x∈Hs,aK gr x=Z):∃cx:Nat->Int,(∀j,j<perm.length->(zez gr Hs perm ss).getD j 0=pg gr (cx j))/\
 ∀U:Nat->Int,ce (λj=>cx j*U j) perm.length=ce (λj=>ss.getD j 0*U j) perm.length+ce (λi=>dl gr (Hs.getD i 0)*U (perm.getD i 0).toNat) perm.length:=by
 obtain⟨kG,hi⟩:=zBw hp;refine⟨λj=>ss.getD j 0+dl gr (Hs.getD (kG j) 0),λj hj=>?_,λU=>?_⟩
 ·obtain⟨h1,h2⟩:=hi j hj;have:=zDF (gr:=gr) (Hs:=Hs) (ss:=ss) hp hr h1;rw[h2,dG]at this;rw[this];have e:=j7 k (eB hH (show kG j<Hs.length by omega));show _=pg gr (ss.getD j 0+dl gr (Hs.getD (kG j) 0));generalize Hs.getD (kG j) 0=v at e;rw[<-gM k,<-e];rfl
 have e1:ce (λj=>(ss.getD j 0+dl gr (Hs.getD (kG j) 0))*U j) perm.length=ce (λj=>ss.getD j 0*U j+dl gr (Hs.getD (kG j) 0)*U j) perm.length:=Bs _ λj _=>Int.add_mul _ _ _
 have e2:=zvy hp (λj=>dl gr (Hs.getD (kG j.toNat) 0)*U j.toNat)
 have e3:ce (λi=>dl gr (Hs.getD (kG (perm.getD i 0).toNat) 0)*U (perm.getD i 0).toNat) perm.length=ce (λi=>dl gr (Hs.getD i 0)*U (perm.getD i 0).toNat) perm.length:=Bs _ λi hlt=>by
  have hx:=eB hr hlt;obtain⟨h1,h2⟩:=hi (perm.getD i 0).toNat (by omega);rw[zuX hp h1 hlt (by omega)]
 have e4:ce (λi:Nat=>dl gr (Hs.getD (kG (i:Int).toNat) 0)*U (i:Int).toNat) perm.length=ce (λj=>dl gr (Hs.getD (kG j) 0)*U j) perm.length:=rfl;rw[e1,zCW,<-e4,<-e2,e3]
def zHa{q z:Int}{eta xr xx oo:Nat->Int}{n:Nat}(h:∀i,i<n->xr i%q=(xx i+z*oo i)%q):ce (λi=>eta i*xr i) n%q=(ce (λi=>eta i*xx i) n+z*ce (λi=>eta i*oo i) n)%q:=by
 rw[<-GI]
 exact QS _ λi hi=>by
  rw[mP,h i hi,<-mP,show eta i*(xx i+z*oo i)=eta i*xx i+z*(eta i*oo i)by grind]
def zFm{q a Sc Ss Se z r0 sm n1 n2:Int}(h1:Sc=Ss+Se)(h2:r0=a+z*sm+q*n1)(h3:sm=Ss+q*n2):a+(Sc+Se*(-1))*z=r0+q*(0-(n1+z*n2)):=by
 rw[h2,h3,h1];grind
def zJJ(k:ao gr){a z r0 sm:Int}{fS Hs:List Int}{cx ex:Nat->Int}{Ss:Int}(hc:∀j,j<fS.length->fS.getD j 0=pg gr (cx j))(hH:∀j,j<Hs.length->Hs.getD j 0=pg gr (ex j))(h1:ce cx fS.length=Ss+ce ex Hs.length)(h2:r0%gr.Q=(a+z*sm)%gr.Q)(h3:sm%gr.Q=Ss%gr.Q):
 aP gr [av gr gr.G a,av gr (aP gr [aP gr fS,av gr (aP gr Hs) (-1)]) z]=av gr gr.G r0:=by
 obtain⟨n1,h2⟩:=ek h2;obtain⟨n2,h3⟩:=ek h3;rw[Zf k hc,Zf k hH,g8 k,gM k,g8 k,show av gr gr.G a=pg gr a from rfl,show av gr gr.G r0=pg gr r0 from rfl,gM k];exact Ad _ (zFm h1 h2 h3)
def zEP{q b Sx Sc z r1 D SsU SeU Sr n1 n2 n3:Int}(h1:Sc=SsU+SeU)(h2:r1=b+z*D+q*n1)(h3:D=SsU+q*n2)(h4:Sr=Sx+z*SeU+q*n3):(b+Sx)+Sc*z=(r1+Sr)+q*(0-(n1+z*n2+n3)):=by
 rw[h2,h3,h1,h4];grind
def zMu(k:ao gr){b z r1 D SsU SeU:Int}{fS Hs e x xr:List Int}{cx ex:Nat->Int}(hc:∀j,j<fS.length->fS.getD j 0=pg gr (cx j))(hH:∀j,j<Hs.length->Hs.getD j 0=pg gr (ex j))(le:fS.length=e.length)(lx:Hs.length=x.length)(lr:Hs.length=xr.length)
(h1:ce (λj=>cx j*e.getD j 0) fS.length=SsU+SeU)(h2:r1%gr.Q=(b+z*D)%gr.Q)(h3:D%gr.Q=SsU%gr.Q)(h4:ce (λi=>ex i*xr.getD i 0) Hs.length%gr.Q=(ce (λi=>ex i*x.getD i 0) Hs.length+z*SeU)%gr.Q):
 aP gr [aP gr [av gr gr.G b,zaO gr Hs x 1],av gr (zaO gr fS e 1) z]=aP gr [av gr gr.G r1,zaO gr Hs xr 1]:=by
 obtain⟨n1,h2⟩:=ek h2;obtain⟨n2,h3⟩:=ek h3;obtain⟨n3,h4⟩:=ek h4;rw[tI k (l:=fS) (m:=e) le hc,tI k (l:=Hs) (m:=x) lx hH,tI k (l:=Hs) (m:=xr) lr hH,show av gr gr.G b=pg gr b from rfl,show av gr gr.G r1=pg gr r1 from rfl,g8 k,gM k,gM k,gM k];exact Ad _ (zEP h1 h2 h3 h4)
def zHF{q d gm eta al y z r2 n1 n2:Int}(h1:gm=y+eta*al+q*n1)(h2:r2=d+z*y+q*n2):d+(gm+eta*(0-al))*z=r2+q*(z*n1-n2):=by
 rw[h1,h2];grind
def zL3(k:ao gr){d z r2 gm eta al y h last:Int}(hh:h=pg gr eta)(hl:last=pg gr gm)(h1:gm%gr.Q=(y+eta*al)%gr.Q)(h2:r2%gr.Q=(d+z*y)%gr.Q):
 aP gr [av gr gr.G d,av gr (aP gr [last,av gr h (0-al)]) z]=av gr gr.G r2:=by
 obtain⟨n1,h1⟩:=ek h1;obtain⟨n2,h2⟩:=ek h2;rw[hh,hl,show av gr gr.G d=pg gr d from rfl,show av gr gr.G r2=pg gr r2 from rfl,g8 k,gM k,g8 k,gM k];exact Ad _ (zHF h1 h2)
def zFy{q w gm x t own z BD xr n1 n2:Int}(h1:BD=w+z*t+q*n1)(h2:xr=x+z*own+q*n2):(w+gm*x)+(t+gm*own)*z=(BD+gm*xr)+q*(0-(n1+gm*n2)):=by
 rw[h1,h2];grind
def zK2(k:ao gr){w gm x t own z BD xr c0 c1:Int}(h0:c0=pg gr gm)(h1:c1=pg gr (t+gm*own))(h2:BD%gr.Q=(w+z*t)%gr.Q)(h3:xr%gr.Q=(x+z*own)%gr.Q):
 aP gr [aP gr [av gr gr.G w,av gr c0 x],av gr c1 z]=aP gr [av gr gr.G BD,av gr c0 xr]:=by
 obtain⟨n1,h2⟩:=ek h2;obtain⟨n2,h3⟩:=ek h3;rw[h0,h1,show av gr gr.G w=pg gr w from rfl,show av gr gr.G BD=pg gr BD from rfl,g8 k,g8 k,g8 k,gM k,gM k,gM k];exact Ad _ (zFy h2 h3)
end
section
variable {gr:am}{key:Int}{B:cr}{l:List an}{perm rs s t w x:List Int}{a b d f:Int}
variable{i:Nat}{z:Int}
def Ds{F:Nat->Int}{n:Nat}(hi:i<n):((List.range n).map F).getD i 0=F i:=kF F hi
def zGN{n:Nat}{e own:List Int}(hi:i<n):(vn gr z n e own rs s t w x a b d f).getD (4+i) 0=(w.getD i 0+z*t.getD i 0)%gr.Q:=by
 unfold vn;rw[ti (by simp;omega),sP (i:=4+i) (j:=i) rfl,Ds hi];rfl
def zEF{n:Nat}{e own:List Int}:(vn gr z n e own rs s t w x a b d f).drop (n+4)=(List.range n).map (rsF gr.Q z x own):=by
 unfold vn;exact OO (by simp)
def TE{h:Int}{es ts:List Int}(hi:i<es.length):(zcp gr h es ts).getD i 0=hN gr h es ts (i+1):=Ds hi
def zBX{h:Int}{es ts:List Int}(hi:i<=es.length):bef h (zcp gr h es ts) i=hN gr h es ts i:=by
 unfold bef;cases i with
 |zero=>rfl
 |succ i=>rw[sP (a:=[h]) (j:=i) (by simp;omega),TE (by omega)]
def zEX(k:ao gr)(P:dS gr key B l perm rs s t w x a b d f)(z:Int):aP gr [av gr gr.G a,av gr (aP gr [aP gr (zez gr B.Hs perm s),av gr (aP gr B.Hs) (-1)]) z]=av gr gr.G ((a+z*smN gr.Q s l.length)%gr.Q):=by
 have hq:=k.q;have dN:=P.m.pl;have MQ:=P.bs.l;have gQ:=(P.fS k).1;obtain⟨cx,c1,c2⟩:=ZW k (ss:=s) P.m.pb P.KP (by omega) P.bs.s;have c3:=c2 (λ_=>1);simp only[UB]at c3;refine zJJ k (cx:=cx) (ex:=λi=>dl gr (B.Hs.getD i 0)) (Ss:=ce (λj=>s.getD j 0) perm.length) (λj hj=>c1 j (by omega)) (λj hj=>j7 k (eB P.bs.s hj)) ?_ (eM _ _) ?_
 ·rw[gQ,MQ,<-dN];exact c3
 rw[<-dN];exact VS (by omega) s _
def Pj(P:dS gr key B l perm rs s t w x a b d f)(hi:i<perm.length):((List.range l.length).map (rsF gr.Q z x (pmO gr key B l perm rs s))).getD i 0%gr.Q=(x.getD i 0+z*(pmE gr key B l perm rs s).getD (perm.getD i 0).toNat 0)%gr.Q:=by
 have dN:=P.m.pl;rw[Ds (by omega)];unfold rsF pmO;rw[eM,YY hi]
def zHV(k:ao gr)(P:dS gr key B l perm rs s t w x a b d f)(z:Int):aP gr [aP gr [av gr gr.G b,zaO gr B.Hs x 1],av gr (zaO gr (zez gr B.Hs perm s) (pmE gr key B l perm rs s) 1) z]=aP gr [av gr gr.G ((b+z*dtN gr.Q s (pmE gr key B l perm rs s) l.length)%gr.Q),zaO gr B.Hs ((List.range l.length).map (rsF gr.Q z x (pmO gr key B l perm rs s))) 1]:=by
 have hq:=k.q;have dN:=P.m.pl;have MQ:=P.bs.l;have gQ:=(P.fS k).1;have rB:=(P.e k).1;have g9:=P.c.x.1;obtain⟨cx,c1,c2⟩:=ZW k (ss:=s) P.m.pb P.KP (by omega) P.bs.s;have c3:=c2 (λj=>(pmE gr key B l perm rs s).getD j 0);refine zMu k (cx:=cx) (ex:=λi=>dl gr (B.Hs.getD i 0)) (D:=dtN gr.Q s (pmE gr key B l perm rs s) l.length) (λj hj=>c1 j (by omega)) (λj hj=>j7 k (eB P.bs.s hj)) (by omega) (by omega) (by simp;omega) (SsU:=ce (λj=>s.getD j 0*(pmE gr key B l perm rs s).getD j 0) perm.length) (SeU:=ce (λi=>dl gr (B.Hs.getD i 0)*(pmE gr key B l perm rs s).getD (perm.getD i 0).toNat 0) perm.length) ?_ (eM _ _) ?_ ?_
 ·rw[gQ,<-dN];exact c3
 ·rw[<-dN];exact MW (by omega) _ _ _
 rw[MQ,<-dN];exact zHa λi hi=>by rw[dN];exact Pj P hi
def zHQ(k:ao gr)(P:dS gr key B l perm rs s t w x a b d f)(z:Int):aP gr [av gr gr.G d,av gr (aP gr [(zcp gr B.H (pmO gr key B l perm rs s) t).getD (l.length-1) 0,av gr B.H (0-alN gr.Q (pmE gr key B l perm rs s) (pmE gr key B l perm rs s).length)]) z]=av gr gr.G ((d+z*yN gr.Q (pmO gr key B l perm rs s) t l.length)%gr.Q):=by
 have hn:=P.m.n;have dN:=P.m.pl;have rB:=(P.e k).1;have hol:=(P.o k).1;have hH:=j7 k P.bs.h;have Be:=zBF P.m.pb gr.Q (pmE gr key B l perm rs s);rw[TE (by omega),show l.length-1+1=l.length by omega,rB];refine zL3 k hH (KZ k hH _ _ _) ?_ (eM _ _);have:=Wg (q:=gr.Q) (dl gr B.H) (pmO gr key B l perm rs s) t l.length;rw[this];unfold pmO;rw[<-dN,Be]
def XB(k:ao gr)(P:dS gr key B l perm rs s t w x a b d f):dtN gr.Q rs (pmO gr key B l perm rs s) l.length%gr.Q=ce (λi=>rs.getD i 0*(pmE gr key B l perm rs s).getD (perm.getD i 0).toNat 0) perm.length%gr.Q:=by
 have hq:=k.q;rw[MW (by omega),<-P.m.pl];refine gn (· %gr.Q) (Bs _ λi hi=>?_);unfold pmO;rw[YY hi]
def Xk(k:ao gr)(P:dS gr key B l perm rs s t w x a b d f)(z:Int):
 aP gr [aP gr [av gr gr.G (i64.wrap (0-f)),zaO gr (sdV (zaR gr key l perm rs)).1 x 1],av gr (zaO gr (sdV l).1 (pmE gr key B l perm rs s) 1) z]=aP gr [av gr gr.G (i64.wrap (0-(f+z*dtN gr.Q rs (pmO gr key B l perm rs s) l.length)%gr.Q)),zaO gr (sdV (zaR gr key l perm rs)).1 ((List.range l.length).map (rsF gr.Q z x (pmO gr key B l perm rs s))) 1]/\
 aP gr [aP gr [av gr key (i64.wrap (0-f)),zaO gr (sdV (zaR gr key l perm rs)).2 x 1],av gr (zaO gr (sdV l).2 (pmE gr key B l perm rs s) 1) z]=aP gr [av gr key (i64.wrap (0-(f+z*dtN gr.Q rs (pmO gr key B l perm rs s) l.length)%gr.Q)),zaO gr (sdV (zaR gr key l perm rs)).2 ((List.range l.length).map (rsF gr.Q z x (pmO gr key B l perm rs s))) 1]:=by
 have hq:=k.q;have dN:=P.m.pl;have rB:=(P.e k).1;have g9:=P.c.x.1;have eW:=mH l;have lO:=mH (zaR gr key l perm rs);rw[kO]at lO;have hf:=G1 k P.c.f;have hF:i64.wrap (0-(f+z*dtN gr.Q rs (pmO gr key B l perm rs s) l.length)%gr.Q)=0-(f+z*dtN gr.Q rs (pmO gr key B l perm rs s) l.length)%gr.Q:=G1 k (gf (by omega) _);refine⟨K0 k (perm:=perm) (b0:=1) (Sl k).symm P.m.pb (by omega) lO.1 (by omega) (by omega) (by simp;omega) (al:=λj=>dl gr (l.getD j c0).A) (U:=λj=>(pmE gr key B l perm rs s).getD j 0) (o:=λi=>dl gr (l.getD (perm.getD i 0).toNat c0).A+1*rs.getD i 0) (rs:=λi=>rs.getD i 0) (λj hj=>?_) (λ_ _=>rfl) (λi hi=>(zw k P.m hi).1) (λ_ _=>rfl) (λi hi=>Pj P hi) (eM _ _) (XB k P) hf hF,K0 k (perm:=perm) (b0:=dl gr key) (j7 k P.m.key) P.m.pb (by omega) lO.2 (by omega) (by omega) (by simp;omega) (al:=λj=>dl gr (l.getD j c0).B) (U:=λj=>(pmE gr key B l perm rs s).getD j 0) (o:=λi=>dl gr (l.getD (perm.getD i 0).toNat c0).B+dl gr key*rs.getD i 0) (rs:=λi=>rs.getD i 0) (λj hj=>?_) (λ_ _=>rfl) (λi hi=>(zw k P.m hi).2) (λ_ _=>rfl) (λi hi=>Pj P hi) (eM _ _) (XB k P) hf hF⟩
 ·rw[(I7 (by omega)).1];exact j7 k (Jq P.m.c (by omega)).1
 rw[(I7 (by omega)).2];exact j7 k (Jq P.m.c (by omega)).2
def zFq(k:ao gr)(P:dS gr key B l perm rs s t w x a b d f)(z:Int)(hi:i<l.length):aP gr [zj8 gr B.H (pmO gr key B l perm rs s) t w x i,av gr ((zcp gr B.H (pmO gr key B l perm rs s) t).getD i 0) z]=aP gr [av gr gr.G ((w.getD i 0+z*t.getD i 0)%gr.Q),av gr (bef B.H (zcp gr B.H (pmO gr key B l perm rs s) t) i) (((List.range l.length).map (rsF gr.Q z x (pmO gr key B l perm rs s))).getD i 0)]:=by
 have hol:=(P.o k).1;have hH:=j7 k P.bs.h;rw[TE (by omega),zBX (by omega),Ds hi];exact zK2 k (KZ k hH _ _ _) (KZ k hH _ _ (i+1)) (eM _ _) (eM _ _)
def zCv(k:ao gr)(P:dS gr key B l perm rs s t w x a b d f):∀z∈pmC gr key B l perm rs s t w x a b d f,aK gr z=Z:=by
 have dN:=P.m.pl;have g9:=P.c.x.1;have MQ:=P.bs.l;have kA:(zaR gr key l perm rs).length=l.length:=by rw[kO,P.m.pl]
 have eW:=mH (zaR gr key l perm rs)
 have d1:aK gr (zaO gr (sdV (zaR gr key l perm rs)).1 x 1)=Z:=by
  rw[tI k (f:=λi=>dl gr (l.getD (perm.getD i 0).toNat c0).A+1*rs.getD i 0) (by omega) λi hi=>(zw k P.m (by omega)).1];exact ES k _
 have d2:aK gr (zaO gr (sdV (zaR gr key l perm rs)).2 x 1)=Z:=by
  rw[tI k (f:=λi=>dl gr (l.getD (perm.getD i 0).toNat c0).B+dl gr key*rs.getD i 0) (by omega) λi hi=>(zw k P.m (by omega)).2];exact ES k _
 have d3:aK gr (zaO gr B.Hs x 1)=Z:=by
  rw[tI k (f:=λi=>dl gr (B.Hs.getD i 0)) (by omega) λi hi=>j7 k (eB P.bs.s hi)];exact ES k _
 have g:=nK k;unfold pmC yu;refine jB (UV (kH k g _) (qN k (kH k g _) d3) (kH k g _) (qN k (kH k g _) d1) (qN k (kH k P.m.key _) d2)) (m9 λi hi=>?_);exact qN k (kH k g _) (kH k (Rr k P.bs.h _ _ _) _)
def zE7(k:ao gr)(P:dS gr key B l perm rs s t w x a b d f):oK gr l.length (ke gr key B l perm rs s t w x a b d f)=Z:=by
 have hq:=k.q;have cM:0<gr.Q:=by omega
 have hr:∀(z:Int) (w t:List Int) (n:Nat),∀y∈(List.range n).map (rsF gr.Q z w t),E9 gr.Q y:=λz w t n=>m9 λi _=>by unfold rsF;exact gf cM _
 have h4:∀y∈(ke gr key B l perm rs s t w x a b d f).Pi.aD,E9 gr.Q y:=by
  refine jB (jB (λy hy=>?_) (hr _ _ _ _)) (hr _ _ _ _);simp only[fK,jf,jg]at hy;rcases hy with rfl|rfl|rfl|rfl<;>exact gf cM _
 simp only[oK,bI,eC];exact⟨(P.fS k).1,(P.me k).1,(P.oM k).1,rfl,by simp[ke,vn];omega,bm.2 (P.fS k).2,bm.2 (P.me k).2,bm.2 (zCv k P),zAc h4⟩
def zFo(k:ao gr)(P:dS gr key B l perm rs s t w x a b d f):tB gr key B l (zaR gr key l perm rs) (ke gr key B l perm rs s t w x a b d f)=Z:=by
 have kA:(zaR gr key l perm rs).length=l.length:=by rw[kO,P.m.pl]
 have e1:wvE gr key l (zaR gr key l perm rs) (ke gr key B l perm rs s t w x a b d f)=pmE gr key B l perm rs s:=rfl;have e2:wvZ gr key l (zaR gr key l perm rs) (ke gr key B l perm rs s t w x a b d f)=pmZ gr key B l perm rs s t w x a b d f:=rfl;have e3:(ke gr key B l perm rs s t w x a b d f).Pi.aW.getD 0 0=pmZ gr key B l perm rs s t w x a b d f:=rfl;unfold tB;rw[t6 kA,zE7 k P,e1,e2,e3,a0L,gV,gV,gV];have hr:(ke gr key B l perm rs s t w x a b d f).Pi.aD=vn gr (pmZ gr key B l perm rs s t w x a b d f) l.length (pmE gr key B l perm rs s) (pmO gr key B l perm rs s) rs s t w x a b d f:=rfl;have C0:(ke gr key B l perm rs s t w x a b d f).Pi.aC=yu gr key B.Hs (zaR gr key l perm rs) x a b d f++(List.range l.length).map (zj8 gr B.H (pmO gr key B l perm rs s) t w x):=rfl;unfold mp m8;rw[hr,C0,zEF];generalize pmZ gr key B l perm rs s t w x a b d f=z;have gQ:(ke gr key B l perm rs s t w x a b d f).cu=zez gr B.Hs perm s:=rfl;have CC:(ke gr key B l perm rs s t w x a b d f).aF=zcp gr B.H (pmO gr key B l perm rs s) t:=rfl;rw[gQ,CC];refine bm.2 λi hi=>?_
 have hi:=kp.1 hi;unfold pC hlB;rw[wa];rcases i with _|_|_|_|_|j
 ·exact zEX k P z
 ·exact zHV k P z
 ·exact zHQ k P z
 ·exact(Xk k P z).1
 ·exact(Xk k P z).2
 have hj:j<l.length:=by omega
 rw[sP (i:=j+1+1+1+1+1) (j:=j) (by simp[yu];omega),sP (i:=j+1+1+1+1+1) (j:=j) (by simp[Ki];omega),sP (i:=j+1+1+1+1+1) (j:=j) (by simp[Dy];omega),Ds hj,Ds hj];unfold zjL;rw[zGN hj];exact zFq k P z hj
def zAW(k:ao gr)(P:dS gr key B l perm rs s t w x a b d f):EI gr B key l (zaR gr key l perm rs) (ke gr key B l perm rs s t w x a b d f)=J Z:=by
 rw[XI k P.m.key P.m.n P.m.c (uN k P.m) P.bs,zFo k P]
end
section
variable {gr:am}{key:Int}{l:List an}{perm rs:List Int}
def MI(m:ni gr key l perm rs):fG gr key l=Z/\kd gr l.length perm rs=Z:=A4.1 (N3.2 m)
def Uc(k:ao gr)(m:ni gr key l perm rs):(cX 1 12 (zaR gr key l perm rs).length&&(zaR gr key l perm rs).all (b8 gr))=Z:=by
 have hn:=m.n;rw[kO,m.pl,bI];exact⟨by simp[cX];omega,bm.2 (uN k m)⟩
def zFf(k:ao gr){B:cr}(hB:lw gr (l.length:Int)=J (B,Z))(bs:tU gr l.length B)(m:ni gr key l perm rs){aH:List Int}(hl:aH.length=4*l.length+4)(he:aH.all (di gr)=Z):∃p,pP gr key l perm rs aH=J (p,Z)/\tn gr key l (zaR gr key l perm rs) p=J (Z,Z):=by
 have hq:=k.q;have hp:=k.p;have hn:=m.n;obtain⟨h1,h2⟩:=MI m
 have w4:i64.wrap (i64.wrap (4*(l.length:Int))+4)=((4*l.length+4:Nat):Int):=by
  rw[aI (n:=4*(l.length:Int)) (by omega) (by omega)];exact cL (by omega) (by omega)
 have e3:((aH.length:Int) !=((4*l.length+4:Nat):Int))=aa:=by rw[hl];simp
 have qW:=yt (gr:=gr) (by omega) (by omega) aH;rw[he]at qW;obtain⟨s,t,w,x,a,b,d,f,rfl,hC⟩:=UM hl he;have P:dS gr key B l perm rs s t w x a b d f:=⟨m,bs,hC⟩
 refine⟨ke gr key B l perm rs s t w x a b d f,?_,?_⟩
 ·unfold pP;rw[vf k key l hB,h1,yP k (by omega),show(decide (perm.length=l.length)&&d5 perm&&(decide (rs.length=l.length)&&rs.all (di gr)))=kd gr l.length perm rs from rfl,h2,w4,e3,qW];exact bE (ag rfl (ay (ψ:=(· =aa)) (bt rfl (ag rfl (bt rfl (bt rfl (ag rfl (aj rfl)))))) λb hb=>by subst hb;exact bt rfl (ag (UN k P) (aj rfl))))
 unfold tn;rw[vf k key l hB,h1,xt k,Uc k m];exact bE (ag rfl (ay (ψ:=(· =aa)) (bt rfl (ag rfl (aj rfl))) λb hb=>by subst hb;exact bt rfl (ag (zAW k P) (aj rfl))))
def zFW(k:ao gr)(hd:okD gr=Z)(m:ni gr key l perm rs){aH:List Int}(hl:aH.length=8*l.length+2)(he:aH.all (di gr)=Z):∃p,rR gr key l perm rs aH=J (p,Z)/\tP gr key l (zaR gr key l perm rs) p=J (Z,Z):=by
 have hq:=k.q;have hp:=k.p;have hn:=m.n;obtain⟨h1,h2⟩:=MI m;obtain⟨B,b1,b2,b3,b4⟩:=Bl k hd key (l:=l) (by omega)
 have w8:i64.wrap (i64.wrap (8*(l.length:Int))+2)=((8*l.length+2:Nat):Int):=by
  rw[aI (n:=8*(l.length:Int)) (by omega) (by omega)];exact cL (by omega) (by omega)
 have e3:((aH.length:Int) !=((8*l.length+2:Nat):Int))=aa:=by rw[hl];simp
 have qW:=yt (gr:=gr) (by omega) (by omega) aH;rw[he]at qW;obtain⟨C,rfl,hC⟩:=WX (q:=gr.Q) hl (zp he);have P:gT gr key B.H l perm rs C:=⟨m,b3,hC⟩
 refine⟨iX gr key B.H l perm rs C,?_,?_⟩
 ·unfold rR;rw[b4,h1,yP k (by omega),show(decide (perm.length=l.length)&&d5 perm&&(decide (rs.length=l.length)&&rs.all (di gr)))=kd gr l.length perm rs from rfl,h2,w8,e3,qW];exact bE (ag rfl (ay (ψ:=(· =aa)) (bt rfl (ag rfl (bt rfl (bt rfl (ag rfl (aj rfl)))))) λb hb=>by subst hb;exact bt rfl (ag (Wo k P) (aj rfl))))
 unfold tP;rw[b4,h1,xt k,Uc k m];exact bE (ag rfl (ay (ψ:=(· =aa)) (bt rfl (ag rfl (aj rfl))) λb hb=>by subst hb;exact bt rfl (ag (zAT k P) (aj rfl))))
end
def ja(l:List an):List Int:=(l.length:Int)::l.flatMap λc=>[c.A,c.B]
def fR(L:List (List Int)):List Int:=(L.length:Int)::L.flatMap da
def V3(l:List an):(l.flatMap λc=>[c.A,c.B]).length=2*l.length:=by
 induction l with
 |nil=>rfl
 |cons e l ih=>show([e.A,e.B]++l.flatMap λc=>[c.A,c.B]).length=_;rw[bP,ih];simp;omega
def zBB(l:List an):(ja l).length=2*l.length+1:=by unfold ja;rw[dX,V3]
def SO(L:List (List Int))(i:Nat):((L.take i).flatMap da).length<=(L.flatMap da).length:=by
 have h:(L.take i).flatMap da++(L.drop i).flatMap da=L.flatMap da:=by rw[<-KM,Df]
 rw[<-h,bP];omega
def WA{L:List (List Int)}{i:Nat}(hi:i<L.length):L[i].length+1<=(L.flatMap da).length:=by
 have h:=SO L (i+1);rw[iO hi,KM,bP]at h;have e:([L[i]].flatMap da).length=L[i].length+1:=by simp[da]
 omega
def zB2{L:List (List Int)}(h:(fR L).length<=400)(hd:(fR L).all cC=Z):y6 L=J (fR L,Z):=by
 have hn:(L.flatMap da).length+1<=400:=by simpa[fR]using h
 unfold y6
 have e:aS (σ:=(List Int)) (β:=(List Int) ⊕ (List Int×Bool)) (λi5 s4=>(ix L i5).bind λaU=>(yp aU).bind λbH=>
  gd ((s4.length+bH.length)*8<=140737488355328/\s4.length+bH.length<=4611686018427387904)<|
  if decide (400<((s4++bH).length:Int))=Z then(J (.out (.inr ([],aa))))else(J (.go (s4++bH)))) (λs4=>.inl s4) (L.length) 0 [(L.length:Int)]=J (.inl (fR L)):=by
  refine bE (ec (λi s=>s=(L.length:Int)::(L.take i).flatMap da/\i<=L.length) ⟨rfl,by omega⟩ ?_ λs h=>by rw[h.1,f6];rfl);rintro i s hi ⟨rfl,_⟩;have h1:=SO L (i+1);have h2:=WA hi
  have e1:(L.length:Int)::(L.take i).flatMap da++da L[i]=(L.length:Int)::(L.take (i+1)).flatMap da:=by
   rw[iO hi,KM];simp
  have e2:=gn List.length e1;rw[bP,dX,dX]at e2;refine bD hi (ag (H3 (by omega)) (aG (by rw[dX];omega) (bt ?_ (aj ⟨e1,by omega⟩))));rw[bP,dX];exact De (by omega)
 have hr:eN (fR L)=Z:=by unfold eN;rw[hd,t6 (by omega)];rfl
 have a1m:Aw (fR L)=J (fR L,Z):=by rw[L7,aB hr]
 rw[e,aR,Sum.elim_inl,a1m,aR]
def zBs(p:bZ):(iH p).length=p.aC.length+p.aW.length+p.aD.length+3:=by simp[iH,da];omega
def Kh(p:bZ):Bool:=((p.aC.length:Int)==0)&&(((p.aW.length:Int)==0)&&((p.aD.length:Int)==0))
section
variable {gr:am}
def Zq(p:bZ):Fy p=J (Kh p):=by
 unfold Fy;rw[TO,TO];rfl
def Y9{p:bZ}(h1:p.aC.length<=1048576)(h2:p.aW.length<=1048576)(h3:p.aD.length<=1048576):Dv p=J (Kh p):=by
 unfold Dv Kh;rw[aI (n:=(p.aC.length:Int)+(p.aW.length:Int)) (by omega) (by omega),aI (n:=(p.aC.length:Int)+(p.aW.length:Int)+(p.aD.length:Int)) (by omega) (by omega)];congr 1;rw[UJ];simp only[bI,wa];omega
end
variable{L:List (List Int)}
def ED(a:Int)(R:List Int)(b:Bool):v4 (a::R) b=J (a,(R,b)):=by
 unfold v4;rw[az (by simp;omega)];refine bE (ag (a:=a) rfl (aG (by simp) (aj ?_)));rw[f6];rfl
def NQ{p R:List Int}(hp:p.length<=1000)(hR:R.length<=1000):tH (da p++R) Z=J (p,(R,Z)):=by
 unfold tH;have e:da p++R=(p.length:Int)::(p++R):=rfl;rw[e,ED,aR,tS];have hl:(p++R).length=p.length+R.length:=bP;have h1:(decide (0<=(p.length:Int))&&decide ((p.length:Int)<=((p++R).length:Int)))=Z:=by simp;omega
 dsimp only;rw[h1];refine bE (ag rfl (bt rfl (aG (by omega) (aG (by rw[dG];omega) (ag (a:=p) ?_ (aG (by omega) (aG (by rw[dG];omega) (aj ?_))))))))
 ·unfold u0;rw[dG,OH,List.take_left,eE (by omega)]
 rw[dG,f6,Oz]
theorem zAs:yW [] Z=J Z:=rfl
def zGl{l:List Int}(h:l.length<=400)(hd:l.all cC=Z):eN l=Z:=by unfold eN;rw[hd,t6 (by omega)];rfl
def zDS(h:(fR L).length<=400)(hd:(fR L).all cC=Z):Aq (fR L)=J (L,Z):=by
 have hn:(L.flatMap da).length+1<=400:=by simpa[fR]using h
 have hlen:L.length<=(L.flatMap da).length:=by
  clear h hd hn;induction L with
  |nil=>simp
  |cons p L ih=>rw[Dd,bP,dX];show L.length+1<=(p.length+1)+(L.flatMap da).length;omega
 unfold Aq;rw[Ha,zGl h hd,aR];have e:fR L=(L.length:Int)::L.flatMap da:=rfl
 have Qd:(if((fR L).length:Int)<(L.length:Int)then((fR L).length:Int)else(L.length:Int))=(L.length:Int):=by
  rw[az (by rw[e,dX];omega)]
 have hw:dJ (σ:=(List Int×Bool)×(List (List Int))×Int) (λdx=>
  if decide (dx.2.2<(L.length:Int))=Z then(
  (tH dx.1.1 dx.1.2).bind λiT=>
  gd ((dx.2.1.length+1)*24<=140737488355328/\dx.2.1.length+1<=4611686018427387904)<|
  J (.go ((iT.2.1,iT.2.2),dx.2.1++[iT.1],i64.wrap (dx.2.2+1))))else(
  J (.out ((dx.1.1,dx.1.2),dx.2.1)))) ((L.flatMap da,Z),[],0)=J (([],Z),L):=by
  refine bE (kK L.length (λi s=>s=(((L.drop i).flatMap da,Z),L.take i,(i:Int))/\i<=L.length) ⟨rfl,by omega⟩ ?_ ?_)
  ·rintro i s hi ⟨rfl,_⟩;have ku:(L.drop i).flatMap da=da L[i]++(L.drop (i+1)).flatMap da:=by rw[OD hi,Dd]
   have cV:((L.drop i).flatMap da).length<=(L.flatMap da).length:=by
    have h:(L.take i).flatMap da++(L.drop i).flatMap da=L.flatMap da:=by rw[<-KM,Df]
    rw[<-h,bP];omega
   rw[ku,bP]at cV;have sM:=WA hi;refine fV (by simpa using hi) (ag (a:=(L[i],((L.drop (i+1)).flatMap da,Z))) (by dsimp only;rw[ku];exact NQ (by omega) (by omega)) (aG (by rw[nv];omega) (aj ⟨?_,by omega⟩)));dsimp only;rw[iO hi,aI (n:=(i:Int)+1) (by omega) (by omega)];rfl
  ·rintro s ⟨rfl,_⟩;refine bt (by simp) (aj ?_);show((((L.drop L.length).flatMap da,Z),L.take L.length):(List Int×Bool)×List (List Int))=_;rw[List.drop_length,f6];rfl
 refine bE (ag (a:=((L.length:Int),(L.flatMap da,Z))) (by rw[e];exact ED _ _ _) (ag (a:=(([],Z),L)) (by rw[Qd];exact hw) (ag (zB2 h hd) (ay (ψ:=(· =aa)) (ag zAs (bt rfl (bt rfl (ag (Hv _ _) (aj (by simp)))))) ?_))));rintro _ rfl;exact bt rfl (aj rfl)
def zGs(l:List an):Hy l l=J Z:=by
 unfold Hy;refine bE (bt (by simp) (ay (ψ:=λv=>v=.inl ()) (ec (λ_ _=>True) trivial ?_ λs _=>rfl) ?_))
 ·rintro i s hi _;exact bD hi (bD hi (bt (by simp) (aj trivial)))
 rintro _ rfl;exact aj rfl
def CX{l:List Int}:eN l=Z↔l.length<=400/\l.all cC=Z:=by
 unfold eN;rw[bI,eC];constructor<;>rintro⟨a,b⟩<;>exact⟨by omega,b⟩
def zBA(p:bZ):iH p=da p.aC++(da p.aW++(da p.aD++[])):=by simp[iH]
def zAG(h1:L.length<=1048576)(h2:∀p∈L,p.length<=1048576):y6 L=J (if eN (fR L)=Z then(fR L,Z)else([],aa)):=by
 unfold y6;refine bE (ay (ψ:=λc=>c=.inl (fR L)\/(c=.inr ([],aa)/\eN (fR L)=aa)) (ec (λi s=>s=(L.length:Int)::(L.take i).flatMap da/\(s.length<=400)) ⟨rfl,by simp⟩ ?_ λs h=>.inl (by rw[h.1,f6];rfl)) ?_)
 ·rintro i s hi ⟨rfl,hs⟩;have hx:=h2 _ (e9 hi)
  have e1:(L.length:Int)::(L.take i).flatMap da++da L[i]=(L.length:Int)::(L.take (i+1)).flatMap da:=by
   rw[iO hi,KM];simp
  have hc:(da L[i]).length=L[i].length+1:=rfl;refine bD hi (ag (H3 (by omega)) (aG (by rw[hc];omega) ?_));rw[e1];refine aZ (λh=>aj (.inr ⟨rfl,?_⟩)) λh=>aj ⟨rfl,by have:=Uz h;omega⟩
  have hg:=wg h;have:=SO L (i+1);cases hr:eN (fR L)with
  |false=>rfl
  |true=>
   have:=(CX.1 hr).1;unfold fR at this;rw[dX]at this hg;omega
 rintro c (rfl|⟨rfl,hr⟩)
 ·rw[Sum.elim_inl,L7,aR];exact aj (by split<;>rfl)
 exact aj (by rw[hr];rfl)
def Vo(R:List Int)(b:Bool):Rn (v4 R b) λy=>y.2.1.length<=R.length:=by
 cases R with
 |nil=>exact⟨_,rfl,by simp⟩
 |cons a R=>exact⟨_,ED a R b,by simp⟩
def zIg{R:List Int}(h:R.length<=1048576)(b:Bool):Rn (tH R b) λy=>y.1.length<=R.length/\y.2.1.length<=R.length:=by
 unfold tH;refine ay (Vo R b) λy hy=>ag (tS _ _ _) (aZ (λ_=>aj ⟨by simp,hy⟩) λh2=>?_)
 have h2:0<=y.1/\y.1<=(y.2.1.length:Int):=by simpa using h2
 have hl:((y.2.1.take y.1.toNat).drop 0).length<=R.length:=by rw[OH,nv];omega
 refine aG h2.1 (aG (by omega) (ag (zBJ (by omega)) (aG h2.1 (aG (by omega) (aj ⟨hl,?_⟩)))));dsimp only;rw[OJ,nv];omega
def Vg(R:List Int)(b:Bool):yW R b=J (b&&((R.length:Int)==0)):=by
 unfold yW;cases b<;>rfl
def zHo{l:List Int}(hl:l.length<=1048576):Rn (Aq l) λy=>y.2=Z->eN l=Z/\l=fR y.1:=by
 unfold Aq;refine ag (Ha l) (ay (Vo l _) λz hz=>?_);obtain⟨M,hM⟩:∃M:Int,M=if(l.length:Int)<z.1 then(l.length:Int)else z.1:=⟨_,rfl⟩
 rw[<-hM];have hM2:M<=l.length:=by rw[hM];split<;>omega
 refine ay (ψ:=λc=>c.2.length<=1048576/\∀p∈c.2,p.length<=1048576) (kK M.toNat (λi s=>s.2.2=(i:Int)/\s.2.1.length=i/\s.1.1.length<=1048576/\∀p∈s.2.1,p.length<=1048576) ⟨rfl,rfl,by dsimp only;omega,λp h=>by cases h⟩ ?_ ?_) ?_
 ·rintro i ⟨⟨R,b⟩,o,k⟩ hi ⟨e1,h2,h3,h4⟩;have e1:k=(i:Int):=e1;subst e1;have h2:o.length=i:=h2;refine fV (t6 (by dsimp only;omega)) (ay (zIg h3 b) λy hy=>aG (by dsimp only;omega) (aj ⟨?_,?_,gj hy.2 h3,λp hp=>?_⟩))
  ·show i64.wrap ((i:Int)+1)=_;rw[aI (by omega) (by omega)];rfl
  ·show(o++[y.1]).length=i+1;rw[bP,h2];rfl
  rcases jY.1 hp with h|h
  ·exact h4 p h
  rw[gB.1 h];exact gj hy.1 h3
 ·rintro⟨⟨R,b⟩,o,k⟩ ⟨e1,h2,h3,h4⟩;have e1:k=(M.toNat:Int):=e1;subst e1;have h2:o.length=M.toNat:=h2;exact bt (De (by dsimp only;omega)) (aj ⟨by dsimp only;omega,h4⟩)
 rintro c ⟨c1,c2⟩;refine ag (zAG c1 c2) (ay (ψ:=λb=>b=aa->eN (fR c.2)=Z/\fR c.2=l) (ag (Vg _ _) (aZ (λ_=>aj (by simp)) λ_=>aZ (λ_=>aj (by simp)) λh2=>ag (Hv _ _) (aj λe=>?_))) ?_)
 ·cases hr:eN (fR c.2)with
  |false=>rw[hr]at h2;cases h2
  |true=>
   rw[hr]at e;exact⟨rfl,by simpa using e⟩
 intro b hb;refine aZ (λh=>aj (by simp)) λh=>aj λ_=>?_
 obtain⟨h1,h2⟩:=hb h;rw[<-h2];exact⟨h1,rfl⟩
def zxk{l:List an}(hl:l.length<=1048576):EA l=J (if eN (ja l)=Z then(ja l,Z)else([],aa)):=by
 unfold EA;refine bE (ay (ψ:=(· =ja l)) (ec (λi s=>s=(l.length:Int)::((l.take i).flatMap λc=>[c.A,c.B])) rfl ?_ λs h=>by rw[h,f6];rfl) ?_)
 ·rintro i s hi rfl;have hn:=V3 (l.take i);rw[nv]at hn;refine bD hi (aG (by rw[dX];omega) (aj ?_));show(l.length:Int)::_++_=(l.length:Int)::_;rw[iO hi,KM];rfl
 rintro _ rfl;exact ag (L7 _) (aj (by cases eN (ja l)<;>rfl))
def zCY{l:List an}(h:eN (ja l)=Z):Iv (ja l)=J (l,Z):=by
 have hn:=zBB l;have hl:=(CX.1 h).1;have e:ja l=(l.length:Int)::l.flatMap (λc=>[c.A,c.B]):=rfl;have Qd:(if((ja l).length:Int)<(l.length:Int)then((ja l).length:Int)else(l.length:Int))=(l.length:Int):=az (by omega);unfold Iv;refine bE (ag (Ha _) (ag (a:=((l.length:Int),(l.flatMap (λc=>[c.A,c.B]),Z))) (by rw[h,e];exact ED _ _ _) ?_));dsimp only;rw[Qd];refine ay (ψ:=(· =(([],Z),l))) (kK l.length (λi s=>s=(((l.drop i).flatMap (λc=>[c.A,c.B]),Z),l.take i,(i:Int))/\i<=l.length) ⟨rfl,by omega⟩ ?_ ?_) ?_
 ·rintro i s hi ⟨rfl,_⟩;have ku:(l.drop i).flatMap (λc=>[c.A,c.B])=l[i].A::l[i].B::(l.drop (i+1)).flatMap (λc=>[c.A,c.B]):=by rw[OD hi,Dd];rfl
  refine fV (by simpa using hi) (ag (a:=(l[i].A,(l[i].B::(l.drop (i+1)).flatMap (λc=>[c.A,c.B]),Z))) (by dsimp only;rw[ku];exact ED _ _ _) (ag (ED _ _ _) (aG (by rw[nv];omega) (aj ⟨?_,by omega⟩))));dsimp only;rw[iO hi,aI (n:=(i:Int)+1) (by omega) (by omega)];rfl
 ·rintro s ⟨rfl,_⟩;refine bt (by simp) (aj ?_);show((((l.drop l.length).flatMap (λc=>[c.A,c.B]),Z),l.take l.length):(List Int×Bool)×List an)=_;rw[List.drop_length,f6];rfl
 rintro _ rfl;refine ag (zxk (l:=l) (by omega)) (ay (ψ:=(· =aa)) (ag (Vg _ _) (bt rfl (bt (by rw[h];rfl) (ag (Hv _ _) (aj (by simp[h])))))) ?_);rintro _ rfl;exact bt rfl (aj rfl)
def zDY{p:bZ}(h:eN (iH p)=Z):H4 (iH p)=J (p,Z):=by
 have hl:=(CX.1 h).1;have he:=zBs p;have h3:∀q:List Int,(da q).length=q.length+1:=λq=>rfl
 unfold H4;refine bE (ag (Ha _) ?_);rw[h,zBA];exact ag (NQ (by omega) (by rw[bP,bP,h3,h3];simp;omega)) (ag (NQ (by omega) (by rw[bP,h3];simp;omega)) (ag (NQ (by omega) (by simp)) (ag zAs (bt rfl (aj rfl)))))
def zDg(h:eN (fR L)=Z):Aq (fR L)=J (L,Z):=zDS (CX.1 h).1 (CX.1 h).2
theorem ND:((1:Int)==1)=Z:=rfl
theorem fL:((2:Int)==2)=Z:=rfl
def mB:¬((2:Int)==1)=Z:=by simp
abbrev mQ:en:=⟨0,[],⟨[],[],⟨[],[],[]⟩⟩,⟨[],[],[],⟨[],[],[]⟩⟩⟩
def zBx(l:List Int):G0 l=J (decide (l.length<=24)&&d5 l):=by
 unfold G0;by_cases h:l.length<=24
 ·have h2:decide ((l.length:Int)<=24)=Z:=by simp;omega
  rw[h2,aB rfl,aI (n:=(l.length:Int)-1) (by omega) (by omega),O4,zBo (by omega)];unfold d5;show Option.bind (Option.bind (J (l.all (cX 0 ((l.length:Int)-1)))) _) _=_;cases l.all (cX 0 ((l.length:Int)-1))<;>simp[h]
 have h2:decide ((l.length:Int)<=24)=aa:=by simp;omega
 simp[h2,h]
def my(arg:Int)(n:Nat):Nat:=if arg=1 then 5*n+4 else 9*n+2
def kQ(arg:Int):Bool:=arg==1||arg==2
def Kr(a:Int):D5 a=J (kQ a):=by
 unfold D5 kQ;cases a==1<;>rfl
def zEV(a:Int){n:Nat}(hn:n<=100):Hq a (n:Int)=J ((my a n:Nat):Int):=by
 unfold Hq my;by_cases h:a=1
 ·subst h;rw[aB ND,aB rfl,aI (n:=5*(n:Int)) (by omega) (by omega),aI (by omega) (by omega)];congr 1
 rw[az (by simpa using h),az h,aI (n:=9*(n:Int)) (by omega) (by omega),aI (by omega) (by omega)];congr 1
def Ra(a:Int){n:Nat}(hn:n<=100):Gp a (n:Int)=J (if(cX 1 12 n&&kQ a)=Z then(((my a n:Nat):Int),Z)else(0,aa)):=by
 unfold Gp;rw[rY,aR];show(if(!cX 1 12 (n:Int))=Z then _ else _)=_;cases cX 1 12 (n:Int)with
 |false=>rfl
 |true=>
  rw[wd,az (by simp),gV];unfold kQ my;by_cases h:a=1
  ·subst h;rw[aB ND,aB (show((1:Int)==1||(1:Int)==2)=Z from rfl),aB rfl,aI (n:=5*(n:Int)) (by omega) (by omega),aI (by omega) (by omega)];congr 2
  ·by_cases h2:a=2
   ·subst h2;rw[az mB,aB fL,aB (show((2:Int)==1||(2:Int)==2)=Z from rfl),az h,aI (n:=9*(n:Int)) (by omega) (by omega),aI (by omega) (by omega)];congr 2
   ·rw[az (by simpa using h),az (by simpa using h2),az (by simp[h,h2])]
structure T4 (gr:am) (key:Int) (l:List an) (arg:Int) (s:en):Prop where
 xk:ao gr
 xn:1<=l.length/\l.length<=12
 mb:fG gr key l=Z
 xo:∃perm rs,ni gr key l perm rs/\s.Out=zaR gr key l perm rs
 xa:s.dB=arg
 xm:arg=1->s.Poly=uL/\tn gr key l s.Out s.br=J (Z,Z)
 xp:arg=2->s.br=sC/\tP gr key l s.Out s.Poly=J (Z,Z)
 ar:kQ arg=Z
 ln:s.br.cu.length<=1000/\s.br.aF.length<=1000/\lp 1000 s.br.Pi/\s.Poly.bQ.length<=1000/\s.Poly.bL.length<=1000/\s.Poly.aF.length<=1000/\lp 1000 s.Poly.Pi
section
variable {gr:am}{key:Int}{l:List an}{perm rs:List Int}
def zEr(k:ao gr){B:cr}(hB:lw gr (l.length:Int)=J (B,Z))(m:ni gr key l perm rs){aH:List Int}(hl:aH.length=4*l.length+4)(he:aH.all (di gr)=aa):pP gr key l perm rs aH=J (sC,aa):=by
 have hq:=k.q;have hp:=k.p;have hn:=m.n;obtain⟨h1,h2⟩:=MI m
 have w4:i64.wrap (i64.wrap (4*(l.length:Int))+4)=((4*l.length+4:Nat):Int):=by
  rw[aI (n:=4*(l.length:Int)) (by omega) (by omega)];exact cL (by omega) (by omega)
 have e3:((aH.length:Int) !=((4*l.length+4:Nat):Int))=aa:=by rw[hl];simp
 have qW:=yt (gr:=gr) (by omega) (by omega) aH;rw[he]at qW;unfold pP;rw[vf k key l hB,h1,yP k (by omega),show(decide (perm.length=l.length)&&d5 perm&&(decide (rs.length=l.length)&&rs.all (di gr)))=kd gr l.length perm rs from rfl,h2,w4,e3,qW];exact bE (ag rfl (ay (ψ:=(· =Z)) (bt rfl (ag rfl (bt rfl (bt rfl (ag rfl (aj rfl)))))) λb hb=>by subst hb;exact fV rfl (aj rfl)))
def zEY(k:ao gr)(hd:okD gr=Z)(m:ni gr key l perm rs){aH:List Int}(hl:aH.length=8*l.length+2)(he:aH.all (di gr)=aa):rR gr key l perm rs aH=J (uL,aa):=by
 have hq:=k.q;have hp:=k.p;have hn:=m.n;obtain⟨h1,h2⟩:=MI m;obtain⟨B,b1,b2,b3,b4⟩:=Bl k hd key (l:=l) (by omega)
 have w8:i64.wrap (i64.wrap (8*(l.length:Int))+2)=((8*l.length+2:Nat):Int):=by
  rw[aI (n:=8*(l.length:Int)) (by omega) (by omega)];exact cL (by omega) (by omega)
 have e3:((aH.length:Int) !=((8*l.length+2:Nat):Int))=aa:=by rw[hl];simp
 have qW:=yt (gr:=gr) (by omega) (by omega) aH;rw[he]at qW;unfold rR;rw[b4,h1,yP k (by omega),show(decide (perm.length=l.length)&&d5 perm&&(decide (rs.length=l.length)&&rs.all (di gr)))=kd gr l.length perm rs from rfl,h2,w8,e3,qW];exact bE (ag rfl (ay (ψ:=(· =Z)) (bt rfl (ag rfl (bt rfl (bt rfl (ag rfl (aj rfl)))))) λb hb=>by subst hb;exact fV rfl (aj rfl)))
end
def QD{l:List Int}(n:Nat):(l.take n).drop 0=l.take n:=by rw[OH]
end Go.Pm
