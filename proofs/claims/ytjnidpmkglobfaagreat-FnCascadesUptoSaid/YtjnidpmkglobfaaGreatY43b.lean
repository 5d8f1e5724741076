/-
  FnCascades: plain laws.
  No condition.
-/
import Derived.Test.YtjnidpmkglobfaaGreatY43
open Bool renaming false→Z,true→O
open Option renaming some→J
set_option linter.defProp false
namespace Go.Pm
open Go.Am IntKind
def a5Y:=@Classical.choose_spec
set_option linter.unusedVariables false
set_option linter.unusedSimpArgs false
section
attribute [local irreducible] chG zim zdP zaP alN sdV wvL wvE wvZ
section
variable {gr:am}{key:Int}{B:ct}{l out:List ao}{p:cO}
def zBl(k:ap gr){h:Int}(K:aL gr h=O){ch x r e g:List Int}{n:Nat}(o:ch.length=n/\∀z∈ch,aL gr z=O)(U:x.length=n)(T:r.length=2*n+4)(S:n<=100)(P:e.length=5)(Q:g.length=5):aO (σ:=(List Int)×List Int×Int) (λj c=>
 (ix ch j).bind λD=>
 gd ((c.1.length+1)*8<=140737488355328/\c.1.length+1<=4611686018427387904)<|
 (ix r (i64.wrap (4+j))).bind λG=>
 (ix x j).bind λN=>
 (cF gr gr.G G).bind λE=>
 (cF gr c.2.2 N).bind λF=>
 (ep gr [E,F]).bind λM=>
 gd ((c.2.1.length+1)*8<=140737488355328/\c.2.1.length+1<=4611686018427387904)<|
 J (.go (c.1++[D],c.2.1++[M],D))) (λc=>(c.1,c.2.1)) ch.length 0 (e,g,h)=J (e++ch,g++(List.range n).map (zjf gr h ch x r)):=by
 refine bW (eI (λi y=>y=(e++ch.take i,g++(List.range i).map (zjf gr h ch x r),bef h ch i)) (by simp[bef]) ?_ ?_)
 ·rintro i y v rfl;have u:4+i<r.length:=by omega
  have m:i<x.length:=by omega
  have H:=(Fs k K o.2 i (by omega)).2;refine bB v (aJ (by simp;omega) ?_);rw[show i64.wrap (4+(i:Int))=((4+i:Nat):Int)from cU (by omega) (by omega)];refine bB u (bB m (ag (fy k (fR k) _) (ag (fy k H _) (ag (iZ k (bH k _ _) (bH k _ _)) (aJ (by simp;omega) (ak ?_))))));show _=_
  have I:bef h ch (i+1)=ch[i]:=by
   have:i+1<([h]++ch).length:=by simp;omega
   unfold bef;rw[bS this];rfl
  rw[nT v,ng,lN,I];simp only[jO,qP,zjf,bS u,bS m,gO]
 rintro y rfl;rw[jQ,o.1]
def Z1{P:Int->Prop}{a b c d e:Int}(j:P a)(k:P b)(m:P c)(o:P d)(r:P e):∀x∈[a,b,c,d,e],P x:=by
 intro x g;simp only[gp,kg,kh]at g;rcases g with rfl|rfl|rfl|rfl|rfl<;>assumption
set_option maxHeartbeats 4000000 in
def zF1(k:ap gr)(I:aL gr key=O)(hn:1<=l.length/\l.length<=12)(K:∀c∈l,b8 gr c=O)(M:∀c∈out,b8 gr c=O)(m:sG gr l.length B):Jm gr key B l out p=J (tV gr key B l out p):=by
 have hp:=k.p;have hq:=k.q;unfold Jm;refine bW (ax (ψ:=(· = !(decide (out.length=l.length)&&(oL gr l.length p&&(p.Pi.aX.getD 0 0==wvZ gr key l out p))))) ?_ ?_)
 ·rw[show((out.length:Int) !=(l.length:Int))= !decide (out.length=l.length)by rw[bne,iT]];refine aU (λg=>ak ?_) λg=>ag (zFv k (by omega) p) (aU (λj=>ak ?_) λj=>?_)
  ·have:decide (out.length=l.length)=Z:=by simpa using g
   rw[this];rfl
  ·have e:decide (out.length=l.length)=O:=by simpa using g
   have r:oL gr l.length p=Z:=by simpa using j
   rw[e,r];rfl
  have e:decide (out.length=l.length)=O:=by simpa using g
  have r:oL gr l.length p=O:=by simpa using j
  have V:=UO (p:=p) I hn K M m (zw e) r;have o:0<p.Pi.aX.length:=by rw[V.cS];omega
  exact bB (k:=0) o (ag (V.a5h k) (ak (by rw[e,r,bS o];rfl)))
 rintro b rfl;refine aU (λg=>ak ?_) λg=>?_
 ·rw[sr]at g;unfold tV;rw[<-Mr (oL gr l.length p),<-Mr,g];rfl
 rw[Bool.not_eq_false']at g;obtain⟨S,g23⟩:=B0.1 g;obtain⟨j,e⟩:=B0.1 g23;have V:=UO (p:=p) I hn K M m (zw S) j;have hv:tV gr key B l out p=(List.range (5+l.length)).all (qF gr (wvZ gr key l out p) p.Pi.aF (mX gr B l (wvE gr key l out p) p) (nH gr key B l.length out p)):=by unfold tV;rw[S,j,e];rfl
 rw[hv];obtain⟨tc,AZ⟩:=V.e k;have o:0<p.Pi.aX.length:=by rw[V.cS];omega
 have hz:p.Pi.aX[0]=wvZ gr key l out p:=by
  have:=eq_of_beq e
  rwa [bS o]at this
 have w4:i64.wrap ((l.length:Int)+4)=((l.length+4:Nat):Int):=cU (by omega) (by omega);have w1:i64.wrap ((l.length:Int)-1)=((l.length-1:Nat):Int):=cU (by omega) (by omega);have Ba:(p.Pi.aG.take p.Pi.aG.length).drop (l.length+4)=p.Pi.aG.drop (l.length+4):=by rw[jQ]
 have N:=V.rsp.1;have iy:(p.Pi.aG.drop (l.length+4)).length=l.length:=by rw[Wo,N];omega
 have D:=NS (show 1<gr.Q by omega) (wvE gr key l out p) (wvE gr key l out p).length;have wal:i64.wrap (0-alN gr.Q (wvE gr key l out p) (wvE gr key l out p).length)=0-alN gr.Q (wvE gr key l out p) (wvE gr key l out p).length:=aK (by have:=D.1;have:=D.2;omega) (by have:=D.1;omega);rw[w4,w1,dT,Ba];have Q:=sH k K;have mu:=sH k M;have tA:=m7 l;have hol:=m7 out;rw[V.ol]at hol;have hH:=d9 k m.h;have hK:=d9 k I;have u:=FF k m.s;have v:=FF k V.f8.2;have RG:=m.l;have ie:=V.f8.1;have a0t:=V.mJ.1;have a5Z:=V.o9.1;have r0:0<p.Pi.aG.length:=by omega
 have r1:1<p.Pi.aG.length:=by omega
 have r2:2<p.Pi.aG.length:=by omega
 have r3:3<p.Pi.aG.length:=by omega
 have E:l.length-1<p.aH.length:=by omega
 have yZ:=d9 k (iP V.mJ.2 E);have qB:=Fu k u;have qC:=Fu k v
 have G:mX gr B l (wvE gr key l out p) p=[aQ gr [aQ gr p.cC,av gr (aQ gr B.Hs) (-1)],zaP gr p.cC (wvE gr key l out p) 1,aQ gr [p.aH[l.length-1],av gr B.H (0-alN gr.Q (wvE gr key l out p) (wvE gr key l out p).length)],zaP gr (sdV l).1 (wvE gr key l out p) 1,zaP gr (sdV l).2 (wvE gr key l out p) 1]++p.aH:=by
  unfold mX Ji;rw[bS E]
 have U:∀y∈mX gr B l (wvE gr key l out p) p,R9 y:=by
  rw[G];intro y hy;rcases ke.1 hy with h|h
  ·exact Z1 (P:=R9) (ot k qC (bH k _ _)) (fO k _ _) (ot k yZ (bH k _ _)) (fO k _ _) (fO k _ _) y h
  ·exact d9 k (V.mJ.2 y h)
 have X:nH gr key B l.length out p=[av gr gr.G p.Pi.aG[0],aQ gr [av gr gr.G p.Pi.aG[1],zaP gr B.Hs (p.Pi.aG.drop (l.length+4)) 1],av gr gr.G p.Pi.aG[2],aQ gr [av gr gr.G (i64.wrap ((0:Int)-p.Pi.aG[3])),zaP gr (sdV out).1 (p.Pi.aG.drop (l.length+4)) 1],aQ gr [av gr key (i64.wrap ((0:Int)-p.Pi.aG[3])),zaP gr (sdV out).2 (p.Pi.aG.drop (l.length+4)) 1]]++(List.range l.length).map (zjf gr B.H p.aH (p.Pi.aG.drop (l.length+4)) p.Pi.aG):=by
  unfold nH FO;rw[bS r0,bS r1,bS r2,bS r3]
 have T:(mX gr B l (wvE gr key l out p) p).length=5+l.length:=by rw[G];simp[a0t];omega
 have hRl:(nH gr key B l.length out p).length=5+l.length:=by rw[X];simp;omega
 refine bB (k:=0) o ?_;rw[hz];refine aJ (by omega) (aJ (by omega) (ag (V.YC k).2 (ag (zyC k AZ) (ag (tB (by omega)).2 (ag (tB (by rw[V.ol];omega)).2 (bB E ?_))))));rw[wal];refine ag (LA k v) (ag (LA k u) (ag (zCu k qB.1 qB.2) (ag (iZ k qC (bH k _ _)) (ag (oZ k v (by omega)) (ag (fy k hH _) (ag (iZ k yZ (bH k _ _)) (ag (oZ k Q.1 (by omega)) (ag (oZ k Q.2 (by omega)) (bB (k:=0) r0 (bB (k:=1) r1 (bB (k:=2) r2 (bB (k:=3) r3 ?_))))))))))));refine ag (fy k (fR k) _) (ag (fy k (fR k) _) (ag (oZ k u (by omega)) (ag (iZ k (bH k _ _) (fO k _ _)) (ag (fy k (fR k) _) (ag (fy k (fR k) _) (ag (oZ k mu.1 (by omega)) (ag (iZ k (bH k _ _) (fO k _ _)) (ag (fy k hK _) (ag (oZ k mu.2 (by omega)) (ag (iZ k (bH k _ _) (fO k _ _)) (ag (a:=(mX gr B l (wvE gr key l out p) p,nH gr key B l.length out p)) ((zBl k m.h V.mJ iy N (by omega) rfl rfl).trans (by rw[G,X])) ?_)))))))))));dsimp only;generalize sO:wvZ gr key l out p=z;rw[sO]at*;generalize mX gr B l (wvE gr key l out p) p=L at T U;generalize nH gr key B l.length out p=R at hRl;refine⟨_,zBK (qF gr z p.Pi.aF L R) Z O λi H=>?_,?_⟩
 ·have F:i<p.Pi.aF.length:=by omega
  have Y:i<R.length:=by omega
  rw[hZ H,aP,hZ F,aP,hZ Y,aP,fy k (iP U H),aP,iZ k (d9 k (iP V.o9.2 F)) (bH k _ _),aP];unfold qF hlB;rw[bS H,bS F,bS Y,bne];cases (aQ gr [p.Pi.aF[i],av gr L[i] z]==R[i])<;>rfl
 rw[T];cases (List.range (5+l.length)).all (qF gr z p.Pi.aF L R)<;>rfl
def zJt(gr:am)(key:Int){l:List ao}(H:l.length<=20)(out:List ao)(p:cO):∃v t,t7 gr key l out p=J (v,t)/\HF gr key l out p=J (v,t):=by
 by_cases k:ap gr
 ·obtain⟨B,o,r,u,g⟩:=Td k (n:=l.length) (by omega);unfold t7 HF;rw[uE k key l u,uT k,uT k,xu k,r,show(aL gr key&&(di 1 12 l.length&&l.all (b8 gr)))=dm gr key l from rfl];cases F:dm gr key l
  ·exact⟨Z,Z,rfl,rfl⟩
  have m:=F;simp only[dm,di,bC,eE]at m;obtain⟨c,G,j⟩:=m;rw[c];cases e:(di 1 12 out.length&&out.all (b8 gr))
  ·cases o<;>exact⟨Z,Z,rfl,rfl⟩
  simp only[bC]at e;cases o
  ·exact⟨Z,Z,rfl,rfl⟩
  have D:=ZE (p:=p) (out:=out) k c (l:=l) (by omega) (bc.1 j) (bc.1 e.2) (g rfl);have E:=zF1 (p:=p) (out:=out) k c (l:=l) (by omega) (bc.1 j) (bc.1 e.2) (g rfl);refine⟨tV gr key B l out p,O,?_,?_⟩
  ·simp[D]
  simp[E]
 refine⟨Z,Z,?_,?_⟩
 ·unfold t7;rw[Lg k];rfl
 unfold HF;rw[D1 k];rfl
end
end
section
variable {gr:am}{key:Int}{B:ct}{l:List ao}{perm rs s t w x:List Int}{a b d f:Int}
def WR{gr:am}{l:List Int}(h:∀z∈l,E9 gr.Q z):l.all (dB gr)=O:=bc.2 λz c=>X8.2 (h z c)
end
def Ry(n:Nat)(h:Int->Int):Prop:=∃c:List Int,c.length<=n/\∀x,evI c x=h x
variable{i n:Nat}{q:Int}{y:Nat×Nat}
def Ry.up{m:Nat}{h:Int->Int}(e:Ry n h)(j:n<=m):Ry m h:=by
 obtain⟨b,g,c⟩:=e;exact⟨b,by omega,c⟩
def ck(f:Nat->Int):Nat->Int
 |0=>0
 |n+1=>ck f n+f n
theorem Uv{q:Int}{f g:Nat->Int}:∀n,(∀k,k<n->f k%q=g k%q)->ck f n%q=ck g n%q
 |0,_=>rfl
 |n+1,h=>by
  show(ck f n+f n)%q=(ck g n+g n)%q;exact zCz (Uv n λk c=>h k (by omega)) (h n (by omega))
theorem Cv{f g:Nat->Int}:∀n,(∀k,k<n->f k=g k)->ck f n=ck g n
 |0,_=>rfl
 |n+1,h=>by show ck f n+f n=ck g n+g n;rw[Cv n λk c=>h k (by omega),h n (by omega)]
def Vp{j:Type}{e:Option j}{k m:j->Prop}(o:Rn e k)(r:Rn e m):Rn e (λx=>k x/\m x):=by
 obtain⟨a,c,u⟩:=o;obtain⟨b,g,v⟩:=r;rw[c]at g;cases g;exact⟨a,c,u,v⟩
def QY(gr:am)(s:ByteArray)(k:Int):Bool:=(List.range 60).any λc=>k8 gr s k (c:Int) !=1
def okD(gr:am):Bool:=QY gr ⟨#[104]⟩ 0&&(List.range 13).all λi=>QY gr ⟨#[104,115]⟩ (i:Int)
def Yf{gr:am}(k:ap gr){s:ByteArray}{i y:Int}(h:QY gr s i=O)(m:o8 gr s i y):0<y:=by
 rcases m with⟨c,g,rfl,_,_⟩|⟨_,j⟩
 ·have:=UE k s i c;omega
 obtain⟨c,g,e⟩:=a1K.1 h;rw[j c (by have:=kT.1 g;omega)]at e;cases e
def qw(gr:am)(n:Nat):Prop:=(∃y,0<y/\o8 gr ⟨#[104]⟩ 0 y)/\∀i:Nat,i<n->∃y,0<y/\o8 gr ⟨#[104,115]⟩ (i:Int) y
def qw.le{gr:am}{m:Nat}(h:qw gr m)(e:n<=m):qw gr n:=⟨h.1,λi c=>h.2 i (by omega)⟩
def CB{gr:am}(k:ap gr)(hd:okD gr=O)(m:n<=13):qw gr n:=by
 obtain⟨d1,d2⟩:=B0.1 hd;obtain⟨y,_,g,c⟩:=Hi k (s:=⟨#[104]⟩) (by decide) (i:=0) rfl;refine⟨⟨y,Yf k d1 c,c⟩,λi j=>?_⟩;obtain⟨z,_,z2,e⟩:=Hi k (s:=⟨#[104,115]⟩) (by decide) (i:=(i:Int)) (jk.2 ⟨by omega,by omega⟩);exact⟨z,Yf k (bc.1 d2 i (kT.2 (by omega))) e,e⟩
def zy2{gr:am}(k:ap gr)(hd:qw gr n)(K:n<=13):Rn (kR gr (n:Int)) (λx=>x.2=O):=by
 obtain⟨⟨M,d0,d1⟩,d2⟩:=hd;obtain⟨y,_,r,v⟩:=Hi k (s:=⟨#[104]⟩) (by decide) (i:=0) rfl;have E:0<y:=Jp k d1 v▸d0;unfold kR;refine ag r (ax (ψ:=λp=>p.2.2=O) (kZ n (λm p=>p.2.2.2=(m:Int)/\p.2.1.length=m/\p.2.2.1=O) ⟨rfl,rfl,rfl⟩ ?_ ?_) ?_)
 ·rintro m ⟨w,l,t,c⟩ D ⟨e,j,g⟩;simp only at e j g;subst e g;obtain⟨z,_,z2,I⟩:=Hi k (s:=⟨#[104,115]⟩) (by decide) (i:=(m:Int)) (jk.2 ⟨by omega,by omega⟩);obtain⟨u,G,H⟩:=d2 m D;have F:0<z:=Jp k H I▸G;refine aU (λ_=>?_) λh=>absurd h (by simp;omega)
  refine ag z2 (ax (ψ:=λb=>b=O) (iS rfl (ak (by simpa using F))) λb o=>?_);subst o;refine aJ (by dsimp only;omega) (ak ⟨?_,by simp[j],rfl⟩);show i64.wrap ((m:Int)+1)=_;rw[aK (by omega) (by omega)];rfl
 ·rintro⟨w,l,t,c⟩ ⟨e,j,g⟩;simp only at e j g;subst e g;exact aU (λh=>absurd h (by simp)) λ_=>ak rfl
 rintro⟨w,l,t⟩ h;have h:t=O:=h;subst h;refine ax (ψ:=λb=>b=Z) (bQ (by simpa using E) (ak rfl)) λb o=>?_
 subst o;exact bQ rfl (ak rfl)
def Im{gr:am}(k:ap gr)(hd:qw gr n)(o:n<=13):∃b,pX gr (n:Int)=J (b,O)/\kR gr (n:Int)=J (b,O)/\sG gr n b:=by
 obtain⟨b,t,j,g,m⟩:=Td k (n:=n) (by omega);obtain⟨x,e,c⟩:=zy2 k hd o;rw[g]at e;cases e;have c:t=O:=c;subst c;exact⟨b,j,g,m rfl⟩
def zEl{gr:am}(k:ap gr)(hd:okD gr=O)(c:n<=13):∃b,pX gr (n:Int)=J (b,O)/\kR gr (n:Int)=J (b,O)/\sG gr n b:=Im k (CB k hd c) c
def Nn(n b:Nat):Bool:=decide (2<=n)&&decide (n<b*b)&&(List.range b).all λd=>decide (d<2)||decide (n<d*d)||n%d !=0
def Xp{b:Nat}(h:Nn n b=O):Pr n:=by
 simp only[Nn,bC,eE]at h;obtain⟨⟨e,m⟩,g⟩:=h;refine⟨e,λd j k=>?_⟩;have hd:d<b:=a1E λc=>by have:=su c c;omega
 have:=bc.1 g d (kT.2 hd);simp only[xK,eE,bne_iff_ne,ne_eq]at this;omega
def npC(n:Nat):Bool:=(List.range 3500).any λd=>decide (2<=d)&&(decide (d*d<=n)&&n%d==0)
def zFZ(h:npC n=O):¬Pr n:=by
 obtain⟨d,_,hd⟩:=a1K.1 h;simp only[bC,eE,zo]at hd;exact λc=>c.2 d hd.1 hd.2.1 hd.2.2
def Ti(q K:Nat):Bool:=decide (q<=1000000)&&(decide (1<=K)&&(decide (1+K*q<=2000000000)&&(Nn q 1001&&(Nn (1+K*q) 3500&&(2^K%(1+K*q) !=1&&(List.range K).all λk=>k==0||npC (1+k*q))))))
def kG(x:Nat×Nat):am:=⟨((1+x.2*x.1:Nat):Int),(x.1:Int),((2^x.2%(1+x.2*x.1):Nat):Int)⟩
def YY{q K:Nat}(h:Ti q K=O):xe (q:Int)=J (kG (q,K),O):=by
 simp only[Ti,bC,eE,bne_iff_ne,ne_eq]at h;obtain⟨Y,D,h3,E,F,G,H⟩:=h;have j:=Xp E;have u:=Xp F;have hq:=j.1
 have T:∀k,1<=k->k<K->¬Pr (1+k*q):=λk a b=>by
  have:=bc.1 H k (kT.2 b);rw[xK,zo]at this;exact zFZ (this.resolve_left (by omega))
 unfold xe;refine bW (ax (ψ:=λb=>b=Z) ?_ ?_)
 ·refine ag (qs _ _ _) (bQ (by simp;omega) (ag (GM _ (by omega)) (ak ?_)));rw[ny.2 j];rfl
 rintro _ rfl;refine bQ rfl (ax (ψ:=λb=>b=.inr (kG (q,K),O)) ?_ ?_)
 ·rw[aK (by omega) (by omega)];refine tZ (λs=>∃k:Nat,1<=k/\k<=K/\s=((1+k*q:Nat):Int)) (λs=>(2001000001-s).toNat) ⟨1,by omega,D,by rw[Mf];omega⟩ ?_;rintro s ⟨k,P,Q,rfl⟩;have U:k*q<=K*q:=gN q Q;refine iS (by simp;omega) (ag (GM _ (by omega)) ?_);by_cases e:k=K
  ·subst e;rw[ny.2 u];refine bQ rfl ?_
   have o:i64.wrap ((i64.wrap (((1+k*q:Nat):Int)-1)).tdiv (q:Int))=(k:Int):=by
    have c:((1+k*q:Nat):Int)-1=(k:Int)*(q:Int):=by push_cast;omega
    have X:(k:Int)*(q:Int)=((k*q:Nat):Int):=by push_cast;rfl
    have v:k*1<=k*q:=Qz k (by omega);rw[c,aK (n:=(k:Int)*(q:Int)) (by omega) (by omega),a5T _ (by omega),aK (by omega) (by omega)]
   simp only[o];have v:k*1<=k*q:=Qz k (by omega);have g:=(qy (a:=2) (e:=(k:Int)) (m:=((1+k*q:Nat):Int)) (by omega) (by omega) (by omega) (by omega) (by omega) (by omega)).2;rw[dT,dT]at g;refine ax (ψ:=λh=>h=2) (tZ (λs=>s=2) (λ_=>0) rfl ?_) ?_
   ·rintro _ rfl;refine aJ (by omega) (ag g (bQ ?_ (ak rfl)));have I:¬(((2^k%(1+k*q):Nat):Int)=1):=λe=>G (by exact_mod_cast e)
    exact beq_eq_false_iff_ne.2 I
   rintro _ rfl;exact aJ (by omega) (ag g (ak rfl))
  have S:=T k P (by omega)
  have N:l9 ((1+k*q:Nat):Int)=Z:=by
   cases M:l9 ((1+k*q:Nat):Int)
   ·rfl
   ·exact absurd (ny.1 M) S
  rw[N];have r:(k+1)*q<=K*q:=gN q (by omega);rw[kf]at r
  have c:i64.wrap (((1+k*q:Nat):Int)+(q:Int))=((1+(k+1)*q:Nat):Int):=by
   rw[aK (by omega) (by omega),kf];omega
  refine iS rfl (ak ⟨⟨k+1,by omega,by omega,c⟩,?_⟩);rw[c,kf];omega
 rintro _ rfl;exact ak rfl
def VM(gr:am):Bool:=decide (gr.Q<2)||(decide (gr.P<3)||((gr.Q%2==0&&gr.Q !=2)||((gr.P-1)%gr.Q !=0||okD gr)))
def Dg(gr:am):Prop:=ap gr->okD gr=O
def zGG{gr:am}(h:VM gr=O):Dg gr:=by
 intro k;have o:=k.p;have r:=k.q;have hd:=k.d;have g:=k.pq;simp only[VM,xK,bC,eE,zo,bne_iff_ne,ne_eq]at h;rcases h with h|h|h|h|h
 ·omega
 ·omega
 ·exfalso;obtain⟨n,c⟩:=fF (show 0<=gr.Q by omega);rw[c,dT]at g;exact g.2 2 (by omega) (by omega) (by omega)
 ·exfalso;apply h;obtain⟨n,c⟩:=fF (show 0<=gr.Q by omega);obtain⟨m,j⟩:=fF (show 0<=gr.P-1 by omega);have e:gr.P.toNat-1=m:=by omega
  rw[e,c,dT]at hd;rw[j,c,<-pS,hd];rfl
 exact h
def Ct(gr:am):List am:=gr::([0,gr.P+2,4,-7].map λx=>⟨x,gr.Q,gr.G⟩)++([0,1,gr.Q+1,gr.P-1].map λx=>⟨gr.P,x,gr.G⟩)++([0,1,gr.P-1,gr.P,gr.G+1].map λx=>⟨gr.P,gr.Q,x⟩)
def zje(gr:am):Bool:=(Ct gr).all VM
def oj:List (Nat×Nat):=[(3,2),(5,2),(7,4),(11,2),(13,4),(23,2)]
def yr:List (Nat×Nat):=[(101,6),(1009,10),(1019,2),(65537,14),(999983,12)]
theorem XO:((oj++yr).all λx=>Ti x.1 x.2)=O:=by decide+kernel
theorem zBf:zje ⟨1000000007,500000003,4⟩=O:=by decide+kernel
theorem zAT:(yr.all λx=>zje (kG x))=O:=by decide+kernel
def Cl(x:Nat×Nat)(e:Nat):am:=⟨(kG x).P,(kG x).Q,(((kG x).G.toNat^e%(kG x).P.toNat:Nat):Int)⟩
theorem zC6:((List.range 3).all λe=>zje (Cl (3,2) e))=O:=by decide+kernel
theorem zCW:((List.range 5).all λe=>zje (Cl (5,2) e))=O:=by decide+kernel
theorem zCN:((List.range 7).all λe=>zje (Cl (7,4) e))=O:=by decide+kernel
theorem zCZ:((List.range 11).all λe=>zje (Cl (11,2) e))=O:=by decide+kernel
theorem zCY:((List.range 13).all λe=>zje (Cl (13,4) e))=O:=by decide+kernel
theorem zC2:((List.range 23).all λe=>zje (Cl (23,2) e))=O:=by decide+kernel
def zzv:(oj.all λx=>(List.range x.1).all λe=>zje (Cl x e))=O:=by simp only[oj,xM,HS,zC6,zCW,zCN,zCZ,zCY,zC2,Qx]
attribute [local irreducible] okD zje
def zCa{x:Int}(c:x∈[(3:Int),5,5,7,11,11,13,23]):∃y∈oj,x=(y.1:Int)/\3<=y.1/\y.1<=23:=by
 simp only[gp,kg,kh]at c;rcases c with rfl|rfl|rfl|rfl|rfl|rfl|rfl|rfl
 ·exact⟨(3,2),by simp[oj],rfl,by decide⟩
 ·exact⟨(5,2),by simp[oj],rfl,by decide⟩
 ·exact⟨(5,2),by simp[oj],rfl,by decide⟩
 ·exact⟨(7,4),by simp[oj],rfl,by decide⟩
 ·exact⟨(11,2),by simp[oj],rfl,by decide⟩
 ·exact⟨(11,2),by simp[oj],rfl,by decide⟩
 ·exact⟨(13,4),by simp[oj],rfl,by decide⟩
 exact⟨(23,2),by simp[oj],rfl,by decide⟩
def zGu{x:Int}(c:x∈[(101:Int),1009,1019,65537,999983]):∃y∈yr,x=(y.1:Int):=by
 simp only[gp,kg,kh]at c;rcases c with rfl|rfl|rfl|rfl|rfl
 ·exact⟨(101,6),by simp[yr],rfl⟩
 ·exact⟨(1009,10),by simp[yr],rfl⟩
 ·exact⟨(1019,2),by simp[yr],rfl⟩
 ·exact⟨(65537,14),by simp[yr],rfl⟩
 exact⟨(999983,12),by simp[yr],rfl⟩
def zBu(h:y∈oj):xe (y.1:Int)=J (kG y,O):=YY (bc.1 XO y (tI _ h))
def zC9(h:y∈yr):xe (y.1:Int)=J (kG y,O):=YY (bc.1 XO y (zp _ h))
def zCJ(h:y∈oj):(kG y).Q=(y.1:Int)/\1<=(kG y).P/\(kG y).P<=100/\0<=(kG y).G/\(kG y).G<=100:=by
 simp only[oj,gp,kg,kh]at h;rcases h with rfl|rfl|rfl|rfl|rfl|rfl<;>exact⟨rfl,by decide,by decide,by decide,by decide⟩
def zsZ{k c0:List Int}{r D n:Int}(g:Bt k)(h:Cu k n (c0,r,D))(Q:n<=6000000000000000):Rn (A8 c0 r D) (λz=>zje z.1=O):=by
 unfold A8;refine ax (hJ g h (by omega)) λz ⟨z1,z2,z3,z4,F⟩=>?_
 refine aU (λ_=>ak zBf) λ_=>aU (λ_=>?_) λ_=>?_
 ·refine ax (qc g F (by omega) (by simp)) λy ⟨o,j⟩=>?_
  obtain⟨q,c,e⟩:=zGu o;rw[e];exact ag (zC9 c) (ak (bc.1 zAT q c))
 unfold GB;refine ax (ψ:=λw=>(∃q∈oj,w.1=kG q/\3<=q.1/\q.1<=23)/\Cu k (n+8) w.2) (ax (qc g F (by omega) (by simp)) λy ⟨o,j⟩=>?_) λy ⟨⟨q,c,e,q3,S⟩,j⟩=>?_
 ·obtain⟨q,c,e,q3⟩:=zCa o;rw[e];exact ag (zBu c) (ak ⟨⟨q,c,rfl,q3⟩,j.mono (by omega)⟩)
 obtain⟨u,M,N,G,P⟩:=zCJ c;rw[e,u,aK (n:=(q.1:Int)-1) (by omega) (by omega)];refine ax (hJ g j (by omega)) λx ⟨T,U,E,X,Y⟩=>?_
 have E:=E (by omega);rw[aK (n:=1+x.1) (by omega) (by omega)];have I:=Ee (a:=1+x.1) (q:=(kG q).Q) (by omega) (by omega);have H:(1+x.1)%(kG q).Q=1+x.1:=qS (by omega) (by omega);have K:=(qy (a:=(kG q).G) (e:=1+x.1) (m:=(kG q).P) G (by omega) (by omega) (by omega) (by omega) (by omega)).2;refine ax (ψ:=λv=>v=(((kG q).G.toNat^(1+x.1).toNat%(kG q).P.toNat:Nat):Int)) ?_ ?_
 ·unfold cF;refine ag I ?_;rw[H];exact ag K (ak rfl)
 rintro _ rfl;refine ak ?_;rw[<-u];exact bc.1 (bc.1 zzv q c) (1+x.1).toNat (kT.2 (by omega))
def KP{gr g:am}(h:zje gr=O)(c:g∈Ct gr):Dg g:=by
 unfold zje at h;exact zGG (bc.1 h g c)
def zuj{o c0:List Int}{m r n:Int}(c:Bt o)(h:Cu o n (c0,m,r))(G:n<=5000000000000000):Rn (CN c0 m r) (λz=>Dg z.1):=by
 unfold CN;refine ax (Vp (T0 c h (by omega)) (zsZ c h (by omega))) λz ⟨⟨k,z2⟩,g⟩=>?_
 have D:=k.p;have E:=k.q;have F:=k.g;refine ax (hJ c z2 (by omega)) λy ⟨_,_,_,_,j⟩=>?_
 rw[aK (n:=z.1.P+2) (by omega) (by omega),aK (n:=z.1.Q+1) (by omega) (by omega),aK (n:=z.1.P-1) (by omega) (by omega),aK (n:=z.1.G+1) (by omega) (by omega)];refine ax (ψ:=λx=>Dg (am.mk x.2.1 x.2.2.1 x.2.2.2)) ?_ λx v=>ak v
 refine aU (λ_=>?_) λ_=>aU (λ_=>?_) λ_=>aU (λ_=>?_) λ_=>ak (KP g (by simp[Ct]))
 ·exact ax (qc c j (by omega) (by simp)) λx ⟨e,u⟩=>ak (KP g (by unfold Ct;exact tI _ (tI _ (oH _ (jr.2 ⟨_,e,rfl⟩)))))
 ·exact ax (qc c j (by omega) (by simp)) λx ⟨e,u⟩=>ak (KP g (by unfold Ct;exact tI _ (zp _ (jr.2 ⟨_,e,rfl⟩))))
 exact ax (qc c j (by omega) (by simp)) λx ⟨e,u⟩=>ak (KP g (by unfold Ct;exact zp _ (jr.2 ⟨_,e,rfl⟩)))
def rg(f:Nat->Int)(n:Nat):List Int:=(List.range n).map f
def bh(f:Nat->Int)(n:Nat):(rg f n).length=n:=by simp[rg]
theorem uZ(f:Nat->Int):rg f 0=[]:=rfl
def pI(f:Nat->Int)(n:Nat):rg f (n+1)=rg f n++[f n]:=by simp[rg,ng]
def vl(f:Nat->Int)(n:Nat)(A:List Int):A++rg f (n+1)=(A++rg f n)++[f n]:=by rw[pI,gO]
def tT(f:Nat->Int)(h:i<n):ix (rg f n) (i:Int)=J (f i):=by
 rw[hZ (by rw[bh];exact h)];simp[rg]
def kW(f:Nat->Int)(h:i<n):(rg f n).getD i 0=f i:=by
 rw[bS (by rw[bh];exact h)];simp[rg]
def nG{P:Int->Prop}{f:Nat->Int}(h:∀i,i<n->P (f i)):∀x∈rg f n,P x:=by
 intro x e;obtain⟨i,c,rfl⟩:=jr.1 e;exact h i (kT.1 c)
def eO{P:Int->Prop}{l:List Int}(h:∀x∈l,P x)(c:i<l.length):P (l.getD i 0):=by
 rw[bS c];exact h _ (eL c)
def eo{l:List Int}(c:i<l.length):ix l (i:Int)=J (l.getD i 0):=by rw[hZ c,bS c]
def qx{c j:Type}{e:Int->c->Option (fi c j)}{stop:c->j}{g:c}(S:Nat->c)(k:g=S 0)(r:∀i,i<n->Rn (e (i:Int) (S i)) (· =.go (S (i+1)))):aO e stop n 0 g=J (stop (S n)):=by
 refine bW (eI (λi y=>y=S i) k ?_ ?_)
 ·rintro i y o rfl;obtain⟨v,m,rfl⟩:=r i o;exact⟨_,m,rfl⟩
 rintro y rfl;rfl
def vc(gr:am)(h x r:Int):Int:=aQ gr [av gr gr.G x,av gr h r]
def ZM{gr:am}(k:ap gr)(h x r:Int):R9 (vc gr h x r):=ot k (bH k _ _) (bH k _ _)
def LY{gr:am}(k:ap gr){h:Int}(c:aL gr h=O)(x r:Int):aL gr (vc gr h x r)=O:=rb k (kY k (n6 k) _) (kY k c _)
def CA{gr:am}(k:ap gr){B:ct}(c:R9 B.H)(x r:Int):pi gr B x r=J (vc gr B.H x r):=by
 unfold pi;rw[fB k (fR k),aP,fB k c,aP,j4 k (bH k _ _) (bH k _ _)];rfl
def F8{gr:am}(k:ap gr){h:Int}(c:R9 h)(x r:Int):oE gr h x r=J (vc gr h x r):=by
 unfold oE;rw[fy k (fR k),aP,fy k c,aP,iZ k (bH k _ _) (bH k _ _)];rfl
structure Pc where
 a:List Int
 b:List Int
 c:List Int
 w:List Int
 v:List Int
 s:List Int
 g:Int
 k:List Int
 m:List Int
 f:Int
structure wQ (q:Int) (n:Nat) (C:Pc):Prop where
 a:C.a.length=n/\∀z∈C.a,E9 q z
 b:C.b.length=n/\∀z∈C.b,E9 q z
 c:C.c.length=n/\∀z∈C.c,E9 q z
 w:C.w.length=n/\∀z∈C.w,E9 q z
 v:C.v.length=n/\∀z∈C.v,E9 q z
 s:C.s.length=n/\∀z∈C.s,E9 q z
 g:E9 q C.g
 k:C.k.length=n/\∀z∈C.k,E9 q z
 m:C.m.length=n/\∀z∈C.m,E9 q z
 f:E9 q C.f
def plF(gr:am)(h:Int)(perm:List Int)(C:Pc)(i:Nat):Int:=vc gr h (perm.getD i 0+1) (C.a.getD i 0)
def eF(q x:Int)(perm:List Int)(i:Nat):Int:=((x.toNat^(perm.getD i 0+1).toNat%q.toNat:Nat):Int)
def pwF(gr:am)(h:Int)(e:Nat->Int)(C:Pc)(i:Nat):Int:=vc gr h (e i) (C.b.getD i 0)
def uF(q y z:Int)(e:Nat->Int)(perm:List Int)(i:Nat):Int:=(y*(perm.getD i 0+1)+e i-z)%q
def sD(q:Int)(u:Nat->Int):Nat->Int
 |0=>1
 |i+1=>(sD q u i*u i)%q
def chF(gr:am)(h:Int)(u:Nat->Int)(C:Pc)(i:Nat):Int:=vc gr h (sD gr.Q u (i+1)) (C.c.getD i 0)
def Bk(C:Pc):Nat->Int
 |0=>0
 |i+1=>C.c.getD i 0
def dlF(q:Int)(u:Nat->Int)(C:Pc)(i:Nat):Int:=(C.c.getD i 0-Bk C i*u i)%q
def MT(gr:am)(h:Int)(C:Pc)(i:Nat):Int:=vc gr h (C.w.getD i 0) (C.v.getD i 0)
def c2F(gr:am)(h:Int)(ch:List Int)(C:Pc)(i:Nat):Int:=aQ gr [av gr (bef gr.G ch i) (C.w.getD i 0),av gr h (C.s.getD i 0)]
def XJ(gr:am)(h:Int)(C:Pc)(i:Nat):Int:=vc gr h (C.k.getD i 0) (C.m.getD i 0)
def abF(q y:Int)(C:Pc)(i:Nat):Int:=(y*C.a.getD i 0+C.b.getD i 0)%q
def rF(q t:Int)(w:List Int)(u:Nat->Int)(i:Nat):Int:=(w.getD i 0+t*u i)%q
def Ns(c:0<q)(x:Int)(perm:List Int)(i:Nat):E9 q (eF q x perm i):=by
 have h:=nc (x.toNat^(perm.getD i 0+1).toNat) (show 0<q.toNat by omega);exact⟨Int.natCast_nonneg _,by unfold eF;omega⟩
theorem Xn(c:1<q)(u:Nat->Int):∀i,E9 q (sD q u i)
 |0=>⟨by show(0:Int)<=1;omega,c⟩
 |i+1=>gC (by omega) _
def zzE{C:Pc}(e:0<q)(c:wQ q n C)(g:i<=n):E9 q (Bk C i):=by
 cases i with
 |zero=>exact⟨BX 0,e⟩
 |succ i=>exact eO c.c.2 (by have:=c.c.1;omega)
def VF{gr:am}(k:ap gr){x p:Int}(c:E9 gr.Q x)(g:0<=p/\p<=1000):ou x (i64.wrap (p+1)) gr.Q=J ((x.toNat^(p+1).toNat%gr.Q.toNat:Nat):Int)/\l4 x (i64.wrap (p+1)) gr.Q=J ((x.toNat^(p+1).toNat%gr.Q.toNat:Nat):Int):=by
 have e:=k.p;have j:=k.q;rw[aK (by omega) (by omega)];exact qy c.1 (by have:=c.2;omega) (by omega) (by omega) (by omega) (by omega)
def zBd{a b:Int}:(a-b%q)%q=(a-b)%q:=by rw[tK,e8,<-tK]
def e_u{y p e z:Int}(r:0<q/\q<=2000000000)(g:E9 q y)(o:0<=p/\p<=1000)(c:E9 q e)(j:E9 q z):i64.wrap (i64.wrap (i64.wrap (y*i64.wrap (p+1))+e)-z)=y*(p+1)+e-z:=by
 have k:0<=y*(p+1):=tM g.1 (by omega);have m:y*(p+1)<=2000000000*1001:=xO (by have:=g.2;omega) (by omega) (by omega) (by omega);have:=c.1;have:=c.2;have:=j.1;have:=j.2;rw[aK (n:=p+1) (by omega) (by omega),aK (n:=y*(p+1)) (by omega) (by omega),aK (n:=y*(p+1)+e) (by omega) (by omega),aK (by omega) (by omega)]
def zM7{y p e z:Int}(o:0<q/\q<=2000000000)(j:E9 q y)(v:0<=p/\p<=1000)(g:E9 q e)(k:E9 q z):(i64.wrap (i64.wrap (i64.wrap (y*(i64.wrap (p+1)).tmod q)+e)-z))%q=(y*(p+1)+e-z)%q:=by
 have c:E9 q ((p+1)%q):=gC o.1 _;rw[aK (n:=p+1) (by omega) (by omega),ju (by omega)];have r:0<=y*((p+1)%q):=tM j.1 c.1;have u:y*((p+1)%q)<=2000000000*2000000000:=xO (by have:=j.2;omega) (by have:=c.2;omega) c.1 (by omega);have:=g.1;have:=g.2;have:=k.1;have:=k.2;rw[aK (n:=y*((p+1)%q)) (by omega) (by omega),aK (n:=y*((p+1)%q)+e) (by omega) (by omega),aK (by omega) (by omega)];have m:(y*((p+1)%q))%q=(y*(p+1))%q:=by rw[nh,e8,<-nh]
 rw[tK,pU,m,<-pU,<-tK]
section
variable {gr:am}{h:Int}{perm:List Int}{C:Pc}{n:Nat}
def zuL{e:Int->Int->Option Int}(u:∀x r,e x r=J (vc gr h x r))(g:∀x∈perm,0<=x/\x<=1000)(v:perm.length=n)(D:C.a.length=n)(F:n<=100):aO (σ:=(List Int)) (λj c=>
 (ix perm j).bind λk=>
 (ix C.a j).bind λo=>
 (e (i64.wrap (k+1)) o).bind λm=>
 gd ((c.length+1)*8<=140737488355328/\c.length+1<=4611686018427387904)<|
 J (.go (c++[m]))) (λc=>c) perm.length 0 []=J (rg (plF gr h perm C) n):=by
 rw[v];refine qx (λi=>rg (plF gr h perm C) i) rfl λi E=>?_
 have g:=eO g (i:=i) (by omega);refine ag (eo (by omega)) (ag (eo (by omega)) ?_);rw[aK (n:=perm.getD i 0+1) (by omega) (by omega)];refine ag (u _ _) (aJ (by rw[bh];omega) (ak ?_));rw[pI];rfl
def zFm(k:ap gr){B:ct}(e:R9 B.H)(m:∀x∈perm,0<=x/\x<=1000)(g:perm.length=n)(c:C.a.length=n)(j:n<=100):J3 gr B perm C.a=J (rg (plF gr B.H perm C) n):=by
 unfold J3;rw[zuL (CA k e) m g c j];rfl
def zGn(k:ap gr)(e:R9 h)(m:∀x∈perm,0<=x/\x<=1000)(g:perm.length=n)(c:C.a.length=n)(j:n<=100):Lf gr h perm C.a=J (rg (plF gr h perm C) n):=by
 unfold Lf;rw[zuL (F8 k e) m g c j];rfl
end
abbrev sX:ByteArray:=⟨#[109,105,120,32,120]⟩
abbrev sY:ByteArray:=⟨#[109,105,120,32,121]⟩
abbrev sZ:ByteArray:=⟨#[109,105,120,32,122]⟩
abbrev sE:ByteArray:=⟨#[109,105,120,32,101,110,100]⟩
section
variable {gr:am}{h:Int}{perm:List Int}{C:Pc}{n:Nat}
variable{A:List Int}
def zAI(k:ap gr){B:ct}(m:R9 B.H)(e:∀x∈perm,0<=x/\x<=1000)(o:perm.length=n)(G:C.b.length=n)(I:n<=100){x:Int}(r:E9 gr.Q x) :aO (σ:=(List Int)×List Int×List Int×List Int×List Int×List Int×List Int) (λg c=>
 (ix perm g).bind λF=>
 (ou x (i64.wrap (F+1)) gr.Q).bind λD=>
 gd ((c.2.2.2.2.2.2.length+1)*8<=140737488355328/\c.2.2.2.2.2.2.length+1<=4611686018427387904)<|
 (J (c.2.2.2.2.2.2++[D])).bind λj=>
 (ix j g).bind λu=>
 (ix C.b g).bind λv=>
 (pi gr B u v).bind λE=>
 gd ((c.2.1.length+1)*8<=140737488355328/\c.2.1.length+1<=4611686018427387904)<|
 J (.go (c.1,c.2.1++[E],c.2.2.1,c.2.2.2.1,c.2.2.2.2.1,c.2.2.2.2.2.1,j))) (λc=>(c.1,c.2.1,c.2.2.1,c.2.2.2.1,c.2.2.2.2.1,c.2.2.2.2.2.1,c.2.2.2.2.2.2)) perm.length 0 (A,[],[],[],[],[],[])=J (A,rg (pwF gr B.H (eF gr.Q x perm) C) n,[],[],[],[],rg (eF gr.Q x perm) n):=by
 rw[o];refine qx (λi=>(A,rg (pwF gr B.H (eF gr.Q x perm) C) i,[],[],[],[],rg (eF gr.Q x perm) i)) rfl λi H=>?_
 have e:=eO e (i:=i) (by omega);refine ag (eo (by omega)) (ag (VF k r e).1 (aJ (by rw[bh];omega) (ag (a:=rg (eF gr.Q x perm) (i+1)) (by rw[pI];rfl) (ag (tT _ (by omega)) (ag (eo (by omega)) (ag (CA k m _ _) (aJ (by rw[bh];omega) (ak ?_))))))));rw[pI (pwF gr B.H (eF gr.Q x perm) C)];rfl
def zBb(k:ap gr){B:ct}(U:R9 B.H)(E:∀x∈perm,0<=x/\x<=1000)(hl:perm.length=n)(c:wQ gr.Q n C)(hn:n<=100){x y z:Int}(hy:E9 gr.Q y)(hz:E9 gr.Q z){W:List Int}:aO (σ:=(List Int)×List Int×List Int×List Int×List Int×List Int×List Int×Int×List Int) (λr o=>
 (ix perm r).bind λpx=>
 (ix (rg (eF gr.Q x perm) n) r).bind λT=>
 (fb gr (i64.wrap ((i64.wrap ((i64.wrap (y*(i64.wrap (px+1))))+T))-z))).bind λoa=>
 gd ((o.2.2.2.2.2.2.1.length+1)*8<=140737488355328/\o.2.2.2.2.2.2.1.length+1<=4611686018427387904)<|
 (J (o.2.2.2.2.2.2.1++[oa])).bind λN=>
 (ix N r).bind λM=>
 (fb gr (i64.wrap (o.2.2.2.2.2.2.2.1*M))).bind λH=>
 (ix C.c r).bind λF=>
 (pi gr B H F).bind λpB=>
 gd ((o.2.2.1.length+1)*8<=140737488355328/\o.2.2.1.length+1<=4611686018427387904)<|
 ((if decide (0<r)=O then(
 (ix C.c (i64.wrap (r-1))).bind λS=>
 (fb gr (i64.wrap (S*M))).bind λQ=>
 (fb gr (i64.wrap (F-Q))).bind λP=>
 J P)else(
 J F):Option Int).bind λyE=>
 gd ((o.2.2.2.2.2.2.2.2.length+1)*8<=140737488355328/\o.2.2.2.2.2.2.2.2.length+1<=4611686018427387904)<|
 J (.go (o.1,o.2.1,o.2.2.1++[pB],o.2.2.2.1,o.2.2.2.2.1,o.2.2.2.2.2.1,N,H,o.2.2.2.2.2.2.2.2++[yE])))) (λo=>(o.1,o.2.1,o.2.2.1,o.2.2.2.1,o.2.2.2.2.1,o.2.2.2.2.2.1,o.2.2.2.2.2.2.1,o.2.2.2.2.2.2.2.2)) perm.length 0 (A,W,[],[],[],[],[],1,[])=
  J (A,W,rg (chF gr B.H (uF gr.Q y z (eF gr.Q x perm) perm) C) n,[],[],[],rg (uF gr.Q y z (eF gr.Q x perm) perm) n,rg (dlF gr.Q (uF gr.Q y z (eF gr.Q x perm) perm) C) n):=by
 rw[hl];have hP:=k.p;have hq:=k.q;have v:0<gr.Q/\gr.Q<=2000000000:=by omega
 generalize I:uF gr.Q y z (eF gr.Q x perm) perm=u;have G:∀i,E9 gr.Q (u i):=λi=>by rw[<-I];exact gC v.1 _
 refine qx (λi=>(A,W,rg (chF gr B.H u C) i,[],[],[],rg u i,sD gr.Q u i,rg (dlF gr.Q u C) i)) rfl λi X=>?_
 have E:=eO E (i:=i) (by omega);have D:=eO c.c.2 (i:=i) (by have:=c.c.1;omega);have hm:=(xw (q:=gr.Q) (by omega) (Xn (by omega) u i) (G i)).1;refine ag (eo (by omega)) (ag (tT _ X) (ag (ma k _) ?_));rw[e_u v hy E (Ns v.1 _ _ _) hz,show(y*(perm.getD i 0+1)+eF gr.Q x perm i-z)%gr.Q=u i by rw[<-I];rfl];refine aJ (by rw[bh];omega) (ag (a:=rg u (i+1)) (by rw[pI]) (ag (tT _ (by omega)) (ag (ma k _) ?_)));rw[hm];refine ag (eo (by have:=c.c.1;omega)) (ag (CA k U _ _) (aJ (by rw[bh];omega) (ax (ψ:=(· =dlF gr.Q u C i)) ?_ ?_)))
 ·refine aU (λg=>?_) λg=>ak ?_
  ·have g:0<(i:Int):=by simpa using g
   obtain⟨j,rfl⟩:∃j,i=j+1:=⟨i-1,by omega⟩
   have Y:=eO c.c.2 (i:=j) (by have:=c.c.1;omega);rw[cU (m:=j) (by omega) (by omega)];refine ag (eo (by have:=c.c.1;omega)) (ag (ma k _) ?_);rw[(xw (q:=gr.Q) (by omega) Y (G (j+1))).1];refine ag (ma k _) (ak ?_);have K:=gC v.1 (C.c.getD j 0*u (j+1));rw[aK (by have:=D.1;have:=K.2;omega) (by have:=D.2;have:=K.1;omega),zBd];rfl
  have g:¬0<(i:Int):=by simpa using g
  have e:i=0:=by omega
  subst e;show C.c.getD 0 0=(C.c.getD 0 0-0*u 0)%gr.Q;rw[Int.zero_mul,Wy,qS D.1 D.2]
 rintro _ rfl;refine aJ (by rw[bh];omega) (ak ?_);rw[pI (chF gr B.H u C),pI (dlF gr.Q u C)];rfl
def zvc{e:Int->Int->Option Int}(m:∀x r,e x r=J (vc gr h x r)){w v:List Int}(G:w.length=n)(F:v.length=n)(E:n<=100)(u:A.length<=1000):aO (σ:=(List Int)) (λg c=>
 (ix w g).bind λk=>
 (ix v g).bind λo=>
 (e k o).bind λj=>
 gd ((c.length+1)*8<=140737488355328/\c.length+1<=4611686018427387904)<|
 J (.go (c++[j]))) (λc=>c) n 0 A=J (A++rg (λi=>vc gr h (w.getD i 0) (v.getD i 0)) n):=by
 refine qx (λi=>A++rg (λi=>vc gr h (w.getD i 0) (v.getD i 0)) i) (by rw[uZ,sn]) λi D=>?_
 refine ag (eo (by omega)) (ag (eo (by omega)) (ag (m _ _) (aJ (by rw[cy,bh];omega) (ak ?_))));rw[vl]
def zAO(k:ap gr)(F:R9 h){ch:List Int}(E:ch.length=n/\∀z∈ch,aL gr z=O)(c:wQ gr.Q n C)(I:n<=100)(G:A.length<=1000):aO (σ:=(List Int)) (λg e=>
 (ix ([gr.G]++ch) g).bind λv=>
 (ix C.w g).bind λu=>
 (ix C.s g).bind λD=>
 (cW gr v u).bind λr=>
 (cW gr h D).bind λm=>
 (eu gr [r,m]).bind λo=>
 gd ((e.length+1)*8<=140737488355328/\e.length+1<=4611686018427387904)<|
 J (.go (e++[o]))) (λe=>e) n 0 A=J (A++rg (c2F gr h ch C) n):=by
 refine qx (λi=>A++rg (c2F gr h ch C) i) (by rw[uZ,sn]) λi H=>?_
 have j:=Fs k (n6 k) E.2 i (by omega);refine ag j.1 (ag (eo (by have:=c.w.1;omega)) (ag (eo (by have:=c.s.1;omega)) (ag (fB k j.2 _) (ag (fB k F _) (ag (j4 k (bH k _ _) (bH k _ _)) (aJ (by rw[cy,bh];omega) (ak ?_)))))));rw[vl];rfl
def zCn{q y a b:Int}(m:q<=2000000000)(g:E9 q y)(c:E9 q a)(e:E9 q b):i64.wrap (i64.wrap (y*a)+b)=y*a+b:=by
 have j:0<=y*a:=tM g.1 c.1;have k:y*a<=2000000000*2000000000:=xO (by have:=g.2;omega) (by have:=c.2;omega) c.1 (by omega);have:=e.1;have:=e.2;rw[aK (n:=y*a) (by omega) (by omega),aK (by omega) (by omega)]
def zBj(k:ap gr)(c:wQ gr.Q n C){u d e:Nat->Int}(hu:∀i,E9 gr.Q (u i))(hd:∀i,E9 gr.Q (d i))(he:∀i,E9 gr.Q (e i))(hn:n<=100){y t:Int}(hy:E9 gr.Q y)(r:E9 gr.Q t):aO (σ:=(List Int)×List Int×List Int×List Int×List Int) (λj g=>
 (ix C.w j).bind λQ=>
 (ix (rg u n) j).bind λU=>
 (fb gr (i64.wrap (Q+(i64.wrap (t*U))))).bind λT=>
 gd ((g.1.length+1)*8<=140737488355328/\g.1.length+1<=4611686018427387904)<|
 (ix C.v j).bind λP=>
 (ix C.a j).bind λG=>
 (ix C.b j).bind λD=>
 (fb gr (i64.wrap ((i64.wrap (y*G))+D))).bind λK=>
 (fb gr (i64.wrap (P+(i64.wrap (t*K))))).bind λS=>
 gd ((g.2.1.length+1)*8<=140737488355328/\g.2.1.length+1<=4611686018427387904)<|
 (ix C.s j).bind λF=>
 (ix (rg d n) j).bind λX=>
 (fb gr (i64.wrap (F+(i64.wrap (t*X))))).bind λH=>
 gd ((g.2.2.1.length+1)*8<=140737488355328/\g.2.2.1.length+1<=4611686018427387904)<|
 (ix C.k j).bind λI=>
 (ix (rg e n) j).bind λE=>
 (fb gr (i64.wrap (I+(i64.wrap (t*E))))).bind λN=>
 gd ((g.2.2.2.1.length+1)*8<=140737488355328/\g.2.2.2.1.length+1<=4611686018427387904)<|
 (ix C.m j).bind λM=>
 (fb gr (i64.wrap (M+(i64.wrap (t*D))))).bind λY=>
 gd ((g.2.2.2.2.length+1)*8<=140737488355328/\g.2.2.2.2.length+1<=4611686018427387904)<|
 J (.go (g.1++[T],g.2.1++[S],g.2.2.1++[H],g.2.2.2.1++[N],g.2.2.2.2++[Y]))) (λg=>(g.1,g.2.1,g.2.2.1,g.2.2.2.1,g.2.2.2.2)) n 0 ([],[],[],[],[])=
  J (rg (rF gr.Q t C.w u) n,rg (rF gr.Q t C.v (abF gr.Q y C)) n,rg (rF gr.Q t C.s d) n,rg (rF gr.Q t C.k e) n,rg (rF gr.Q t C.m (λi=>C.b.getD i 0)) n):=by
 have hP:=k.p;have hq:=k.q;refine qx (λi=>(rg (rF gr.Q t C.w u) i,rg (rF gr.Q t C.v (abF gr.Q y C)) i,rg (rF gr.Q t C.s d) i,rg (rF gr.Q t C.k e) i,rg (rF gr.Q t C.m (λi=>C.b.getD i 0)) i)) rfl λi v=>?_
 have o:∀{l:List Int},l.length=n->ix l (i:Int)=J (l.getD i 0):=λh=>eo (by omega)
 have m:∀{l:List Int},(l.length=n/\∀z∈l,E9 gr.Q z)->E9 gr.Q (l.getD i 0):=λh=>eO h.2 (by omega)
 refine ag (o c.w.1) (ag (tT _ v) (ag (ma k _) (aJ (by rw[bh];omega) (ag (o c.v.1) (ag (o c.a.1) (ag (o c.b.1) (ag (ma k _) ?_)))))));rw[zCn (q:=gr.Q) (by omega) hy (m c.a) (m c.b),(iY (q:=gr.Q) (by omega) (m c.w) r (hu i)).1];refine ag (ma k _) (aJ (by rw[bh];omega) (ag (o c.s.1) (ag (tT _ v) (ag (ma k _) (aJ (by rw[bh];omega) (ag (o c.k.1) (ag (tT _ v) (ag (ma k _) (aJ (by rw[bh];omega) (ag (o c.m.1) (ag (ma k _) (aJ (by rw[bh];omega) (ak ?_)))))))))))));rw[(iY (q:=gr.Q) (by omega) (m c.v) r (gC (by omega) _)).1,(iY (q:=gr.Q) (by omega) (m c.s) r (hd i)).1,(iY (q:=gr.Q) (by omega) (m c.k) r (he i)).1,(iY (q:=gr.Q) (by omega) (m c.m) r (m c.b)).1];show _=fi.go _;simp only[pI];rfl
end
section
attribute [local irreducible] chG zaR zdP zaP
def gM(gr:am)(h:Int)(perm:List Int)(C:Pc)(n:Nat):List Int:=rg (plF gr h perm C) n
def nC(gr:am)(key h:Int)(l:List ao)(perm rs:List Int)(C:Pc):Int:=chG gr sX (zdP key l (zaR gr key l perm rs) (gM gr h perm C l.length))
def jZ(gr:am)(key h:Int)(l:List ao)(perm rs:List Int)(C:Pc):Nat->Int:=eF gr.Q (nC gr key h l perm rs C) perm
def kq(gr:am)(key h:Int)(l:List ao)(perm rs:List Int)(C:Pc):List Int:=rg (pwF gr h (jZ gr key h l perm rs C) C) l.length
def oK(gr:am)(key h:Int)(l:List ao)(perm rs:List Int)(C:Pc):List Int:=zdP key l (zaR gr key l perm rs) (gM gr h perm C l.length++kq gr key h l perm rs C)
def rH(gr:am)(key h:Int)(l:List ao)(perm rs:List Int)(C:Pc):Int:=chG gr sY (oK gr key h l perm rs C)
def uG(gr:am)(key h:Int)(l:List ao)(perm rs:List Int)(C:Pc):Int:=chG gr sZ (oK gr key h l perm rs C)
def lX(gr:am)(key h:Int)(l:List ao)(perm rs:List Int)(C:Pc):Nat->Int:=uF gr.Q (rH gr key h l perm rs C) (uG gr key h l perm rs C) (jZ gr key h l perm rs C) perm
def jy(gr:am)(key h:Int)(l:List ao)(perm rs:List Int)(C:Pc):List Int:=rg (chF gr h (lX gr key h l perm rs C) C) l.length
def pN(gr:am)(key h:Int)(out:List ao)(ch:List Int)(C:Pc)(n:Nat):List Int:=(rg (MT gr h C) n++rg (c2F gr h ch C) n++[av gr h C.g])++rg (XJ gr h C) n++[aQ gr [av gr gr.G (i64.wrap (0-C.f)),zaP gr (sdV out).1 C.k 1],aQ gr [av gr key (i64.wrap (0-C.f)),zaP gr (sdV out).2 C.k 1]]
def g8(gr:am)(key h:Int)(l:List ao)(perm rs:List Int)(C:Pc):List Int:=pN gr key h (zaR gr key l perm rs) (jy gr key h l perm rs C) C l.length
def kJ(gr:am)(key h:Int)(l:List ao)(perm rs:List Int)(C:Pc):Int:=chG gr sE (oK gr key h l perm rs C++jy gr key h l perm rs C++g8 gr key h l perm rs C)
def PP(q y t:Int)(u e:Nat->Int)(rs:List Int)(C:Pc)(n:Nat):List Int:=rg (rF q t C.w u) n++(rg (rF q t C.v (abF q y C)) n++(rg (rF q t C.s (dlF q u C)) n++([(C.g+t*C.c.getD (n-1) 0)%q]++(rg (rF q t C.k e) n++(rg (rF q t C.m (λi=>C.b.getD i 0)) n++[(C.f+t*dtN q rs (rg e n) n)%q])))))
def jh(gr:am)(key h:Int)(l:List ao)(perm rs:List Int)(C:Pc):cu:=
 ⟨gM gr h perm C l.length,kq gr key h l perm rs C,jy gr key h l perm rs C,⟨g8 gr key h l perm rs C,[kJ gr key h l perm rs C],PP gr.Q (rH gr key h l perm rs C) (kJ gr key h l perm rs C) (lX gr key h l perm rs C) (jZ gr key h l perm rs C) rs C l.length⟩⟩
structure gX (gr:am) (key h:Int) (l:List ao) (perm rs:List Int) (C:Pc):Prop where
 m:ni gr key l perm rs
 hh:aL gr h=O
 c:wQ gr.Q l.length C
section
variable {gr:am}{key h:Int}{l:List ao}{perm rs:List Int}{C:Pc}
variable{L:List Int}
def gX.pr(P:gX gr key h l perm rs C):∀z∈perm,0<=z/\z<=1000:=λz c=>by have:=P.m.pr z c;have:=P.m.n;omega
def TL(k:ap gr)(P:gX gr key h l perm rs C):∀z∈gM gr h perm C l.length,aL gr z=O:=nG λi c=>LY k P.hh _ _
def ZX(k:ap gr)(P:gX gr key h l perm rs C):∀z∈kq gr key h l perm rs C,aL gr z=O:=nG λi c=>LY k P.hh _ _
def II(k:ap gr)(P:gX gr key h l perm rs C):(jy gr key h l perm rs C).length=l.length/\∀z∈jy gr key h l perm rs C,aL gr z=O:=⟨bh _ _,nG λi c=>LY k P.hh _ _⟩
def jM{P:Int->Prop}{l m:List Int}(c:∀x∈l,P x)(e:∀x∈m,P x):∀x∈l++m,P x:=λx g=>(ke.1 g).elim (c x) (e x)
def G2(k:ap gr)(P:gX gr key h l perm rs C):(g8 gr key h l perm rs C).length=3*l.length+3/\∀z∈g8 gr key h l perm rs C,R9 z:=by
 have e:∀i,R9 (c2F gr h (jy gr key h l perm rs C) C i):=λi=>ot k (bH k _ _) (bH k _ _)
 refine⟨by unfold g8 pN;simp[bh];omega,?_⟩;unfold g8 pN;refine jM (jM (jM (jM (nG λi _=>ZM k _ _ _) (nG λi _=>e i)) ?_) (nG λi _=>ZM k _ _ _)) ?_
 ·intro x c;rw[gE]at c;rw[c];exact bH k _ _
 intro x c;simp only[gp,kg,kh]at c;rcases c with rfl|rfl<;>exact ot k (bH k _ _) (fO k _ _)
def Ph(k:ap gr)(P:gX gr key h l perm rs C):(oK gr key h l perm rs C).length=1+6*l.length/\(oK gr key h l perm rs C).all cT=O:=by
 have c:=P.m.pl;refine⟨by unfold oK;rw[Fo,lJ,cy,gM,kq,bh,bh];omega,?_⟩;unfold oK;exact GY k P.m.key P.m.c (vr k P.m) (pJ k (bc.2 (jM (TL k P) (ZX k P))))
def OI(k:ap gr)(P:gX gr key h l perm rs C):(zdP key l (zaR gr key l perm rs) (gM gr h perm C l.length)).length=1+5*l.length/\(zdP key l (zaR gr key l perm rs) (gM gr h perm C l.length)).all cT=O:=by
 have c:=P.m.pl;exact⟨by rw[Fo,lJ,gM,bh];omega,GY k P.m.key P.m.c (vr k P.m) (pJ k (bc.2 (TL k P)))⟩
def zzX(k:ap gr)(P:gX gr key h l perm rs C):(oK gr key h l perm rs C++jy gr key h l perm rs C++g8 gr key h l perm rs C).length=4+10*l.length/\(oK gr key h l perm rs C++jy gr key h l perm rs C++g8 gr key h l perm rs C).all cT=O:=by
 have c:=Ph k P;have e:=II k P;have g:=G2 k P;refine⟨by rw[cy,cy,c.1,e.1,g.1];omega,?_⟩;rw[kU,kU,c.2,pJ k (bc.2 e.2),zzy g.2];rfl
def qe(k:ap gr){s:ByteArray}(c:s.size<=40)(e:L.length<=300)(hd:L.all cT=O):mW gr s L=J (chG gr s L,O)/\qk gr s L=J (chG gr s L):=by
 refine⟨?_,Qh k (by omega) (by omega) hd⟩;rw[P7 k _ (by omega),aE (Nf k c (by omega) hd)]
def zzI(h:L.length<=1000):yk L=J L:=d6 (by omega)
def zzY(k:ap gr)(c:L.length<=300)(hd:L.all cT=O):DA gr L=J (chG gr sY L,chG gr sZ L,O):=by
 unfold DA;exact bW (ag (qe k (by decide) c hd).1 (ag (qe k (by decide) c hd).1 (ax (ψ:=(· =Z)) (bQ rfl (ak rfl)) λb e=>by subst e;exact bQ rfl (ak rfl))))
def Pc.cs(C:Pc):List Int:=C.a++(C.b++(C.c++(C.w++(C.v++(C.s++(C.g::(C.k++(C.m++[C.f]))))))))
attribute [local irreducible] rg plF pwF chF uF dlF c2F rF abF eF dtN sdV vc
set_option maxHeartbeats 4000000 in
def ZV(k:ap gr){B:ct}(P:gX gr key B.H l perm rs C):ET gr B key l perm rs C.cs=J (jh gr key B.H l perm rs C,O):=by
 have hp:=k.p;have hq:=k.q;have g:0<gr.Q/\gr.Q<=2000000000:=by omega
 have hn:=P.m.n;have j:=P.m.pl;have fJ:=P.m.rl;have hk:=d9 k P.m.key;have c:=d9 k P.hh;have lv:(zaR gr key l perm rs).length=l.length:=by rw[lJ,P.m.pl]
 have E:=sH k (vr k P.m);have fo:=m7 (zaR gr key l perm rs);rw[lv]at fo;have hx:E9 gr.Q (nC gr key B.H l perm rs C):=mQ k _ _;have F:E9 gr.Q (rH gr key B.H l perm rs C):=mQ k _ _;have hz:E9 gr.Q (uG gr key B.H l perm rs C):=mQ k _ _;have r:E9 gr.Q (kJ gr key B.H l perm rs C):=mQ k _ _;have S:=OI k P;have T:=Ph k P;have u:=zzX k P;have a4:=G2 k P;have U:=II k P;have D:∀i,E9 gr.Q (jZ gr key B.H l perm rs C i):=λi=>Ns g.1 _ _ _
 have ue:∀i,E9 gr.Q (lX gr key B.H l perm rs C i):=λi=>by unfold lX uF;exact gC g.1 _
 have de:∀i,E9 gr.Q (dlF gr.Q (lX gr key B.H l perm rs C) C i):=λi=>by unfold dlF;exact gC g.1 _
 have lP:(gM gr B.H perm C l.length).length=l.length:=bh _ _;have lW:(kq gr key B.H l perm rs C).length=l.length:=bh _ _;have X:=Vj k P.m;have c2:=zFm (B:=B) k c P.pr j P.c.a.1 (by omega);have c3:=ER (key:=key) (l:=l) (out:=zaR gr key l perm rs) (m:=gM gr B.H perm C l.length) (by omega) (by omega) (by omega);have c4:=(qe k (s:=sX) (by decide) (by omega) S.2).1;have c5:=zAI (B:=B) (A:=gM gr B.H perm C l.length) k c P.pr j P.c.b.1 (by omega) hx;have c6:=ER (key:=key) (l:=l) (out:=zaR gr key l perm rs) (m:=gM gr B.H perm C l.length++kq gr key B.H l perm rs C) (by omega) (by omega) (by rw[cy];omega);have c7:=zzY k (L:=oK gr key B.H l perm rs C) (by omega) T.2;have c8:=zBb (B:=B) (A:=gM gr B.H perm C l.length) (W:=kq gr key B.H l perm rs C) k c P.pr j P.c (by omega) (x:=nC gr key B.H l perm rs C) F hz;have c9:=(zvc (A:=[]) (CA (B:=B) k c) P.c.w.1 P.c.v.1 (by omega) (by simp)).trans (show _=J (rg (MT gr B.H C) l.length)from by rw[nb];rfl);have zn:=λA o=>zAO (A:=A) k c U P.c (by omega) o
 have tu:=λA o=>zvc (A:=A) (CA (B:=B) k c) P.c.k.1 P.c.m.1 (by omega) o
 have N:=(tB (l:=zaR gr key l perm rs) (by omega)).1;have I:=pC (m:=C.k) k E.1 (by have:=P.c.k.1;omega);have K:=pC (m:=C.k) k E.2 (by have:=P.c.k.1;omega)
 have Y:se [oK gr key B.H l perm rs C,jy gr key B.H l perm rs C,g8 gr key B.H l perm rs C]=J (oK gr key B.H l perm rs C++jy gr key B.H l perm rs C++g8 gr key B.H l perm rs C):=by
  have e:[oK gr key B.H l perm rs C,jy gr key B.H l perm rs C,g8 gr key B.H l perm rs C].flatten=oK gr key B.H l perm rs C++jy gr key B.H l perm rs C++g8 gr key B.H l perm rs C:=by simp
  rw[Kq _ (by rw[e,u.1];omega),e]
 have H:=(qe k (s:=sE) (by decide) (by omega) u.2).1;have c17:=zBj k P.c ue de D (by omega) F r;have lE:(rg (jZ gr key B.H l perm rs C) l.length).length=l.length:=bh _ _;have G:=((TS g (l:=rs) (m:=rg (jZ gr key B.H l perm rs C) l.length) (zG P.m.re) (nG λi _=>D i) (by omega)).trans (by rw[fJ]):xB rs (rg (jZ gr key B.H l perm rs C) l.length) gr.Q=J (dtN gr.Q rs (rg (jZ gr key B.H l perm rs C) l.length) l.length))
 have Q:=A4 g.1 rs (rg (jZ gr key B.H l perm rs C) l.length) l.length;have ie:ix C.c ((l.length-1:Nat):Int)=J (C.c.getD (l.length-1) 0):=eo (by have:=P.c.c.1;omega);have M:E9 gr.Q (C.c.getD (l.length-1) 0):=eO P.c.c.2 (by have:=P.c.c.1;omega);have x1:=(ma k _).trans (iB (λv=>J (v%gr.Q)) (iY (by omega) P.c.g r M).1);have x2:=(ma k _).trans (iB (λv=>J (v%gr.Q)) (iY (by omega) P.c.f r Q).1);have w1:i64.wrap ((l.length:Int)-1)=((l.length-1:Nat):Int):=cU (by omega) (by omega);unfold ET Pc.cs;refine bW (ag (mE P.c.a.1) (ag (mE P.c.b.1) (ag (mE P.c.c.1) (ag (mE P.c.w.1) (ag (mE P.c.v.1) (ag (mE P.c.s.1) (ag (Al _ _) (ag (mE P.c.k.1) (ag (mE P.c.m.1) (ag (Al _ _) ?_))))))))));dsimp only;refine ag X (ag c2 (ag c3 (ag c4 (ag c5 ?_))));dsimp only;refine ag (zzI (by show(gM gr B.H perm C l.length).length<=_;omega)) (aJ (by rw[lP,bh];omega) (ag c6 (ag c7 (ag c8 ?_))));dsimp only;refine aJ (by rw[bh];simp;omega) (ag rfl (ag c9 (ag (zn _ ?_) (ag (fB k c _) (aJ ?_ (ag (tu _ ?_) (ag N ?_)))))))
 ·rw[bh];omega
 ·simp only[cy,bh];omega
 ·simp only[cy,bh,fG,iC];omega
 refine ag (fB k (fR k) _) (ag I (ag (j4 k (bH k _ _) (fO k _ _)) (ag (fB k hk _) (ag K (ag (j4 k (bH k _ _) (fO k _ _)) (aJ ?_ (ag Y (ag H (ax (ψ:=(· =Z)) (bQ rfl (bQ rfl (ak rfl))) ?_)))))))))
 ·simp only[cy,bh,fG,iC];omega
 rintro _ rfl;refine bQ rfl (ag c17 ?_);rw[w1];refine ag ie (ag x1 (ag G (ag x2 (ag (Kq _ ?_) (ak ?_)))))
 ·simp[bh];omega
 unfold jh PP;simp only[HK,List.flatten_nil,sn];rfl
end
end
section
variable {gr:am}{h:Int}{perm:List Int}{C:Pc}{n:Nat}
variable{A W:List Int}
def zHd(k:ap gr)(c:∀x∈perm,0<=x/\x<=1000)(e:perm.length=n)(m:n<=100){x:Int}(g:E9 gr.Q x):HY gr perm x=J (rg (eF gr.Q x perm) n):=by
 unfold HY;rw[e];refine bW (ag (qx (λi=>rg (eF gr.Q x perm) i) rfl λi j=>?_) (ak rfl));have c:=eO c (i:=i) (by omega);refine ag (eo (by omega)) (ag (VF k g c).2 (aJ (by rw[bh];omega) (ak ?_)));rw[pI];rfl
def zyL(k:ap gr)(m:R9 h)(u:C.b.length=n)(v:n<=100){e:Nat->Int}:aO (σ:=(List Int)×List Int×List Int×List Int×List Int×List Int) (λkc c=>
 (ix (rg e n) kc).bind λr=>
 (ix C.b kc).bind λg=>
 (oE gr h r g).bind λj=>
 gd ((c.2.1.length+1)*8<=140737488355328/\c.2.1.length+1<=4611686018427387904)<|
 J (.go (c.1,c.2.1++[j],c.2.2.1,c.2.2.2.1,c.2.2.2.2.1,c.2.2.2.2.2))) (λc=>(c.1,c.2.1,c.2.2.1,c.2.2.2.1,c.2.2.2.2.1,c.2.2.2.2.2)) n 0 (A,[],[],[],[],[])=J (A,rg (pwF gr h e C) n,[],[],[],[]):=by
 refine qx (λi=>(A,rg (pwF gr h e C) i,[],[],[],[])) rfl λi o=>?_
 refine ag (tT _ o) (ag (eo (by omega)) (ag (F8 k m _ _) (aJ (by rw[bh];omega) (ak ?_))));rw[pI];rfl
def zy6(k:ap gr)(H:R9 h)(o:∀x∈perm,0<=x/\x<=1000)(K:perm.length=n)(c:wQ gr.Q n C)(Y:n<=100){x y z:Int}(P:E9 gr.Q y)(Q:E9 gr.Q z) :aO (σ:=(List Int)×List Int×List Int×List Int×List Int×List Int×List Int×List Int×Int×Int) (λv e=>
 (ix perm v).bind λT=>
 gd (gr.Q≠0)<|
 (ix (rg (eF gr.Q x perm) n) v).bind λG=>
 (q9 (i64.wrap ((i64.wrap ((i64.wrap (y*((i64.wrap (T+1)).tmod gr.Q)))+G))-z)) gr.Q).bind λj=>
 gd ((e.2.2.2.2.2.2.1.length+1)*8<=140737488355328/\e.2.2.2.2.2.2.1.length+1<=4611686018427387904)<|
 gd (gr.Q≠0)<|
 (ix C.c v).bind λr=>
 (oE gr h ((i64.wrap (e.2.2.2.2.2.2.2.2.1*j)).tmod gr.Q) r).bind λU=>
 gd ((e.2.2.1.length+1)*8<=140737488355328/\e.2.2.1.length+1<=4611686018427387904)<|
 (q9 (i64.wrap (r-(i64.wrap (e.2.2.2.2.2.2.2.2.2*j)))) gr.Q).bind λS=>
 gd ((e.2.2.2.2.2.2.2.1.length+1)*8<=140737488355328/\e.2.2.2.2.2.2.2.1.length+1<=4611686018427387904)<|
 J (.go (e.1,e.2.1,e.2.2.1++[U],e.2.2.2.1,e.2.2.2.2.1,e.2.2.2.2.2.1,e.2.2.2.2.2.2.1++[j],e.2.2.2.2.2.2.2.1++[S],(i64.wrap (e.2.2.2.2.2.2.2.2.1*j)).tmod gr.Q,r))) (λe=>(e.1,e.2.1,e.2.2.1,e.2.2.2.1,e.2.2.2.2.1,e.2.2.2.2.2.1,e.2.2.2.2.2.2.1,e.2.2.2.2.2.2.2.1)) perm.length 0 (A,W,[],[],[],[],[],[],1,0)=
  J (A,W,rg (chF gr h (uF gr.Q y z (eF gr.Q x perm) perm) C) n,[],[],[],rg (uF gr.Q y z (eF gr.Q x perm) perm) n,rg (dlF gr.Q (uF gr.Q y z (eF gr.Q x perm) perm) C) n):=by
 rw[K];have X:=k.p;have hq:=k.q;have g:0<gr.Q/\gr.Q<=2000000000:=by omega
 have D:gr.Q≠0:=by omega
 generalize F:uF gr.Q y z (eF gr.Q x perm) perm=u;have m:∀i,E9 gr.Q (u i):=λi=>by rw[<-F];exact gC g.1 _
 refine qx (λi=>(A,W,rg (chF gr h u C) i,[],[],[],rg u i,rg (dlF gr.Q u C) i,sD gr.Q u i,Bk C i)) rfl λi I=>?_
 have o:=eO o (i:=i) (by omega);have E:=eO c.c.2 (i:=i) (by have:=c.c.1;omega);have N:=(xw (q:=gr.Q) (by omega) (Xn (by omega) u i) (m i)).2;have M:=(xw (q:=gr.Q) (by omega) (zzE g.1 c (i:=i) (by omega)) (m i)).1
 have yZ:0<=Bk C i*u i/\Bk C i*u i<=2000000000*2000000000:=by
  have a:=zzE g.1 c (i:=i) (by omega);have b:=m i;exact⟨tM a.1 b.1,xO (by have:=a.2;omega) (by have:=b.2;omega) b.1 (by omega)⟩
 refine ag (eo (by omega)) (aJ D (ag (tT _ I) (ag (Ee (by omega) (by omega)) ?_)));rw[zM7 g P o (Ns g.1 _ _ _) Q,show(y*(perm.getD i 0+1)+eF gr.Q x perm i-z)%gr.Q=u i by rw[<-F];rfl];refine aJ (by rw[bh];omega) (aJ D (ag (eo (by have:=c.c.1;omega)) ?_));dsimp only;rw[N,M,aK (n:=C.c.getD i 0-Bk C i*u i) (by have:=E.1;omega) (by have:=E.2;omega)];refine ag (F8 k H _ _) (aJ (by rw[bh];omega) (ag (Ee (by omega) (by omega)) (aJ (by rw[bh];omega) (ak ?_))));simp only[pI];rfl
def Zo(k:ap gr)(g:R9 h){w v:List Int}(G:w.length=n)(F:v.length=n)(E:n<=100){H D:List Int}{X Y:List Int}(r:D.length<=1000):aO (σ:=(List Int)×List Int×List Int×List Int×List Int×List Int) (λe c=>
 (ix w e).bind λm=>
 (ix v e).bind λj=>
 (oE gr h m j).bind λo=>
 gd ((c.2.2.2.1.length+1)*8<=140737488355328/\c.2.2.2.1.length+1<=4611686018427387904)<|
 J (.go (c.1,c.2.1,c.2.2.1,c.2.2.2.1++[o],c.2.2.2.2.1,c.2.2.2.2.2))) (λc=>(c.1,c.2.1,c.2.2.1,c.2.2.2.1,c.2.2.2.2.1,c.2.2.2.2.2)) n 0 (A,W,H,D,X,Y)=J (A,W,H,D++rg (λi=>vc gr h (w.getD i 0) (v.getD i 0)) n,X,Y):=by
 refine qx (λi=>(A,W,H,D++rg (λi=>vc gr h (w.getD i 0) (v.getD i 0)) i,X,Y)) (by rw[uZ,sn]) λi u=>?_
 refine ag (eo (by omega)) (ag (eo (by omega)) (ag (F8 k g _ _) (aJ (by dsimp only;rw[cy,bh];omega) (ak ?_))));rw[vl]
def zyx(k:ap gr)(H:R9 h){ch:List Int}(m:ch.length=n/\∀z∈ch,aL gr z=O)(c:wQ gr.Q n C)(M:n<=100){D X Y:List Int}(I:D.length<=1000):aO (σ:=(List Int)×List Int×List Int×List Int×List Int×List Int×Int) (λj g=>
 (ix C.w j).bind λF=>
 (ix C.s j).bind λu=>
 (cF gr g.2.2.2.2.2.2 F).bind λv=>
 (cF gr h u).bind λE=>
 (ep gr [v,E]).bind λr=>
 gd ((g.2.2.2.1.length+1)*8<=140737488355328/\g.2.2.2.1.length+1<=4611686018427387904)<|
 (ix g.2.2.1 j).bind λo=>
 J (.go (g.1,g.2.1,g.2.2.1,g.2.2.2.1++[r],g.2.2.2.2.1,g.2.2.2.2.2.1,o))) (λg=>(g.1,g.2.1,g.2.2.1,g.2.2.2.1,g.2.2.2.2.1,g.2.2.2.2.2.1)) n 0 (A,W,ch,D,X,Y,gr.G)=J (A,W,ch,D++rg (c2F gr h ch C) n,X,Y):=by
 refine qx (λi=>(A,W,ch,D++rg (c2F gr h ch C) i,X,Y,bef gr.G ch i)) (by rw[uZ,sn];rfl) λi K=>?_
 have G:=Fs k (n6 k) m.2 i (by omega);refine ag (eo (by have:=c.w.1;omega)) (ag (eo (by have:=c.s.1;omega)) (ag (fy k G.2 _) (ag (fy k H _) (ag (iZ k (bH k _ _) (bH k _ _)) (aJ (by dsimp only;rw[cy,bh];omega) (ag (eo (by have:=m.1;dsimp only;omega)) (ak ?_)))))));have e:ch.getD i 0=bef gr.G ch (i+1):=by unfold bef;simp
 rw[vl,e];rfl
def Pn(k:ap gr){w:List Int}(v:w.length=n/\∀z∈w,E9 gr.Q z){L:List Int}{u:Nat->Int}(j:∀i,i<n->ix L (i:Int)=J (u i)/\E9 gr.Q (u i))(F:n<=100){t:Int}(r:E9 gr.Q t)(D:A.length<=1000):aO (σ:=(List Int)) (λe c=>
 (ix w e).bind λm=>
 (ix L e).bind λo=>
 gd (gr.Q≠0)<|
 gd ((c.length+1)*8<=140737488355328/\c.length+1<=4611686018427387904)<|
 J (.go (c++[(i64.wrap (m+(i64.wrap (t*o)))).tmod gr.Q]))) (λc=>c) n 0 A=J (A++rg (rF gr.Q t w u) n):=by
 have E:=k.p;have G:=k.q;refine qx (λi=>A++rg (rF gr.Q t w u) i) (by rw[uZ,sn]) λi g=>?_
 refine ag (eo (by omega)) (ag (j i g).1 (aJ (by omega) (aJ (by rw[cy,bh];omega) (ak ?_))));rw[(iY (q:=gr.Q) (by omega) (eO v.2 (by omega)) r (j i g).2).2,vl];rfl
def zy9(k:ap gr)(c:wQ gr.Q n C)(H:n<=100){y t:Int}(m:E9 gr.Q y)(D:E9 gr.Q t)(E:A.length<=1000):aO (σ:=(List Int)) (λj g=>
 (ix C.v j).bind λo=>
 (ix C.a j).bind λu=>
 (ix C.b j).bind λr=>
 gd (gr.Q≠0)<|
 gd (gr.Q≠0)<|
 gd ((g.length+1)*8<=140737488355328/\g.length+1<=4611686018427387904)<|
 J (.go (g++[(i64.wrap (o+(i64.wrap (t*((i64.wrap ((i64.wrap (y*u))+r)).tmod gr.Q))))).tmod gr.Q]))) (λg=>g) n 0 A=J (A++rg (rF gr.Q t C.v (abF gr.Q y C)) n):=by
 have F:=k.p;have I:=k.q;refine qx (λi=>A++rg (rF gr.Q t C.v (abF gr.Q y C)) i) (by rw[uZ,sn]) λi G=>?_
 have e:∀{l:List Int},(l.length=n/\∀z∈l,E9 gr.Q z)->E9 gr.Q (l.getD i 0):=λh=>eO h.2 (by omega)
 refine ag (eo (by have:=c.v.1;omega)) (ag (eo (by have:=c.a.1;omega)) (ag (eo (by have:=c.b.1;omega)) (aJ (by omega) (aJ (by omega) (aJ (by rw[cy,bh];omega) (ak ?_))))));have v:(y*C.a.getD i 0+C.b.getD i 0).tmod gr.Q=(y*C.a.getD i 0+C.b.getD i 0)%gr.Q:=ju (by have:=tM m.1 (e c.a).1;have:=(e c.b).1;omega);rw[zCn (q:=gr.Q) (by omega) m (e c.a) (e c.b),v,(iY (q:=gr.Q) (by omega) (e c.v) D (gC (by omega) _)).2,vl];rfl
end
def ya{g:Type}{A X R L:List g}{p q:Nat}(e:L=A++(X++R))(c:A.length=p)(j:p+X.length=q):(L.take q).drop p=X:=by
 rw[e,<-gO,a1X (by simp;omega),QI c]
def Of(key:Int)(l out:List ao)(m w:List Int):zdP key l out m++w=zdP key l out (m++w):=by simp[zdP]
def zEG{q:Int}{n:Nat}{C:Pc}(c:wQ q n C):C.cs.length=8*n+2/\(C.cs.take n).drop 0=C.a/\(C.cs.take (2*n)).drop n=C.b/\(C.cs.take (3*n)).drop (2*n)=C.c/\(C.cs.take (4*n)).drop (3*n)=C.w/\(C.cs.take (5*n)).drop (4*n)=C.v/\(C.cs.take (6*n)).drop (5*n)=C.s/\(C.cs.take (7*n+1)).drop (6*n+1)=C.k/\(C.cs.take (8*n+1)).drop (7*n+1)=C.m/\ix C.cs ((6*n:Nat):Int)=J C.g/\ix C.cs ((8*n+1:Nat):Int)=J C.f:=by
 have j:=c.a.1;have k:=c.b.1;have m:=c.c.1;have D:=c.w.1;have v:=c.v.1;have u:=c.s.1;have o:=c.k.1;have r:=c.m.1;refine⟨by simp[Pc.cs];omega,?_,?_,?_,?_,?_,?_,?_,?_,?_,?_⟩
 ·exact ya (A:=[]) (R:=(C.b++(C.c++(C.w++(C.v++(C.s++(C.g::(C.k++(C.m++[C.f]))))))))) (by simp[Pc.cs]) rfl (by omega)
 ·exact ya (A:=C.a) (R:=(C.c++(C.w++(C.v++(C.s++(C.g::(C.k++(C.m++[C.f])))))))) (by simp[Pc.cs]) j (by omega)
 ·exact ya (A:=(C.a++C.b)) (R:=(C.w++(C.v++(C.s++(C.g::(C.k++(C.m++[C.f]))))))) (by simp[Pc.cs]) (by simp;omega) (by omega)
 ·exact ya (A:=(C.a++(C.b++C.c))) (R:=(C.v++(C.s++(C.g::(C.k++(C.m++[C.f])))))) (by simp[Pc.cs]) (by simp;omega) (by omega)
 ·exact ya (A:=(C.a++(C.b++(C.c++C.w)))) (R:=(C.s++(C.g::(C.k++(C.m++[C.f]))))) (by simp[Pc.cs]) (by simp;omega) (by omega)
 ·exact ya (A:=(C.a++(C.b++(C.c++(C.w++C.v))))) (R:=(C.g::(C.k++(C.m++[C.f])))) (by simp[Pc.cs]) (by simp;omega) (by omega)
 ·exact ya (A:=(C.a++(C.b++(C.c++(C.w++(C.v++(C.s++[C.g]))))))) (R:=(C.m++[C.f])) (by simp[Pc.cs]) (by simp;omega) (by omega)
 ·exact ya (A:=(C.a++(C.b++(C.c++(C.w++(C.v++(C.s++([C.g]++C.k)))))))) (R:=[C.f]) (by simp[Pc.cs]) (by simp;omega) (by omega)
 ·have e:C.cs=(C.a++(C.b++(C.c++(C.w++(C.v++C.s)))))++(C.g::(C.k++(C.m++[C.f]))):=by simp[Pc.cs]
  have g:(C.a++(C.b++(C.c++(C.w++(C.v++C.s))))).length=6*n:=by simp;omega
  exact JI (by rw[e,f9 (by omega),g,Nat.sub_self];rfl)
 have e:C.cs=(C.a++(C.b++(C.c++(C.w++(C.v++(C.s++([C.g]++(C.k++C.m))))))))++[C.f]:=by simp[Pc.cs]
 have g:(C.a++(C.b++(C.c++(C.w++(C.v++(C.s++([C.g]++(C.k++C.m)))))))).length=8*n+1:=by simp;omega
 exact JI (by rw[e,f9 (by omega),g,Nat.sub_self];rfl)
section
attribute [local irreducible] chG zaR zdP zaP
section
variable {gr:am}{key h:Int}{l:List ao}{perm rs:List Int}{C:Pc}
def zF3(k:ap gr)(P:gX gr key h l perm rs C):Az gr key l (zaR gr key l perm rs) (gM gr h perm C l.length) (kq gr key h l perm rs C)=J (rH gr key h l perm rs C,uG gr key h l perm rs C):=by
 have g:=P.m.n;have o:(zaR gr key l perm rs).length=l.length:=by rw[lJ,P.m.pl]
 have j:(gM gr h perm C l.length).length=l.length:=bh _ _;have m:(kq gr key h l perm rs C).length=l.length:=bh _ _;have e:=OI k P;have c:=Ph k P;unfold Az;refine bW (ag (Au (by omega) (by omega) (by omega)) (aJ (by omega) ?_));rw[Of];exact ag (qe k (s:=sY) (by decide) (by have:=c.1;omega) c.2).2 (ag (qe k (s:=sZ) (by decide) (by have:=c.1;omega) c.2).2 (ak rfl))
def zEU(k:ap gr)(P:gX gr key h l perm rs C){x y:List Int}:Ah gr key l (zaR gr key l perm rs) ⟨gM gr h perm C l.length,kq gr key h l perm rs C,jy gr key h l perm rs C,⟨g8 gr key h l perm rs C,x,y⟩⟩=J (kJ gr key h l perm rs C):=by
 have m:=P.m.n;have D:(zaR gr key l perm rs).length=l.length:=by rw[lJ,P.m.pl]
 have u:(gM gr h perm C l.length).length=l.length:=bh _ _;have v:(kq gr key h l perm rs C).length=l.length:=bh _ _;have o:=(II k P).1;have r:=(G2 k P).1;have g:=OI k P;have e:=Ph k P;have c:=zzX k P;have j:(zdP key l (zaR gr key l perm rs) (gM gr h perm C l.length++kq gr key h l perm rs C)).length=1+6*l.length:=e.1;unfold Ah;dsimp only;refine bW (ag (Au (by omega) (by omega) (by omega)) (aJ (by omega) ?_));rw[Of];exact aJ (by omega) (aJ (by rw[cy];omega) (ag (qe k (s:=sE) (by decide) (by have:=c.1;unfold oK at this;omega) c.2).2 (ak rfl)))
attribute [local irreducible] rg plF pwF chF uF dlF c2F rF abF eF dtN sdV vc
set_option maxHeartbeats 4000000 in
def zGe(k:ap gr)(P:gX gr key h l perm rs C):Hc gr key h l perm rs C.cs=J (jh gr key h l perm rs C):=by
 have hp:=k.p;have hq:=k.q;have r:0<gr.Q/\gr.Q<=2000000000:=by omega
 have U:gr.Q≠0:=by omega
 have hn:=P.m.n;have M:=P.m.pl;have T:=P.m.rl;have hk:=d9 k P.m.key;have j:=d9 k P.hh;have lv:(zaR gr key l perm rs).length=l.length:=by rw[lJ,P.m.pl]
 have N:=sH k (vr k P.m);have v:=m7 (zaR gr key l perm rs);rw[lv]at v;have hx:E9 gr.Q (nC gr key h l perm rs C):=mQ k _ _;have hy:E9 gr.Q (rH gr key h l perm rs C):=mQ k _ _;have hz:E9 gr.Q (uG gr key h l perm rs C):=mQ k _ _;have o:E9 gr.Q (kJ gr key h l perm rs C):=mQ k _ _;have a1:=OI k P;have a4:=G2 k P;have a5:=II k P;have S:∀i,E9 gr.Q (jZ gr key h l perm rs C i):=λi=>Ns r.1 _ _ _
 have ue:∀i,E9 gr.Q (lX gr key h l perm rs C i):=λi=>by unfold lX uF;exact gC r.1 _
 have de:∀i,E9 gr.Q (dlF gr.Q (lX gr key h l perm rs C) C i):=λi=>by unfold dlF;exact gC r.1 _
 have lP:(gM gr h perm C l.length).length=l.length:=bh _ _;have c1:=Vc k P.m;have c2:=zGn (h:=h) k j P.pr M P.c.a.1 (by omega);have c3:=Au (key:=key) (l:=l) (out:=zaR gr key l perm rs) (m:=gM gr h perm C l.length) (by omega) (by omega) (by omega);have c4:=(qe k (s:=sX) (by decide) (by omega) a1.2).2;have c5:=zHd k P.pr M (by omega) hx;have c6:=zyL (A:=gM gr h perm C l.length) (e:=jZ gr key h l perm rs C) k j P.c.b.1 (by omega);have c7:=zF3 k P;have c8:=zy6 (A:=gM gr h perm C l.length) (W:=kq gr key h l perm rs C) k j P.pr M P.c (by omega) (x:=nC gr key h l perm rs C) hy hz;have c9:=(Zo (A:=gM gr h perm C l.length) (W:=kq gr key h l perm rs C) (H:=jy gr key h l perm rs C) (D:=[]) (X:=[]) (Y:=[]) k j P.c.w.1 P.c.v.1 (by omega) (by simp)).trans (show _=J (gM gr h perm C l.length,kq gr key h l perm rs C,jy gr key h l perm rs C,rg (MT gr h C) l.length,[],[])from by rw[nb];rfl);have zn:=λD Q=>zyx (A:=gM gr h perm C l.length) (W:=kq gr key h l perm rs C) (D:=D) (X:=[]) (Y:=[]) k j a5 P.c (by omega) Q
 have tu:=λD Q=>Zo (A:=gM gr h perm C l.length) (W:=kq gr key h l perm rs C) (H:=jy gr key h l perm rs C) (D:=D) (X:=[]) (Y:=[]) k j P.c.k.1 P.c.m.1 (by omega) Q
 have Va:=(tB (l:=zaR gr key l perm rs) (by omega)).2;have Sw:=oZ (m:=C.k) k N.1 (by rw[v.1,P.c.k.1];exact cq _);have Tf:=oZ (m:=C.k) k N.2 (by rw[v.2,P.c.k.1];exact cq _);have Rk:=zEU k P (x:=[]) (y:=[]);have r1:=λA c=>Pn (A:=A) k P.c.w (L:=rg (lX gr key h l perm rs C) l.length) (u:=lX gr key h l perm rs C) (λi g=>⟨tT _ g,ue i⟩) (by omega) o c
 have r2:=λA c=>zy9 (A:=A) k P.c (by omega) hy o c
 have r3:=λA c=>Pn (A:=A) k P.c.s (L:=rg (dlF gr.Q (lX gr key h l perm rs C) C) l.length) (u:=dlF gr.Q (lX gr key h l perm rs C) C) (λi g=>⟨tT _ g,de i⟩) (by omega) o c
 have r4:=λA c=>Pn (A:=A) k P.c.k (L:=rg (jZ gr key h l perm rs C) l.length) (u:=jZ gr key h l perm rs C) (λi g=>⟨tT _ g,S i⟩) (by omega) o c
 have r5:=λA c=>Pn (A:=A) k P.c.m (L:=C.b) (u:=λi=>C.b.getD i 0) (λi g=>⟨eo (by rw[P.c.b.1];exact g),eO P.c.b.2 (by rw[P.c.b.1];exact g)⟩) (by omega) o c
 have Ra:=((SD r (l:=rs) (m:=rg (jZ gr key h l perm rs C) l.length) (zG P.m.re) (nG λi _=>S i) ((bh _ _).trans T.symm)).trans (by rw[T]):vZ rs (rg (jZ gr key h l perm rs C) l.length) gr.Q=J (dtN gr.Q rs (rg (jZ gr key h l perm rs C) l.length) l.length))
 have Vm:=A4 r.1 rs (rg (jZ gr key h l perm rs C) l.length) l.length;have ie:ix C.c ((l.length-1:Nat):Int)=J (C.c.getD (l.length-1) 0):=eo (by rw[P.c.c.1];omega);have UL:E9 gr.Q (C.c.getD (l.length-1) 0):=eO P.c.c.2 (by rw[P.c.c.1];omega);have x1:=(iY (q:=gr.Q) (by omega) P.c.g o UL).2;have x2:=(iY (q:=gr.Q) (by omega) P.c.f o Vm).2;have w1:i64.wrap ((l.length:Int)-1)=((l.length-1:Nat):Int):=cU (by omega) (by omega);have w2:i64.wrap (2*(l.length:Int))=((2*l.length:Nat):Int):=cU (by omega) (by omega);have w3:i64.wrap (3*(l.length:Int))=((3*l.length:Nat):Int):=cU (by omega) (by omega);have w4:i64.wrap (4*(l.length:Int))=((4*l.length:Nat):Int):=cU (by omega) (by omega);have w5:i64.wrap (5*(l.length:Int))=((5*l.length:Nat):Int):=cU (by omega) (by omega);have w6:i64.wrap (6*(l.length:Int))=((6*l.length:Nat):Int):=cU (by omega) (by omega);have w7:i64.wrap (7*(l.length:Int))=((7*l.length:Nat):Int):=cU (by omega) (by omega);have w8:i64.wrap (8*(l.length:Int))=((8*l.length:Nat):Int):=cU (by omega) (by omega);have w61:i64.wrap (((6*l.length:Nat):Int)+1)=((6*l.length+1:Nat):Int):=cU (by omega) (by omega);have w71:i64.wrap (((7*l.length:Nat):Int)+1)=((7*l.length+1:Nat):Int):=cU (by omega) (by omega);have w81:i64.wrap (((8*l.length:Nat):Int)+1)=((8*l.length+1:Nat):Int):=cU (by omega) (by omega);obtain⟨a27,c,hB,hCc,hW,hV,hS,hK,hM,hg,hf⟩:=zEG P.c;generalize C.cs=aI at*;clear v N;unfold Hc;simp only[w1,w2,w3,w4,w5,w6,w7,w8,w61,w71,w81,dT,c,hB,hCc,hW,hV,hS,hK,hM,P.c.w.1,P.c.k.1];refine bW (ag c1 ?_)
 iterate 17 refine aJ (by omega) ?_
 refine ag hg ?_
 iterate 6 refine aJ (by omega) ?_
 refine ag hf (ag c2 (ag c3 (ag c4 (ag c5 ?_))));rw[show(rg (eF gr.Q (nC gr key h l perm rs C) perm) l.length).length=l.length from bh _ _];refine ag c6 (ag c7 (ag c8 (ag Va (ag c9 (ag (zn _ ?_) ?_)))))
 ·rw[bh];omega
 dsimp only;refine ag (fy k j _) (aJ ?_ (ag (tu _ ?_) ?_))
 ·simp only[cy,bh];omega
 ·simp only[cy,bh,fG,iC];omega
 dsimp only;refine ag (fy k (fR k) _) (ag Sw (ag (iZ k (bH k _ _) (fO k _ _)) (ag (fy k hk _) (ag Tf (ag (iZ k (bH k _ _) (fO k _ _)) (aJ ?_ (ag Rk ?_)))))))
 ·simp only[cy,bh,fG,iC];omega
 refine ag (r1 _ (by simp)) (ag (r2 _ ?_) (ag (r3 _ ?_) (ag ie (aJ U (aJ ?_ (ag (r4 _ ?_) (ag (r5 _ ?_) (ag Ra (aJ U (aJ ?_ (ak ?_)))))))))))
 ·simp only[cy,bh,iC];omega
 ·simp only[cy,bh,iC];omega
 ·simp only[cy,bh,iC];omega
 ·simp only[cy,bh,fG,iC];omega
 ·simp only[cy,bh,fG,iC];omega
 ·simp only[cy,bh,fG,iC];omega
 have eR:∀E F G I K:List Int,∀a b:Int,[]++E++F++G++[a]++I++K++[b]=E++(F++(G++([a]++(I++(K++[b]))))):=λE F G I K a b=>by simp
 rw[x1,x2,eR];unfold jh PP;rfl
end
end
abbrev BI:cu:=⟨[],[],[],⟨[],[],[]⟩⟩
variable{q:Int}
def rX{l:List Int}{n m:Nat}(h:l.length=n+m):∃a r,l=a++r/\a.length=n/\r.length=m:=⟨l.take n,l.drop n,(Mp n l).symm,by simp;omega,by simp;omega⟩
def Yv{n:Nat}{u:List Int}(Y:u.length=8*n+2)(e:∀z∈u,E9 q z):∃C:Pc,u=C.cs/\wQ q n C:=by
 obtain⟨a,r,rfl,E,P⟩:=rX (l:=u) (n:=n) (m:=7*n+2) (by omega);obtain⟨b,r,rfl,F,Q⟩:=rX (l:=r) (n:=n) (m:=6*n+2) (by omega);obtain⟨c,r,rfl,G,S⟩:=rX (l:=r) (n:=n) (m:=5*n+2) (by omega);obtain⟨w,r,rfl,N,T⟩:=rX (l:=r) (n:=n) (m:=4*n+2) (by omega);obtain⟨v,r,rfl,M,U⟩:=rX (l:=r) (n:=n) (m:=3*n+2) (by omega);obtain⟨s,r,rfl,K,o⟩:=rX (l:=r) (n:=n) (m:=2*n+2) (by omega)
 match r,o with
 |g::r,o=>
  simp only[fG]at o;obtain⟨k,r,rfl,H,X⟩:=rX (l:=r) (n:=n) (m:=n+1) (by omega);obtain⟨m,r,rfl,I,D⟩:=rX (l:=r) (n:=n) (m:=1) (by omega)
  match r,D with
  |[f],_=>
   refine⟨⟨a,b,c,w,v,s,g,k,m,f⟩,rfl,⟨E,λz j=>e z ?_⟩,⟨F,λz j=>e z ?_⟩,⟨G,λz j=>e z ?_⟩,⟨N,λz j=>e z ?_⟩,⟨M,λz j=>e z ?_⟩,⟨K,λz j=>e z ?_⟩,e g ?_,⟨H,λz j=>e z ?_⟩,⟨I,λz j=>e z ?_⟩,e f ?_⟩<;>simp_all
  |[],h=>simp at h
  |_::_::_,h=>simp at h
 |[],o=>simp at o
structure PpX (gr:am) (key:Int) (l:List ao) (perm rs aI:List Int) (p:cu):Prop where
 k:ap gr
 x:∃(B:ct) (C:Pc),aI=C.cs/\gX gr key B.H l perm rs C/\p=jh gr key B.H l perm rs C/\kR gr 0=J (B,O)
def K8{gr:am}(k:ap gr)(key:Int){l:List ao}(hd:qw gr l.length)(m:l.length<=13):∃B,pX gr 0=J (B,O)/\kR gr 0=J (B,O)/\aL gr B.H=O/\qu gr key l=J (if dm gr key l=O then(B,O)else(⟨0,[]⟩,Z)):=by
 obtain⟨o,_,e,_⟩:=Im k hd m;obtain⟨B,g,c,j⟩:=Im k (n:=0) (hd.le (by omega)) (by omega);have c:kR gr 0=J (B,O):=c;refine⟨B,g,c,j.h,?_⟩;unfold qu;rw[uE k key l e,c];cases dm gr key l<;>rfl
def OZ{gr:am}(k:ap gr)(hd:okD gr=O)(key:Int){l:List ao}(c:l.length<=13):∃B,pX gr 0=J (B,O)/\kR gr 0=J (B,O)/\aL gr B.H=O/\qu gr key l=J (if dm gr key l=O then(B,O)else(⟨0,[]⟩,Z)):=K8 k key (CB k hd c) c
def MI{gr:am}(k:¬ap gr)(key:Int)(l:List ao):qu gr key l=J (⟨0,[]⟩,Z):=by
 unfold qu;rw[Lg k];rfl
def zKD(gr:am)(N:Dg gr)(key:Int){l:List ao}(Q:l.length<=13)(perm rs c:List Int):∃p t,tn gr key l perm rs c=J (p,t)/\zI gr key l perm rs c=J (p,t)/\(t=Z->p=BI)/\(t=O->PpX gr key l perm rs c p):=by
 have j:i64.wrap (i64.wrap (8*(l.length:Int))+2)=((8*l.length+2:Nat):Int):=by
  rw[aK (n:=8*(l.length:Int)) (by omega) (by omega)];exact cU (by omega) (by omega)
 by_cases k:ap gr
 ·have X:=k.q;have U:=k.p;obtain⟨B,o,r,u,v⟩:=OZ k (N k) key Q;have D:((rs.length:Int) !=(l.length:Int))= !decide (rs.length=l.length):=by by_cases h:rs.length=l.length<;>simp[h];omega
  have g:((c.length:Int) !=((8*l.length+2:Nat):Int))= !decide (c.length=8*l.length+2):=by by_cases h:c.length=8*l.length+2<;>simp[h];omega
  have I:tn gr key l perm rs c=if(dm gr key l&&(ku gr l.length perm rs&&(decide (c.length=8*l.length+2)&&c.all (dB gr))))=O then(ET gr B key l perm rs c).bind (λz=>J (z.1,z.2))else J (BI,Z):=by
   unfold tn;rw[v,Ab k (by omega),show(decide (perm.length=l.length)&&dc perm&&(decide (rs.length=l.length)&&rs.all (dB gr)))=ku gr l.length perm rs from rfl,j,g,yc (by omega) (by omega)];cases dm gr key l<;>cases ku gr l.length perm rs<;>cases decide (c.length=8*l.length+2)<;>cases c.all (dB gr)<;>rfl
  have S:zI gr key l perm rs c=if(dm gr key l&&(ku gr l.length perm rs&&(decide (c.length=8*l.length+2)&&c.all (dB gr))))=O then(Hc gr key B.H l perm rs c).bind (λz=>J (z,O))else J (BI,Z):=by
   unfold zI Gq;rw[uT k,show(aL gr key&&(di 1 12 l.length&&l.all (b8 gr)))=dm gr key l from rfl,TK perm l.length (by omega),BG (l:=rs) (by omega) (by omega),BG (l:=c) (by omega) (by omega),D,j,g,o];unfold ku;cases dm gr key l<;>cases (decide (perm.length=l.length)&&dc perm)<;>cases decide (rs.length=l.length)<;>cases rs.all (dB gr)<;>cases decide (c.length=8*l.length+2)<;>cases c.all (dB gr)<;>rfl
  by_cases e:(dm gr key l&&(ku gr l.length perm rs&&(decide (c.length=8*l.length+2)&&c.all (dB gr))))=O
  ·rw[aE e]at I S;obtain⟨E,T⟩:=B0.1 e;obtain⟨F,H⟩:=B0.1 T;obtain⟨G,K⟩:=B0.1 H;have m:=O7.1 (show(dm gr key l&&ku gr l.length perm rs)=O by rw[E,F];rfl);obtain⟨C,rfl,M⟩:=Yv (zw G) (zG K);have P:gX gr key B.H l perm rs C:=⟨m,u,M⟩
   rw[ZV k P]at I;rw[zGe k P]at S;exact⟨jh gr key B.H l perm rs C,O,I,S,λh=>(by cases h),λ_=>⟨k,B,C,rfl,P,rfl,r⟩⟩
  rw[aA e]at I S;exact⟨BI,Z,I,S,λ_=>rfl,λh=>by cases h⟩
 refine⟨BI,Z,?_,?_,λ_=>rfl,λh=>by cases h⟩
 ·unfold tn;rw[MI k];rfl
 unfold zI;rw[D1 k];rfl
def zDl{gr:am}{key:Int}{l:List ao}(g:l.length<=13){perm rs c:List Int}{p:cu}(h:PpX gr key l perm rs c p):p.bX.length<=1000/\p.bN.length<=1000/\p.aH.length<=1000/\p.Pi.aF.length<=1000/\p.Pi.aX.length<=1000/\p.Pi.aG.length<=1000:=by
 obtain⟨k,B,C,_,P,rfl,_⟩:=h;have e:=(G2 k P).1;refine⟨?_,?_,?_,?_,by simp[jh],by simp[jh,PP,bh];omega⟩
 ·show(rg _ l.length).length<=_;rw[bh];omega
 ·show(rg _ l.length).length<=_;rw[bh];omega
 ·show(rg _ l.length).length<=_;rw[bh];omega
 show(g8 gr key B.H l perm rs C).length<=_;omega
def tv(gr:am)(n:Nat)(p:cu):Bool:=decide (p.bX.length=n)&&(decide (p.bN.length=n)&&(decide (p.aH.length=n)&&(decide (p.Pi.aF.length=3*n+3)&&(decide (p.Pi.aX.length=1)&&(decide (p.Pi.aG.length=5*n+2)&&(p.bX.all (aL gr)&&(p.bN.all (aL gr)&&(p.aH.all (aL gr)&&(p.Pi.aF.all (aL gr)&&p.Pi.aG.all (dB gr))))))))))
def zz8{gr:am}(k:ap gr){n:Nat}(I:n<=1000)(p:cu):JO gr p (n:Int)=J (tv gr n p):=by
 have M:=k.q;have K:=k.p
 have E:i64.wrap (i64.wrap (3*(n:Int))+3)=((3*n+3:Nat):Int):=by
  rw[aK (n:=3*(n:Int)) (by omega) (by omega)];exact cU (by omega) (by omega)
 have F:i64.wrap (i64.wrap (5*(n:Int))+2)=((5*n+2:Nat):Int):=by
  rw[aK (n:=5*(n:Int)) (by omega) (by omega)];exact cU (by omega) (by omega)
 have G:((p.Pi.aX.length:Int)==1)=decide (p.Pi.aX.length=1):=iT _ 1;unfold JO;rw[E,F,iT,iT,iT,iT,iT,G,C3 k,C3 k,C3 k,C3 k,yc (by omega) (by omega)];unfold tv;generalize decide (p.bX.length=n)=e;generalize decide (p.bN.length=n)=g;generalize decide (p.aH.length=n)=j;generalize decide (p.Pi.aF.length=3*n+3)=m;generalize decide (p.Pi.aX.length=1)=o;generalize decide (p.Pi.aG.length=5*n+2)=r;generalize p.bX.all (aL gr)=u;generalize p.bN.all (aL gr)=v;generalize p.aH.all (aL gr)=D;generalize p.Pi.aF.all (aL gr)=c;generalize p.Pi.aG.all (dB gr)=H;cases e
 ·rfl
 cases g
 ·rfl
 cases j
 ·rfl
 cases m
 ·rfl
 cases o
 ·rfl
 cases r
 ·rfl
 cases u
 ·rfl
 cases v
 ·rfl
 cases D
 ·rfl
 cases c<;>rfl
def Y1{gr:am}(k:ap gr){n:Nat}(I:n<=1000)(p:cu):Jk gr (n:Int) p=J (tv gr n p):=by
 have M:=k.q;have K:=k.p
 have E:i64.wrap (i64.wrap (3*(n:Int))+3)=((3*n+3:Nat):Int):=by
  rw[aK (n:=3*(n:Int)) (by omega) (by omega)];exact cU (by omega) (by omega)
 have F:i64.wrap (i64.wrap (5*(n:Int))+2)=((5*n+2:Nat):Int):=by
  rw[aK (n:=5*(n:Int)) (by omega) (by omega)];exact cU (by omega) (by omega)
 have G:((p.Pi.aX.length:Int)==1)=decide (p.Pi.aX.length=1):=iT _ 1;unfold Jk;rw[E,F,iT,iT,iT,iT,iT,G,yf k,yf k,yf k,yf k,BG (by omega) (by omega)];unfold tv;generalize decide (p.bX.length=n)=e;generalize decide (p.bN.length=n)=g;generalize decide (p.aH.length=n)=j;generalize decide (p.Pi.aF.length=3*n+3)=m;generalize decide (p.Pi.aX.length=1)=o;generalize decide (p.Pi.aG.length=5*n+2)=r;generalize p.bX.all (aL gr)=u;generalize p.bN.all (aL gr)=v;generalize p.aH.all (aL gr)=D;generalize p.Pi.aF.all (aL gr)=c;generalize p.Pi.aG.all (dB gr)=H;cases e
 ·rfl
 cases g
 ·rfl
 cases j
 ·rfl
 cases m
 ·rfl
 cases o
 ·rfl
 cases r
 ·rfl
 cases u
 ·rfl
 cases v
 ·rfl
 cases D
 ·rfl
 cases c<;>rfl
def kx(q x:Int):Nat->Int
 |0=>1
 |i+1=>(kx q x i*x)%q
def tgN(q x y z:Int):Nat->Int
 |0=>1
 |i+1=>(tgN q x y z i*((y*((i:Int)+1)+kx q x (i+1)-z)%q))%q
theorem zz3(c:1<q)(x:Int):∀i,E9 q (kx q x i)
 |0=>⟨by show(0:Int)<=1;omega,c⟩
 |i+1=>gC (by omega) _
theorem UW(c:1<q)(x y z:Int):∀i,E9 q (tgN q x y z i)
 |0=>⟨by show(0:Int)<=1;omega,c⟩
 |i+1=>gC (by omega) _
def zC8(c:0<q/\q<=2000000000)(a:Int):Bf a q=J (a%q):=V8 c.1 c.2
def zFV(k:1<q/\q<=2000000000){n:Nat}(M:n<=100){x y z:Int}(F:E9 q x)(o:E9 q y)(r:E9 q z):Jq q (n:Int) x y z=J (tgN q x y z n):=by
 have j:0<q/\q<=2000000000:=by omega
 have m:q≠0:=by omega
 unfold Jq;refine bW (ax (ψ:=(· =tgN q x y z n)) (kZ n (λi s=>s=(tgN q x y z i,kx q x i,(i:Int)+1)/\i<=n) ⟨rfl,by omega⟩ ?_ ?_) λv E=>ak E)
 ·rintro i s K ⟨rfl,_⟩;have H:=zz3 k.1 x i;have u:=UW k.1 x y z i;have G:=(xw (q:=q) k.2 H F).2;have D:0<=y*((i:Int)+1):=tM o.1 (by omega);have I:y*((i:Int)+1)<=2000000000*101:=xO (by have:=o.2;omega) (by omega) (by omega) (by omega);have c:=gC j.1 (y*((i:Int)+1));have g:=gC j.1 (kx q x i*x);refine iS (by simp;omega) (aJ m (aJ m ?_));dsimp only;rw[G,aK (n:=y*((i:Int)+1)) (by omega) (by omega),ju D,aK (n:=y*((i:Int)+1)%q+kx q x i*x%q) (by have:=c.1;have:=g.1;omega) (by have:=c.2;have:=g.2;omega),aK (by have:=c.1;have:=g.1;have:=r.2;omega) (by have:=c.2;have:=g.2;have:=r.1;omega)];refine ag (zC8 j _) (aJ m (ak ?_))
  have e:(y*((i:Int)+1)%q+kx q x i*x%q-z)%q=(y*((i:Int)+1)+kx q x (i+1)-z)%q:=by
   show _=(y*((i:Int)+1)+kx q x i*x%q-z)%q;rw[tK,pU,e8,e8,tK (y*((i:Int)+1)+_),pU (y*((i:Int)+1)),e8]
  rw[e,(xw (q:=q) k.2 u (gC j.1 _)).2,aK (n:=(i:Int)+1+1) (by omega) (by omega)];refine⟨?_,by omega⟩;show _=(tgN q x y z (i+1),kx q x (i+1),((i+1:Nat):Int)+1);rfl
 rintro s ⟨rfl,_⟩;exact bQ (by simp;omega) (ak rfl)
def zGU(k:1<q/\q<=2000000000){n:Nat}(M:n<=100){x y z:Int}(E:E9 q x)(o:E9 q y)(r:E9 q z):KF q (n:Int) x y z=J (tgN q x y z n):=by
 have c:0<q/\q<=2000000000:=by omega
 have j:q≠0:=by omega
 unfold KF;refine bW (aJ j (ax (ψ:=(· =tgN q x y z n)) (kZ n (λi s=>s=(tgN q x y z i,kx q x i,(i:Int)+1)/\i<=n) ⟨?_,by omega⟩ ?_ ?_) λv D=>ak D))
 ·have e:(1:Int).tmod q=1:=by rw[ju (by omega),qS (by omega) (by omega)]
  rw[e];rfl
 ·rintro i s K ⟨rfl,_⟩;have G:=zz3 k.1 x i;have u:=UW k.1 x y z i;have F:=(xw (q:=q) k.2 G E).2;have m:=gC c.1 ((i:Int)+1);have H:0<=y*(((i:Int)+1)%q):=tM o.1 m.1;have I:y*(((i:Int)+1)%q)<=2000000000*2000000000:=xO (by have:=o.2;omega) (by have:=m.2;omega) m.1 (by omega);have g:=gC c.1 (kx q x i*x);refine iS (by simp;omega) (aJ j (aJ j ?_));dsimp only;rw[F,ju (a:=(i:Int)+1) (by omega),aK (n:=y*(((i:Int)+1)%q)) (by omega) (by omega),aK (n:=y*(((i:Int)+1)%q)+kx q x i*x%q) (by have:=g.1;omega) (by have:=g.2;omega),aK (by have:=g.1;have:=r.2;omega) (by have:=g.2;have:=r.1;omega)];refine ag (Ee c.1 c.2) (aJ j (ak ?_))
  have e:(y*(((i:Int)+1)%q)+kx q x i*x%q-z)%q=(y*((i:Int)+1)+kx q x (i+1)-z)%q:=by
   show _=(y*((i:Int)+1)+kx q x i*x%q-z)%q;rw[tK,pU,nh,e8,<-nh,<-pU,<-tK]
  rw[e,(xw (q:=q) k.2 u (gC c.1 _)).2,aK (n:=(i:Int)+1+1) (by omega) (by omega)];exact⟨rfl,by omega⟩
 rintro s ⟨rfl,_⟩;exact bQ (by simp;omega) (ak rfl)
def iN(q x:Int)(i:Nat):Int:=((x.toNat^(i+1)%q.toNat:Nat):Int)
def zz1{gr:am}(k:ap gr){x:Int}(c:E9 gr.Q x){i:Nat}(g:i<=100):ou x (i64.wrap ((i:Int)+1)) gr.Q=J (iN gr.Q x i)/\l4 x ((i:Int)+1) gr.Q=J (iN gr.Q x i):=by
 have h:=VF k c (p:=(i:Int)) (by omega);have e:((i:Int)+1).toNat=i+1:=by omega
 have w:i64.wrap ((i:Int)+1)=(i:Int)+1:=aK (by omega) (by omega);rw[e]at h;exact⟨h.1,by rw[w]at h;exact h.2⟩
def zEE{gr:am}(k:ap gr){n:Nat}(j:n<=100){x:Int}(e:E9 gr.Q x):FU gr (n:Int) x=J (rg (iN gr.Q x) n):=by
 unfold FU;refine bW (ax (ψ:=(· =rg (iN gr.Q x) n)) (kZ n (λi s=>s=(rg (iN gr.Q x) i,(i:Int)+1)/\i<=n) ⟨rfl,by omega⟩ ?_ ?_) λv c=>ak c)
 ·rintro i s g ⟨rfl,_⟩;refine iS (by simp;omega) (ag (zz1 k e (by omega)).2 (aJ (by dsimp only;rw[bh];omega) (ak ⟨?_,by omega⟩)));dsimp only;rw[aK (n:=(i:Int)+1+1) (by omega) (by omega),pI];rfl
 rintro s ⟨rfl,_⟩;exact bQ (by simp;omega) (ak rfl)
def Ge{gr:am}(k:ap gr){x y w z:Int}(b:Bool)(c:R9 x)(e:R9 y):rC x y w b gr.P gr.Q gr.G z=J (b&&(aQ gr [x,av gr y z]==w)):=by
 unfold rC;cases b
 ·rfl
 show(cW gr y z).bind _=_;rw[fB k e,aP];show(eu gr _).bind _=_;rw[j4 k c (bH k _ _),aP];rfl
structure Rp where
 s1:List Int
 s2:List Int
 s3:List Int
 g:Int
 kk:List Int
 mm:List Int
 f:Int
def Rp.cs(R:Rp):List Int:=R.s1++(R.s2++(R.s3++(R.g::(R.kk++(R.mm++[R.f])))))
structure B6 (n:Nat) (R:Rp):Prop where
 s1:R.s1.length=n
 s2:R.s2.length=n
 s3:R.s3.length=n
 kk:R.kk.length=n
 mm:R.mm.length=n
def zHp{n:Nat}{r:List Int}(I:r.length=5*n+2):∃R:Rp,r=R.cs/\B6 n R:=by
 obtain⟨a,r,rfl,o,F⟩:=rX (l:=r) (n:=n) (m:=4*n+2) (by omega);obtain⟨b,r,rfl,u,G⟩:=rX (l:=r) (n:=n) (m:=3*n+2) (by omega);obtain⟨c,r,rfl,v,e⟩:=rX (l:=r) (n:=n) (m:=2*n+2) (by omega)
 match r,e with
 |g::r,e=>
  simp only[fG]at e;obtain⟨k,r,rfl,D,H⟩:=rX (l:=r) (n:=n) (m:=n+1) (by omega);obtain⟨m,r,rfl,E,j⟩:=rX (l:=r) (n:=n) (m:=1) (by omega)
  match r,j with
  |[f],_=>exact⟨⟨a,b,c,g,k,m,f⟩,rfl,o,u,v,D,E⟩
  |[],h=>simp at h
  |_::_::_,h=>simp at h
 |[],e=>simp at e
def alB(f:Nat->Bool):Nat->Bool
 |0=>O
 |i+1=>alB f i&&f i
def q1(gr:am)(h y z T:Int)(p:cu)(R:Rp)(i:Nat):Bool:=aQ gr [p.Pi.aF.getD i 0,av gr (aQ gr [av gr (p.bX.getD i 0) y,p.bN.getD i 0,av gr gr.G (i64.wrap (0-z))]) T]==vc gr h (R.s1.getD i 0) (R.s2.getD i 0)
def q2(gr:am)(h T:Int)(p:cu)(R:Rp)(n i:Nat):Bool:=aQ gr [p.Pi.aF.getD (n+i) 0,av gr (p.aH.getD i 0) T]==aQ gr [av gr (bef gr.G p.aH i) (R.s1.getD i 0),av gr h (R.s3.getD i 0)]
def q4(gr:am)(h T:Int)(p:cu)(R:Rp)(n i:Nat):Bool:=aQ gr [p.Pi.aF.getD (2*n+1+i) 0,av gr (p.bN.getD i 0) T]==vc gr h (R.kk.getD i 0) (R.mm.getD i 0)
section
variable {gr:am}{p:cu}{R:Rp}{n:Nat}
def T6(k:ap gr){x y z:Int}(e:R9 x)(g:R9 y)(j:R9 z):R9 (aQ gr [x,y,z])/\eu gr [x,y,z]=J (aQ gr [x,y,z])/\ep gr [x,y,z]=J (aQ gr [x,y,z]):=by
 have h:∀v∈[x,y,z],0<=v/\v<=2000000000:=by
  intro v c;simp only[gp,kg,kh]at c;rcases c with rfl|rfl|rfl<;>assumption
 exact⟨Fu k h,Ax k h,LA k h⟩
def zAr(k:ap gr){B:ct}(u:R9 B.H)(hn:n<=12)(F:p.bX.length=n/\∀z∈p.bX,aL gr z=O)(G:p.bN.length=n/\∀z∈p.bN,aL gr z=O)(r:p.aH.length=n/\∀z∈p.aH,aL gr z=O)(hm:p.Pi.aF.length=3*n+3/\∀z∈p.Pi.aF,aL gr z=O)(o:B6 n R){x y z T:Int}(hx:E9 gr.Q x):aO (σ:=(List Int)×Bool) (λc g=>
 (ou x (i64.wrap (c+1)) gr.Q).bind λoq=>
 gd ((g.1.length+1)*8<=140737488355328/\g.1.length+1<=4611686018427387904)<|
 (ix p.Pi.aF c).bind λPO=>
 (ix p.bX c).bind λU=>
 (ix p.bN c).bind λv=>
 (ix R.s1 c).bind λI=>
 (ix R.s2 c).bind λkF=>
 (cW gr U y).bind λQ=>
 (cW gr gr.G (i64.wrap (0-z))).bind λN=>
 (eu gr [Q,v,N]).bind λwR=>
 (pi gr B I kF).bind λnI=>
 (rC PO wR nI g.2 gr.P gr.Q gr.G T).bind λK=>
 (ix p.Pi.aF (i64.wrap ((n:Int)+c))).bind λY=>
 (ix p.aH c).bind λM=>
 (ix ([gr.G]++p.aH) c).bind λP=>
 (ix R.s3 c).bind λpx=>
 (cW gr P I).bind λwL=>
 (cW gr B.H px).bind λoa=>
 (eu gr [wL,oa]).bind λS=>
 (rC Y M S K gr.P gr.Q gr.G T).bind λX=>
 (ix p.Pi.aF (i64.wrap ((i64.wrap ((i64.wrap (2*(n:Int)))+1))+c))).bind λmG=>
 (ix R.kk c).bind λjm=>
 (ix R.mm c).bind λjJ=>
 (pi gr B jm jJ).bind λpB=>
 (rC mG v pB X gr.P gr.Q gr.G T).bind λQo=>
 J (.go (g.1++[oq],Qo))) (λg=>(g.1,g.2)) n 0 ([],O)=J (rg (iN gr.Q x) n,alB (λi=>q1 gr B.H y z T p R i&&q2 gr B.H T p R n i&&q4 gr B.H T p R n i) n):=by
 refine qx (λi=>(rg (iN gr.Q x) i,alB (λi=>q1 gr B.H y z T p R i&&q2 gr B.H T p R n i&&q4 gr B.H T p R n i) i)) rfl λi hi=>?_
 have w1:i64.wrap ((n:Int)+(i:Int))=((n+i:Nat):Int):=cU (by omega) (by omega)
 have w2:i64.wrap (i64.wrap (i64.wrap (2*(n:Int))+1)+(i:Int))=((2*n+1+i:Nat):Int):=by
  rw[aK (n:=2*(n:Int)) (by omega) (by omega),aK (n:=2*(n:Int)+1) (by omega) (by omega)];exact cU (by omega) (by omega)
 have e:∀{l:List Int},l.length=n->ix l (i:Int)=J (l.getD i 0):=λh=>eo (by omega)
 have m:∀j,j<3*n+3->ix p.Pi.aF (j:Int)=J (p.Pi.aF.getD j 0)/\R9 (p.Pi.aF.getD j 0):=λj hj=>⟨eo (by omega),d9 k (eO hm.2 (by omega))⟩
 have a1:=d9 k (eO F.2 (i:=i) (by omega));have D:=d9 k (eO G.2 (i:=i) (by omega));have a3:=d9 k (eO r.2 (i:=i) (by omega));have E:=Fs k (n6 k) r.2 i (by omega);have H:=T6 k (bH k (p.bX.getD i 0) y) D (bH k gr.G (i64.wrap (0-z)));rw[w1,w2];refine ag (zz1 k hx (by omega)).1 (aJ (by rw[bh];omega) (ag (m i (by omega)).1 (ag (e F.1) (ag (e G.1) (ag (e o.s1) (ag (e o.s2) (ag (fB k a1 _) (ag (fB k (fR k) _) (ag H.2.1 (ag (CA k u _ _) (ag (Ge k _ (m i (by omega)).2 H.1) ?_)))))))))));refine ag (m (n+i) (by omega)).1 (ag (e r.1) (ag E.1 (ag (e o.s3) (ag (fB k E.2 _) (ag (fB k u _) (ag (j4 k (bH k _ _) (bH k _ _)) (ag (Ge k _ (m (n+i) (by omega)).2 a3) ?_)))))));refine ag (m (2*n+1+i) (by omega)).1 (ag (e o.kk) (ag (e o.mm) (ag (CA k u _ _) (ag (Ge k _ (m (2*n+1+i) (by omega)).2 D) (ak ?_)))));rw[pI];show fi.go (_,_)=fi.go (_,alB _ i&&_);unfold q1 q2 q4;simp only[Mr]
end
section
attribute [local irreducible] chG zdP zaP
def mN(key:Int)(l out:List ao)(p:cu):List Int:=zdP key l out (p.bX++p.bN)
def vpX(gr:am)(key:Int)(l out:List ao)(p:cu):Int:=chG gr sX (zdP key l out p.bX)
def vpY(gr:am)(key:Int)(l out:List ao)(p:cu):Int:=chG gr sY (mN key l out p)
def vpZ(gr:am)(key:Int)(l out:List ao)(p:cu):Int:=chG gr sZ (mN key l out p)
def vpT(gr:am)(key:Int)(l out:List ao)(p:cu):Int:=chG gr sE (mN key l out p++p.aH++p.Pi.aF)
def q3(gr:am)(h c T:Int)(p:cu)(R:Rp)(n:Nat):Bool:=aQ gr [p.Pi.aF.getD (2*n) 0,av gr (aQ gr [p.aH.getD (n-1) 0,av gr (av gr gr.G c) (-1)]) T]==av gr h R.g
def qE(gr:am)(T c base:Int)(g j e:List Int)(R:Rp):Bool:=aQ gr [c,av gr (zaP gr j g 1) T]==aQ gr [av gr base (i64.wrap (0-R.f)),zaP gr e R.kk 1]
def Ce(gr:am)(key h:Int)(l out:List ao)(p:cu)(R:Rp)(x y z T:Int)(n:Nat):Bool:=
 (((alB (λi=>q1 gr h y z T p R i&&q2 gr h T p R n i&&q4 gr h T p R n i) n&&q3 gr h (tgN gr.Q x y z n) T p R n)&&qE gr T (p.Pi.aF.getD (3*n+1) 0) gr.G (rg (iN gr.Q x) n) (sdV l).1 (sdV out).1 R)&&qE gr T (p.Pi.aF.getD (3*n+2) 0) key (rg (iN gr.Q x) n) (sdV l).2 (sdV out).2 R)
structure yb (gr:am) (key h:Int) (l out:List ao) (p:cu) (R:Rp):Prop where
 key:aL gr key=O
 n:1<=l.length/\l.length<=12
 lc:∀c∈l,b8 gr c=O
 oc:∀c∈out,b8 gr c=O
 ol:out.length=l.length
 hh:aL gr h=O
 pl:p.bX.length=l.length/\∀z∈p.bX,aL gr z=O
 pw:p.bN.length=l.length/\∀z∈p.bN,aL gr z=O
 ch:p.aH.length=l.length/\∀z∈p.aH,aL gr z=O
 cm:p.Pi.aF.length=3*l.length+3/\∀z∈p.Pi.aF,aL gr z=O
 cl:p.Pi.aX.length=1
 rs:p.Pi.aG=R.cs
 r:B6 l.length R
section
variable {gr:am}{key h:Int}{l out:List ao}{p:cu}{R:Rp}
def zG4(G:aL gr key=O)(H:1<=l.length/\l.length<=12)(K:∀c∈l,b8 gr c=O)(M:∀c∈out,b8 gr c=O)(F:aL gr h=O)(I:out.length=l.length)(e:tv gr l.length p=O):∃R,yb gr key h l out p R:=by
 simp only[tv,bC,eE]at e;obtain⟨j,k,m,o,r,u,v,D,E,g,_⟩:=e;obtain⟨R,N,P⟩:=zHp u;exact⟨R,G,H,K,M,I,F,⟨j,bc.1 v⟩,⟨k,bc.1 D⟩,⟨m,bc.1 E⟩,⟨o,bc.1 g⟩,r,N,P⟩
def NL(k:ap gr)(V:yb gr key h l out p R):(zdP key l out p.bX).length=1+5*l.length/\(zdP key l out p.bX).all cT=O:=by
 have c:=V.pl.1;have e:=V.ol;exact⟨by rw[Fo];omega,GY k V.key V.lc V.oc (pJ k (bc.2 V.pl.2))⟩
def PT(k:ap gr)(V:yb gr key h l out p R):(mN key l out p).length=1+6*l.length/\(mN key l out p).all cT=O:=by
 have c:=V.pl.1;have e:=V.ol;have g:=V.pw.1;unfold mN;exact⟨by rw[Fo,cy];omega,GY k V.key V.lc V.oc (pJ k (bc.2 (jM V.pl.2 V.pw.2)))⟩
def zzH(k:ap gr)(V:yb gr key h l out p R):(mN key l out p++p.aH++p.Pi.aF).length=4+10*l.length/\(mN key l out p++p.aH++p.Pi.aF).all cT=O:=by
 have c:=PT k V;have e:=V.ch.1;have g:=V.cm.1;refine⟨by rw[cy,cy,c.1,e,g];omega,?_⟩;rw[kU,kU,c.2,pJ k (bc.2 V.ch.2),pJ k (bc.2 V.cm.2)];rfl
attribute [local irreducible] rg sdV vc vpX vpY vpZ vpT tgN alB q1 q2 q4
set_option maxHeartbeats 2000000 in
def zz9(k:ap gr){B:ct}(V:yb gr key B.H l out p R)(hs:tv gr l.length p=O):Bq gr B key l out p=J ((p.Pi.aX.getD 0 0==vpT gr key l out p)&&Ce gr key B.H l out p R (vpX gr key l out p) (vpY gr key l out p) (vpZ gr key l out p) (vpT gr key l out p) l.length):=by
 have hp:=k.p;have hq:=k.q;have hn:=V.n;have hol:=V.ol;have u:=d9 k V.hh;have hK:=d9 k V.key;have lP:=V.pl.1;have lW:=V.pw.1;have lH:=V.ch.1;have lM:=V.cm.1;have l1:=NL k V;have l2:=PT k V;have E:=zzH k V;have D:E9 gr.Q (vpX gr key l out p):=by unfold vpX;exact mQ k _ _
 have hy:E9 gr.Q (vpY gr key l out p):=by unfold vpY;exact mQ k _ _
 have hz:E9 gr.Q (vpZ gr key l out p):=by unfold vpZ;exact mQ k _ _
 have K:=ER (key:=key) (l:=l) (out:=out) (m:=p.bX) (by omega) (by omega) (by omega);have M:mW gr sX (zdP key l out p.bX)=J (vpX gr key l out p,O):=by unfold vpX;exact(qe k (by decide) (by omega) l1.2).1
 have N:q7 key l out (p.bX++p.bN)=J (mN key l out p):=ER (by omega) (by omega) (by rw[cy];omega);have P:DA gr (mN key l out p)=J (vpY gr key l out p,vpZ gr key l out p,O):=by unfold vpY vpZ;exact zzY k (by omega) l2.2
 have Q:se [mN key l out p,p.aH,p.Pi.aF]=J (mN key l out p++p.aH++p.Pi.aF):=by
  have e:[mN key l out p,p.aH,p.Pi.aF].flatten=mN key l out p++p.aH++p.Pi.aF:=by simp
  rw[Kq _ (by rw[e,E.1];omega),e]
 have S:mW gr sE (mN key l out p++p.aH++p.Pi.aF)=J (vpT gr key l out p,O):=by unfold vpT;exact(qe k (by decide) (by omega) E.2).1
 have U:=zAr (B:=B) (y:=vpY gr key l out p) (z:=vpZ gr key l out p) (T:=vpT gr key l out p) k u hn.2 V.pl V.pw V.ch V.cm V.r D;have X:=zFV (q:=gr.Q) (by omega) (n:=l.length) (by omega) D hy hz;have Y:=(tB (l:=l) (by omega)).1;have zn:=(tB (l:=out) (by omega)).1;have r:=sH k V.lc;have F:=sH k V.oc;have H:=m7 l;have v:=m7 out;have u1:=pC k (m:=rg (iN gr.Q (vpX gr key l out p)) l.length) r.1 (by rw[bh,H.1];exact cq _);have u2:=pC k (m:=rg (iN gr.Q (vpX gr key l out p)) l.length) r.2 (by rw[bh,H.2];exact cq _);have u3:=pC k (m:=R.kk) F.1 (by rw[v.1,V.r.kk];omega);have u4:=pC k (m:=R.kk) F.2 (by rw[v.2,V.r.kk];omega);have w1:i64.wrap ((l.length:Int)-1)=((l.length-1:Nat):Int):=cU (by omega) (by omega);have w2:i64.wrap (2*(l.length:Int))=((2*l.length:Nat):Int):=cU (by omega) (by omega);have w3:i64.wrap (3*(l.length:Int))=((3*l.length:Nat):Int):=cU (by omega) (by omega);have I:i64.wrap (((3*l.length:Nat):Int)+1)=((3*l.length+1:Nat):Int):=cU (by omega) (by omega);have w32:i64.wrap (((3*l.length:Nat):Int)+2)=((3*l.length+2:Nat):Int):=cU (by omega) (by omega);have c:∀j,j<3*l.length+3->ix p.Pi.aF (j:Int)=J (p.Pi.aF.getD j 0)/\R9 (p.Pi.aF.getD j 0):=λj hj=>⟨eo (by omega),d9 k (eO V.cm.2 (by omega))⟩
 have gh:ix p.aH ((l.length-1:Nat):Int)=J (p.aH.getD (l.length-1) 0):=eo (by omega);have o:=d9 k (eO V.ch.2 (i:=l.length-1) (by omega));have G:=bH k gr.G (tgN gr.Q (vpX gr key l out p) (vpY gr key l out p) (vpZ gr key l out p) l.length);have ov:=U5 k (b:=p.aH.getD (l.length-1) 0) (x:=av gr gr.G (tgN gr.Q (vpX gr key l out p) (vpY gr key l out p) (vpZ gr key l out p) l.length)) o.1 o.2 G.1 G.2;have ho:((out.length:Int) !=(l.length:Int))=Z:=by rw[hol];simp
 have kK:0<p.Pi.aX.length:=by rw[V.cl];omega
 unfold Bq;refine bW (ax (ψ:=(· =Z)) (bQ ho (ag (zz8 k (by omega) p) (ak (by rw[hs];rfl)))) ?_);rintro _ rfl;refine bQ rfl (ag K (ag M (ag (zzI (by omega)) (aJ (by omega) (ag N (ag P (ag Q (ag S (ax (ψ:=(· =(p.Pi.aX.getD 0 0 !=vpT gr key l out p))) (bQ rfl (bQ rfl (bQ rfl (ag (eo (i:=0) kK) (ak rfl))))) ?_)))))))));rintro _ rfl;refine aU (λg=>ak ?_) λg=>?_
 ·have:(p.Pi.aX.getD 0 0==vpT gr key l out p)=Z:=by simpa[bne]using g
  rw[this];rfl
 have g2:(p.Pi.aX.getD 0 0==vpT gr key l out p)=O:=by simpa[bne]using g
 rw[g2,jt,V.rs];unfold Rp.cs;refine ag (mE V.r.s1) (ag (mE V.r.s2) (ag (mE V.r.s3) (ag (Al _ _) (ag (mE V.r.kk) (ag (mE V.r.mm) (ag (Al _ _) ?_))))));dsimp only;refine aJ (by simp;omega) (ag rfl (ag U ?_));rw[w1,w2,w3,I,w32];refine ag (c (2*l.length) (by omega)).1 (ag gh (ag X (ag (fB k (fR k) _) (ag ov (ag (fB k u _) (ag (Ge k _ (c (2*l.length) (by omega)).2 (ot k o (bH k _ _))) (ag Y (ag zn ?_))))))));refine ag (c (3*l.length+1) (by omega)).1 (ag u1 (ag (fB k (fR k) _) (ag u3 (ag (j4 k (bH k _ _) (fO k _ _)) (ag (Ge k _ (c (3*l.length+1) (by omega)).2 (fO k _ _)) ?_)))));exact ag (c (3*l.length+2) (by omega)).1 (ag u2 (ag (fB k hK _) (ag u4 (ag (j4 k (bH k _ _) (fO k _ _)) (ag (Ge k _ (c (3*l.length+2) (by omega)).2 (fO k _ _)) (ak rfl))))))
end
end
def Gt{A X Y:List Int}{a i:Nat}(e:A.length=a)(c:i<X.length):ix (A++(X++Y)) ((a+i:Nat):Int)=J (X.getD i 0):=by
 refine JI ?_;rw[f9 (by omega),e,WH,fE c,cI c,bS c]
def O4{n:Nat}{R:Rp}(r:B6 n R):(∀i,i<n->ix R.cs (i:Int)=J (R.s1.getD i 0)/\ix R.cs ((n+i:Nat):Int)=J (R.s2.getD i 0)/\ix R.cs ((2*n+i:Nat):Int)=J (R.s3.getD i 0)/\ix R.cs ((4*n+1+i:Nat):Int)=J (R.mm.getD i 0))/\ix R.cs ((3*n:Nat):Int)=J R.g/\ix R.cs ((5*n+1:Nat):Int)=J R.f/\(R.cs.take (4*n+1)).drop (3*n+1)=R.kk:=by
 have c:=r.s1;have g:=r.s2;have j:=r.s3;have k:=r.kk;have m:=r.mm;refine⟨λi o=>⟨?_,?_,?_,?_⟩,?_,?_,?_⟩
 ·have:=Gt (A:=[]) (X:=R.s1) (Y:=R.s2++(R.s3++(R.g::(R.kk++(R.mm++[R.f]))))) (a:=0) (i:=i) rfl (by omega)
  rwa [gD]at this
 ·exact Gt (A:=R.s1) (X:=R.s2) c (by omega)
 ·have:=Gt (A:=R.s1++R.s2) (X:=R.s3) (Y:=R.g::(R.kk++(R.mm++[R.f]))) (a:=2*n) (i:=i) (by rw[cy];omega) (by omega);rw[gO]at this;exact this
 ·have:=Gt (A:=R.s1++(R.s2++(R.s3++(R.g::R.kk)))) (X:=R.mm) (Y:=[R.f]) (a:=4*n+1) (i:=i) (by simp;omega) (by omega);have e:R.s1++(R.s2++(R.s3++(R.g::R.kk)))++(R.mm++[R.f])=R.cs:=by simp[Rp.cs]
  rwa [e]at this
 ·have:=Gt (A:=R.s1++(R.s2++R.s3)) (X:=[R.g]) (Y:=R.kk++(R.mm++[R.f])) (a:=3*n) (i:=0) (by simp;omega) (by simp);have e:R.s1++(R.s2++R.s3)++([R.g]++(R.kk++(R.mm++[R.f])))=R.cs:=by simp[Rp.cs]
  rw[e]at this;exact this
 ·have:=Gt (A:=R.s1++(R.s2++(R.s3++(R.g::(R.kk++R.mm))))) (X:=[R.f]) (Y:=[]) (a:=5*n+1) (i:=0) (by simp;omega) (by simp);have e:R.s1++(R.s2++(R.s3++(R.g::(R.kk++R.mm))))++([R.f]++[])=R.cs:=by simp[Rp.cs]
  rw[e]at this;exact this
 exact ya (A:=R.s1++(R.s2++(R.s3++[R.g]))) (R:=R.mm++[R.f]) (by simp[Rp.cs]) (by simp;omega) (by omega)
def LQ(gr:am)(y z:Int)(p:cu)(i:Nat):Int:=aQ gr [av gr (p.bX.getD i 0) y,p.bN.getD i 0,av gr gr.G (i64.wrap (0-z))]
def IZ(gr:am)(h:Int)(R:Rp)(i:Nat):Int:=vc gr h (R.s1.getD i 0) (R.s2.getD i 0)
def Is(gr:am)(h:Int)(p:cu)(R:Rp)(i:Nat):Int:=aQ gr [av gr (bef gr.G p.aH i) (R.s1.getD i 0),av gr h (R.s3.getD i 0)]
def Lx(gr:am)(h:Int)(R:Rp)(i:Nat):Int:=vc gr h (R.kk.getD i 0) (R.mm.getD i 0)
section
variable {gr:am}{p:cu}{R:Rp}{n:Nat}{h:Int}
def zAj(k:ap gr)(G:R9 h)(S:n<=12)(g:p.bX.length=n/\∀z∈p.bX,aL gr z=O)(j:p.bN.length=n/\∀z∈p.bN,aL gr z=O)(I:B6 n R){y z:Int}:dO (σ:=(List Int)×List Int×Int) (β:=(List Int)×List Int) (λc=>
 if decide (c.2.2<(n:Int))=O then(
 (ix p.bX c.2.2).bind λo=>
 (ix p.bN c.2.2).bind λM=>
 (cF gr o y).bind λF=>
 (cF gr gr.G (i64.wrap (0-z))).bind λP=>
 (ep gr [F,M,P]).bind λE=>
 gd ((c.1.length+1)*8<=140737488355328/\c.1.length+1<=4611686018427387904)<|
 (ix R.cs c.2.2).bind λD=>
 (ix R.cs (i64.wrap ((n:Int)+c.2.2))).bind λr=>
 (oE gr h D r).bind λK=>
 gd ((c.2.1.length+1)*8<=140737488355328/\c.2.1.length+1<=4611686018427387904)<|
 J (.go (c.1++[E],c.2.1++[K],i64.wrap (c.2.2+1))))else(
 J (.out (c.1,c.2.1)))) ([],[],0)=J (rg (LQ gr y z p) n,rg (IZ gr h R) n):=by
 refine bW (kZ n (λi s=>s=(rg (LQ gr y z p) i,rg (IZ gr h R) i,(i:Int))/\i<=n) ⟨rfl,by omega⟩ ?_ ?_)
 ·rintro i s H ⟨rfl,_⟩;have e:∀{l:List Int},l.length=n->ix l (i:Int)=J (l.getD i 0):=λh=>eo (by omega)
  have u:=d9 k (eO g.2 (i:=i) (by omega));have v:=d9 k (eO j.2 (i:=i) (by omega));have N:=T6 k (bH k (p.bX.getD i 0) y) v (bH k gr.G (i64.wrap (0-z)));have m:=(O4 I).1 i H;have Q:i64.wrap ((n:Int)+(i:Int))=((n+i:Nat):Int):=cU (by omega) (by omega);refine iS (by simp;omega) ?_;dsimp only;rw[Q];refine ag (e g.1) (ag (e j.1) (ag (fy k u _) (ag (fy k (fR k) _) (ag N.2.2 (aJ (by rw[bh];omega) (ag m.1 (ag m.2.1 (ag (F8 k G _ _) (aJ (by rw[bh];omega) (ak ⟨?_,by omega⟩))))))))));rw[aK (n:=(i:Int)+1) (by omega) (by omega),pI,pI];rfl
 rintro s ⟨rfl,_⟩;exact bQ (by simp) (ak rfl)
def zAc(k:ap gr)(r:R9 h)(P:n<=12)(o:p.aH.length=n/\∀z∈p.aH,aL gr z=O)(v:B6 n R){A D:List Int}(M:A.length<=1000)(N:D.length<=1000):dO (σ:=(List Int)×List Int×Int×Int) (β:=(List Int)×List Int) (λc=>
 if decide (c.2.2.2<(n:Int))=O then(
 (ix p.aH c.2.2.2).bind λg=>
 gd ((c.1.length+1)*8<=140737488355328/\c.1.length+1<=4611686018427387904)<|
 (ix R.cs c.2.2.2).bind λF=>
 (ix R.cs (i64.wrap ((i64.wrap (2*(n:Int)))+c.2.2.2))).bind λH=>
 (cF gr c.2.2.1 F).bind λE=>
 (cF gr h H).bind λI=>
 (ep gr [E,I]).bind λG=>
 gd ((c.2.1.length+1)*8<=140737488355328/\c.2.1.length+1<=4611686018427387904)<|
 J (.go (c.1++[g],c.2.1++[G],g,i64.wrap (c.2.2.2+1))))else(
 J (.out (c.1,c.2.1)))) (A,D,gr.G,0)=J (A++rg (λi=>p.aH.getD i 0) n,D++rg (Is gr h p R) n):=by
 refine bW (kZ n (λi s=>s=(A++rg (λi=>p.aH.getD i 0) i,D++rg (Is gr h p R) i,bef gr.G p.aH i,(i:Int))/\i<=n) ⟨by rw[uZ,uZ,sn,sn];rfl,by omega⟩ ?_ ?_)
 ·rintro i s u ⟨rfl,_⟩;have m:=Fs k (n6 k) o.2 i (by omega);have j:=(O4 v).1 i u
  have K:i64.wrap (i64.wrap (2*(n:Int))+(i:Int))=((2*n+i:Nat):Int):=by
   rw[aK (n:=2*(n:Int)) (by omega) (by omega)];exact cU (by omega) (by omega)
  refine iS (by simp;omega) ?_;dsimp only;rw[K];refine ag (eo (by omega)) (aJ (by rw[cy,bh];omega) (ag j.1 (ag j.2.2.1 (ag (fy k m.2 _) (ag (fy k r _) (ag (iZ k (bH k _ _) (bH k _ _)) (aJ (by rw[cy,bh];omega) (ak ⟨?_,by omega⟩))))))));have e:p.aH.getD i 0=bef gr.G p.aH (i+1):=by unfold bef;simp
  rw[aK (n:=(i:Int)+1) (by omega) (by omega),vl,vl,<-e];rfl
 rintro s ⟨rfl,_⟩;exact bQ (by simp) (ak rfl)
def zBe(k:ap gr)(o:R9 h)(H:n<=12)(I:p.bN.length=n)(g:B6 n R){A D:List Int}(F:A.length<=1000)(G:D.length<=1000):dO (σ:=(List Int)×List Int×Int) (β:=(List Int)×List Int) (λc=>
 if decide (c.2.2<(n:Int))=O then(
 (ix p.bN c.2.2).bind λu=>
 gd ((c.1.length+1)*8<=140737488355328/\c.1.length+1<=4611686018427387904)<|
 (ix R.kk c.2.2).bind λm=>
 (ix R.cs (i64.wrap ((i64.wrap ((i64.wrap (4*(n:Int)))+1))+c.2.2))).bind λj=>
 (oE gr h m j).bind λr=>
 gd ((c.2.1.length+1)*8<=140737488355328/\c.2.1.length+1<=4611686018427387904)<|
 J (.go (c.1++[u],c.2.1++[r],i64.wrap (c.2.2+1))))else(
 J (.out (c.1,c.2.1)))) (A,D,0)=J (A++rg (λi=>p.bN.getD i 0) n,D++rg (Lx gr h R) n):=by
 refine bW (kZ n (λi s=>s=(A++rg (λi=>p.bN.getD i 0) i,D++rg (Lx gr h R) i,(i:Int))/\i<=n) ⟨by rw[uZ,uZ,sn,sn];rfl,by omega⟩ ?_ ?_)
 ·rintro i s e ⟨rfl,_⟩;have v:=(O4 g).1 i e
  have E:i64.wrap (i64.wrap (i64.wrap (4*(n:Int))+1)+(i:Int))=((4*n+1+i:Nat):Int):=by
   rw[aK (n:=4*(n:Int)) (by omega) (by omega),aK (n:=4*(n:Int)+1) (by omega) (by omega)];exact cU (by omega) (by omega)
  refine iS (by simp;omega) ?_;dsimp only;rw[E];refine ag (eo (by omega)) (aJ (by rw[cy,bh];omega) (ag (eo (by rw[g.kk];exact e)) (ag v.2.2.2 (ag (F8 k o _ _) (aJ (by rw[cy,bh];omega) (ak ⟨?_,by omega⟩))))));rw[aK (n:=(i:Int)+1) (by omega) (by omega),vl,vl];rfl
 rintro s ⟨rfl,_⟩;exact bQ (by simp) (ak rfl)
end
theorem MD(f:Nat->Bool):∀n,alB f n=(List.range n).all f
 |0=>rfl
 |n+1=>by
  unfold alB;rw[MD f n,ng,kU];simp
def Kj(f:Nat->Bool)(a b:Nat):(List.range (a+b)).all f=((List.range a).all f&&(List.range b).all λi=>f (a+i)):=by
 rw[a1v,kU,Wq];rfl
theorem Z9(f g h:Nat->Bool):∀n,((List.range n).all λi=>f i&&g i&&h i)=((List.range n).all f&&(List.range n).all g&&(List.range n).all h)
 |0=>rfl
 |n+1=>by
  simp only[ng,kU,xM,HS,BZ];rw[Z9 f g h n];cases (List.range n).all f<;>cases (List.range n).all g<;>cases (List.range n).all h<;>cases f n<;>cases g n<;>cases h n<;>rfl
theorem Jh{f g:Nat->Bool}:∀{n:Nat},(∀i,i<n->f i=g i)->(List.range n).all f=(List.range n).all g
 |0,_=>rfl
 |n+1,h=>by
  simp only[ng,kU,xM,HS,BZ];rw[Jh λi c=>h i (by omega),h n (by omega)]
def Hy{A B:List Int}{i:Nat}(h:i<A.length):(A++B).getD i 0=A.getD i 0:=by
 rw[mA,mA,fE h]
def Bo{A B:List Int}{a i:Nat}(h:A.length=a):(A++B).getD (a+i) 0=B.getD i 0:=by
 rw[mA,mA,f9 (by omega),h,WH]
def zyN(E:Nat->Int->Int->Bool){n:Nat}{a1 a2 a4 b1 b2 b4:List Int}{a3 a5 a6 b3 b5 b6:Int}(k:a1.length=n)(G:a2.length=n)(H:a4.length=n)(c:b1.length=n)(D:b2.length=n)(F:b4.length=n):
 ((List.range (3*n+3)).all λi=>E i ((a1++(a2++(a3::(a4++[a5,a6])))).getD i 0) ((b1++(b2++(b3::(b4++[b5,b6])))).getD i 0))=
 ((((alB (λi=>E i (a1.getD i 0) (b1.getD i 0)&&E (n+i) (a2.getD i 0) (b2.getD i 0)&&E (2*n+1+i) (a4.getD i 0) (b4.getD i 0)) n&&E (2*n) a3 b3)&&E (3*n+1) a5 b5)&&E (3*n+2) a6 b6)):=by
 have e:3*n+3=n+(n+(1+(n+(1+1)))):=by omega
 rw[MD,Z9,e,Kj,Kj,Kj,Kj,Kj]
 have N:=Jh (n:=n) (f:=λi=>E i ((a1++(a2++(a3::(a4++[a5,a6])))).getD i 0) ((b1++(b2++(b3::(b4++[b5,b6])))).getD i 0)) (g:=λi=>E i (a1.getD i 0) (b1.getD i 0)) λi m=>by
  simp only[Hy (A:=a1) (show i<a1.length by omega),Hy (A:=b1) (show i<b1.length by omega)]
 have P:=Jh (n:=n) (f:=λi=>E (n+i) ((a1++(a2++(a3::(a4++[a5,a6])))).getD (n+i) 0) ((b1++(b2++(b3::(b4++[b5,b6])))).getD (n+i) 0)) (g:=λi=>E (n+i) (a2.getD i 0) (b2.getD i 0)) λi m=>by
  simp only[Bo k,Bo c,Hy (A:=a2) (show i<a2.length by omega),Hy (A:=b2) (show i<b2.length by omega)]
 have o:∀j,(a1++(a2++(a3::(a4++[a5,a6])))).getD (n+(n+j)) 0=(a3::(a4++[a5,a6])).getD j 0:=λj=>by rw[Bo k,Bo G]
 have u:∀j,(b1++(b2++(b3::(b4++[b5,b6])))).getD (n+(n+j)) 0=(b3::(b4++[b5,b6])).getD j 0:=λj=>by rw[Bo c,Bo D]
 have r:∀j,(a3::(a4++[a5,a6])).getD (1+j) 0=(a4++[a5,a6]).getD j 0:=λj=>by rw[Qs];rfl
 have v:∀j,(b3::(b4++[b5,b6])).getD (1+j) 0=(b4++[b5,b6]).getD j 0:=λj=>by rw[Qs];rfl
 have Q:=Jh (n:=n) (f:=λi=>E (n+(n+(1+i))) ((a1++(a2++(a3::(a4++[a5,a6])))).getD (n+(n+(1+i))) 0) ((b1++(b2++(b3::(b4++[b5,b6])))).getD (n+(n+(1+i))) 0)) (g:=λi=>E (2*n+1+i) (a4.getD i 0) (b4.getD i 0)) λi m=>by
  simp only[o,u,r,v,Hy (A:=a4) (show i<a4.length by omega),Hy (A:=b4) (show i<b4.length by omega)];congr 1;omega
 rw[N,P,Q];have S:List.range 1=[0]:=rfl;simp only[S,xM,HS,BZ,o,u,r,v,Bo H,Bo F];have I:n+(n+0)=2*n:=by omega
 have K:n+(n+(1+(n+0)))=3*n+1:=by omega
 have M:n+(n+(1+(n+(1+0))))=3*n+2:=by omega
 simp only[I,K,M];show(_&&(_&&(E (2*n) a3 b3&&(_&&(E (3*n+1) a5 b5&&E (3*n+2) a6 b6)))))=_;generalize (List.range n).all (λi=>E i (a1.getD i 0) (b1.getD i 0))=T;generalize (List.range n).all (λi=>E (n+i) (a2.getD i 0) (b2.getD i 0))=U;generalize (List.range n).all (λi=>E (2*n+1+i) (a4.getD i 0) (b4.getD i 0))=X;cases T<;>cases U<;>cases X<;>simp[Mr]
def uv(gr:am)(T:Int)(c:List Int)(i:Nat)(a b:Int):Bool:=aQ gr [c.getD i 0,av gr a T]==b
def zy8{gr:am}(k:ap gr){T:Int}{c L Q:List Int}(H:∀z∈c,aL gr z=O)(G:L.length=c.length/\∀z∈L,R9 z)(M:Q.length=c.length):Rn (aO (σ:=(List Int)×List Int) (β:=Unit ⊕ Bool) (λo e=>
 (ix c o).bind λr=>
 (ix e.1 o).bind λF=>
 (ix e.2 o).bind λE=>
 (cF gr F T).bind λu=>
 (ep gr [r,u]).bind λD=>
 if(D !=E)=O then(
 J (.out (.inr Z)))else(
 J (.go (e.1,e.2)))) (λe=>.inl ()) c.length 0 (L,Q)) (λv=>(v=.inl ()/\(List.range c.length).all (λi=>uv gr T c i (L.getD i 0) (Q.getD i 0))=O)\/(v=.inr Z/\(List.range c.length).all (λi=>uv gr T c i (L.getD i 0) (Q.getD i 0))=Z)):=by
 refine eI (λi s=>s=(L,Q)/\i<=c.length/\(List.range i).all (λi=>uv gr T c i (L.getD i 0) (Q.getD i 0))=O) ⟨rfl,by omega,rfl⟩ ?_ ?_
 ·rintro i s m ⟨rfl,_,j⟩;have K:=eO G.2 (i:=i) (by omega);have I:=d9 k (eO H m);refine ag (eo m) (ag (eo (by dsimp only;omega)) (ag (eo (by dsimp only;omega)) (ag (fy k K _) (ag (iZ k I (bH k _ _)) (aU (λg=>ak (.inr ⟨rfl,?_⟩)) λg=>ak ⟨rfl,by omega,?_⟩)))))
  ·rw[zx];exact⟨i,kT.2 m,by unfold uv;simpa[bne]using g⟩
  rw[ng,kU,j];have:uv gr T c i (L.getD i 0) (Q.getD i 0)=O:=by unfold uv;simpa[bne]using g
  rw[xM,HS,this];rfl
 rintro s ⟨rfl,_,j⟩;exact .inl ⟨rfl,j⟩
section
attribute [local irreducible] chG zdP zaP
section
variable {gr:am}{key h:Int}{l out:List ao}{p:cu}{R:Rp}
def zDi(k:ap gr)(V:yb gr key h l out p R):Az gr key l out p.bX p.bN=J (vpY gr key l out p,vpZ gr key l out p):=by
 have g:=V.n;have j:=V.ol;have m:=V.pl.1;have o:=V.pw.1;have e:=NL k V;have c:=PT k V;unfold Az;refine bW (ag (Au (by omega) (by omega) (by omega)) (aJ (by omega) ?_));rw[Of];exact ag (qe k (s:=sY) (by decide) (by have:=c.1;unfold mN at this;omega) c.2).2 (ag (qe k (s:=sZ) (by decide) (by have:=c.1;unfold mN at this;omega) c.2).2 (ak rfl))
def zDk(k:ap gr)(V:yb gr key h l out p R):Ah gr key l out p=J (vpT gr key l out p):=by
 have m:=V.n;have o:=V.ol;have v:=V.pl.1;have D:=V.pw.1;have r:=V.ch.1;have u:=V.cm.1;have g:=NL k V;have e:=PT k V;have c:=zzH k V;have j:(zdP key l out (p.bX++p.bN)).length=1+6*l.length:=e.1;unfold Ah;refine bW (ag (Au (by omega) (by omega) (by omega)) (aJ (by omega) ?_));rw[Of];exact aJ (by omega) (aJ (by rw[cy];omega) (ag (qe k (s:=sE) (by decide) (by have:=c.1;unfold mN at this;omega) c.2).2 (ak rfl)))
end
end
section
attribute [local irreducible] chG zdP zaP
section
variable {gr:am}{key h:Int}{l out:List ao}{p:cu}{R:Rp}
attribute [local irreducible] rg sdV vc vpX vpY vpZ vpT tgN alB
set_option maxHeartbeats 2000000 in
def zFn(k:ap gr)(V:yb gr key h l out p R)(hs:tv gr l.length p=O):CY gr key h l out p=J ((p.Pi.aX.getD 0 0==vpT gr key l out p)&&Ce gr key h l out p R (vpX gr key l out p) (vpY gr key l out p) (vpZ gr key l out p) (vpT gr key l out p) l.length):=by
 have hp:=k.p;have hq:=k.q;have G:=V.n;have hol:=V.ol;have r:=d9 k V.hh;have hK:=d9 k V.key;have lP:=V.pl.1;have lW:=V.pw.1;have lH:=V.ch.1;have lM:=V.cm.1;have l1:=NL k V;have c:E9 gr.Q (vpX gr key l out p):=by unfold vpX;exact mQ k _ _
 have hy:E9 gr.Q (vpY gr key l out p):=by unfold vpY;exact mQ k _ _
 have hz:E9 gr.Q (vpZ gr key l out p):=by unfold vpZ;exact mQ k _ _
 have c1:=Au (key:=key) (l:=l) (out:=out) (m:=p.bX) (by omega) (by omega) (by omega);have c2:qk gr sX (zdP key l out p.bX)=J (vpX gr key l out p):=by unfold vpX;exact(qe k (by decide) (by omega) l1.2).2
 have c3:=zDi k V;have c4:=zDk k V;have c5:=zAj (y:=vpY gr key l out p) (z:=vpZ gr key l out p) k r G.2 V.pl V.pw V.r;have c6:=λA D E F=>zAc (A:=A) (D:=D) k r G.2 V.ch V.r E F
 have o:=λA D E F=>zBe (A:=A) (D:=D) k r G.2 V.pw.1 V.r E F
 have c8:=zGU (q:=gr.Q) (by omega) (n:=l.length) (by omega) c hy hz;have v:=UW (show 1<gr.Q by omega) (vpX gr key l out p) (vpY gr key l out p) (vpZ gr key l out p) l.length;have c9:=(tB (l:=l) (by omega)).2;have zn:=(tB (l:=out) (by omega)).2;have S:=zEE k (n:=l.length) (by omega) c;have H:=sH k V.lc;have N:=sH k V.oc;have Q:=m7 l;have K:=m7 out;have u1:=oZ k (m:=rg (iN gr.Q (vpX gr key l out p)) l.length) H.1 (by rw[bh,Q.1];exact cq _);have u2:=oZ k (m:=rg (iN gr.Q (vpX gr key l out p)) l.length) H.2 (by rw[bh,Q.2];exact cq _);have u3:=oZ k (m:=R.kk) N.1 (by rw[K.1,V.r.kk];omega);have u4:=oZ k (m:=R.kk) N.2 (by rw[K.2,V.r.kk];omega);obtain⟨_,r2,r3,r4⟩:=O4 V.r;have w1:i64.wrap ((l.length:Int)-1)=((l.length-1:Nat):Int):=cU (by omega) (by omega);have w3:i64.wrap (3*(l.length:Int))=((3*l.length:Nat):Int):=cU (by omega) (by omega);have T:i64.wrap (4*(l.length:Int))=((4*l.length:Nat):Int):=cU (by omega) (by omega);have w5:i64.wrap (5*(l.length:Int))=((5*l.length:Nat):Int):=cU (by omega) (by omega);have X:i64.wrap (((3*l.length:Nat):Int)+1)=((3*l.length+1:Nat):Int):=cU (by omega) (by omega);have U:i64.wrap (((4*l.length:Nat):Int)+1)=((4*l.length+1:Nat):Int):=cU (by omega) (by omega);have w51:i64.wrap (((5*l.length:Nat):Int)+1)=((5*l.length+1:Nat):Int):=cU (by omega) (by omega);have wt:i64.wrap (0-tgN gr.Q (vpX gr key l out p) (vpY gr key l out p) (vpZ gr key l out p) l.length)=0-tgN gr.Q (vpX gr key l out p) (vpY gr key l out p) (vpZ gr key l out p) l.length:=aK (by have:=v.1;have:=v.2;omega) (by have:=v.1;omega);have gh:ix p.aH ((l.length-1:Nat):Int)=J (p.aH.getD (l.length-1) 0):=eo (by omega);have P:=d9 k (eO V.ch.2 (i:=l.length-1) (by omega));have ho:((out.length:Int) !=(l.length:Int))=Z:=by rw[hol];simp
 have M:0<p.Pi.aX.length:=by rw[V.cl];omega
 have hRl:R.cs.length=5*l.length+2:=by have:=V.r.s1;have:=V.r.s2;have:=V.r.s3;have:=V.r.kk;have:=V.r.mm;simp[Rp.cs];omega
 have hpn:=Ym k (n6 k) v.1;have o:∀A D:List Int,A.length<=1000->D.length<=1000->_:=o;simp only[T,U]at o;unfold CY;refine bW (ax (ψ:=(· =(p.Pi.aX.getD 0 0 !=vpT gr key l out p))) (bQ ho (ag (Y1 k (by omega) p) (bQ (by rw[hs];rfl) (ag (eo (i:=0) M) (ag c4 (ak rfl)))))) ?_);rintro _ rfl;refine aU (λg=>ak ?_) λg=>?_
 ·have:(p.Pi.aX.getD 0 0==vpT gr key l out p)=Z:=by simpa[bne]using g
  rw[this];rfl
 have I:(p.Pi.aX.getD 0 0==vpT gr key l out p)=O:=by simpa[bne]using g
 have g3:p.Pi.aX.getD 0 0=vpT gr key l out p:=eq_of_beq I;rw[I,jt,V.rs];refine ag (eo (i:=0) M) ?_;rw[g3,w1,w3,T,w5,X,U,w51,dT,dT,r4];refine ag c1 (ag c2 (ag c3 (aJ (by omega) (aJ (by omega) (aJ (by omega) (ag r3 (ag c5 (ag (c6 _ _ (by rw[bh];omega) (by rw[bh];omega)) (ag gh (ag c8 ?_))))))))));rw[wt];refine ag (fy k (fR k) _) (ag (iZ k P (bH k _ _)) (aJ ?_ (ag r2 (ag (fy k r _) (aJ ?_ (ag (o _ _ ?_ ?_) (ag c9 (ag zn ?_))))))))
 ·simp only[cy,bh];omega
 ·simp only[cy,bh];omega
 ·simp only[cy,bh,fG,iC];omega
 ·simp only[cy,bh,fG,iC];omega
 refine ag S (ag u1 (ag S (ag u2 (aJ ?_ (ag (fy k (fR k) _) (ag u3 (ag (iZ k (bH k _ _) (fO k _ _)) (ag (fy k hK _) (ag u4 (ag (iZ k (bH k _ _) (fO k _ _)) (aJ ?_ ?_)))))))))))
 ·simp only[cy,bh,fG,iC];omega
 ·simp only[cy,bh,fG,iC];omega
 dsimp only;refine ax (zy8 k V.cm.2 ⟨?_,?_⟩ ?_) λvx1 j=>?_
 ·simp only[cy,bh,fG,iC];omega
 ·refine jM (jM (jM (jM (nG λi u=>?_) (nG λi u=>?_)) ?_) (nG λi u=>?_)) ?_
  ·exact(T6 k (bH k _ _) (d9 k (eO V.pw.2 (by omega))) (bH k _ _)).1
  ·exact d9 k (eO V.ch.2 (by omega))
  ·intro x c;rw[gE]at c;rw[c];exact ot k P (bH k _ _)
  ·exact d9 k (eO V.pw.2 (by omega))
  intro x c;simp only[gp,kg,kh]at c;rcases c with rfl|rfl<;>exact fO k _ _
 ·simp only[cy,bh,fG,iC];omega
 have Y:=zyN (uv gr (vpT gr key l out p) p.Pi.aF) (n:=l.length) (a1:=rg (LQ gr (vpY gr key l out p) (vpZ gr key l out p) p) l.length) (a2:=rg (λi=>p.aH.getD i 0) l.length) (a4:=rg (λi=>p.bN.getD i 0) l.length) (b1:=rg (IZ gr h R) l.length) (b2:=rg (Is gr h p R) l.length) (b4:=rg (Lx gr h R) l.length)
  (a3:=aQ gr [p.aH.getD (l.length-1) 0,av gr gr.G (0-tgN gr.Q (vpX gr key l out p) (vpY gr key l out p) (vpZ gr key l out p) l.length)]) (b3:=av gr h R.g) (a5:=zaP gr (sdV l).1 (rg (iN gr.Q (vpX gr key l out p)) l.length) 1) (a6:=zaP gr (sdV l).2 (rg (iN gr.Q (vpX gr key l out p)) l.length) 1)
  (b5:=aQ gr [av gr gr.G (i64.wrap (0-R.f)),zaP gr (sdV out).1 R.kk 1]) (b6:=aQ gr [av gr key (i64.wrap (0-R.f)),zaP gr (sdV out).2 R.kk 1]) (bh _ _) (bh _ _) (bh _ _) (bh _ _) (bh _ _) (bh _ _)
 have hB:Ce gr key h l out p R (vpX gr key l out p) (vpY gr key l out p) (vpZ gr key l out p) (vpT gr key l out p) l.length=(List.range p.Pi.aF.length).all (λi=>uv gr (vpT gr key l out p) p.Pi.aF i ((rg (LQ gr (vpY gr key l out p) (vpZ gr key l out p) p) l.length++rg (λi=>p.aH.getD i 0) l.length++[aQ gr [p.aH.getD (l.length-1) 0,av gr gr.G (0-tgN gr.Q (vpX gr key l out p) (vpY gr key l out p) (vpZ gr key l out p) l.length)]]++rg (λi=>p.bN.getD i 0) l.length++[zaP gr (sdV l).1 (rg (iN gr.Q (vpX gr key l out p)) l.length) 1,zaP gr (sdV l).2 (rg (iN gr.Q (vpX gr key l out p)) l.length) 1]).getD i 0) ((rg (IZ gr h R) l.length++rg (Is gr h p R) l.length++[av gr h R.g]++rg (Lx gr h R) l.length++[aQ gr [av gr gr.G (i64.wrap (0-R.f)),zaP gr (sdV out).1 R.kk 1],aQ gr [av gr key (i64.wrap (0-R.f)),zaP gr (sdV out).2 R.kk 1]]).getD i 0)):=by
  rw[lM];simp only[gO,tJ,nb];rw[Y,MD];unfold Ce q3 qE;rw[MD,hpn]
  have e:=Jh (n:=l.length) (f:=λi=>q1 gr h (vpY gr key l out p) (vpZ gr key l out p) (vpT gr key l out p) p R i&&q2 gr h (vpT gr key l out p) p R l.length i&&q4 gr h (vpT gr key l out p) p R l.length i) (g:=λi=>uv gr (vpT gr key l out p) p.Pi.aF i ((rg (LQ gr (vpY gr key l out p) (vpZ gr key l out p) p) l.length).getD i 0) ((rg (IZ gr h R) l.length).getD i 0)&&uv gr (vpT gr key l out p) p.Pi.aF (l.length+i) ((rg (λi=>p.aH.getD i 0) l.length).getD i 0) ((rg (Is gr h p R) l.length).getD i 0)&&uv gr (vpT gr key l out p) p.Pi.aF (2*l.length+1+i) ((rg (λi=>p.bN.getD i 0) l.length).getD i 0) ((rg (Lx gr h R) l.length).getD i 0)) λi u=>by
   simp only[kW _ u];rfl
  rw[e];rfl
 rw[hB];rcases j with⟨rfl,j⟩|⟨rfl,j⟩
 ·exact ak j.symm
 exact ak j.symm
end
end
def zEy{gr:am}(k:ap gr){key h:Int}{B:ct}{l out:List ao}{p:cu}(j:l.length<=12)(c:(decide (out.length=l.length)&&tv gr l.length p)=Z):Bq gr B key l out p=J Z/\CY gr key h l out p=J Z:=by
 have e:((out.length:Int) !=(l.length:Int))= !decide (out.length=l.length):=by rw[bne,iT]
 unfold Bq CY;rw[e,zz8 k (by omega),Y1 k (by omega)];cases g:decide (out.length=l.length)
 ·exact⟨rfl,rfl⟩
 rw[g,jt]at c;rw[c];exact⟨rfl,rfl⟩
def zF4(gr:am)(key:Int){l:List ao}(I:ap gr->qw gr l.length)(K:l.length<=13)(out:List ao)(p:cu):∃v t,ut gr key l out p=J (v,t)/\G1 gr key l out p=J (v,t):=by
 by_cases k:ap gr
 ·obtain⟨B,u,M,D,E⟩:=K8 k key (I k) K;unfold ut G1 Gq;rw[E,uT k,uT k,xu k,u,show(aL gr key&&(di 1 12 l.length&&l.all (b8 gr)))=dm gr key l from rfl];cases H:dm gr key l
  ·exact⟨Z,Z,rfl,rfl⟩
  have r:=H;simp only[dm,di,bC,eE]at r;obtain⟨j,N,F⟩:=r;rw[j];cases m:(di 1 12 out.length&&out.all (b8 gr))
  ·exact⟨Z,Z,rfl,rfl⟩
  simp only[bC]at m;cases o:(decide (out.length=l.length)&&tv gr l.length p)
  ·obtain⟨c,e⟩:=zEy (key:=key) (h:=B.H) (B:=B) k (by omega) o;refine⟨Z,O,?_,?_⟩
   ·simp[c]
   simp[e]
  obtain⟨G,g⟩:=B0.1 o;obtain⟨R,V⟩:=zG4 (h:=B.H) j (l:=l) (by omega) (bc.1 F) (bc.1 m.2) D (zw G) g;have c:=zz9 k V g;have e:=zFn k V g;generalize ((p.Pi.aX.getD 0 0==vpT gr key l out p)&&Ce gr key B.H l out p R (vpX gr key l out p) (vpY gr key l out p) (vpZ gr key l out p) (vpT gr key l out p) l.length)=v at c e;refine⟨v,O,?_,?_⟩
  ·simp[c]
  simp[e]
 refine⟨Z,Z,?_,?_⟩
 ·unfold ut;rw[MI k];rfl
 unfold G1;rw[D1 k];rfl
def wa(q x y z:Int)(a j:Int):Int:=a*((y*(j+1)+kx q x (j.toNat+1)-z)%q)%q
def zD4(q x y z a i j:Int):wa q x y z (wa q x y z a i) j=wa q x y z (wa q x y z a j) i:=by
 unfold wa;generalize (y*(i+1)+kx q x (i.toNat+1)-z)%q=u;generalize (y*(j+1)+kx q x (j.toNat+1)-z)%q=v;rw[nh (a*u%q),e8,<-nh,nh (a*v%q),e8,<-nh];congr 1;rw[Mq,a1V u v,Mq]
def zAU(q x y z:Int)(n:Nat):((List.range n).map λ(i:Nat)=>(i:Int)).foldl (wa q x y z) 1=tgN q x y z n:=by
 induction n with
 |zero=>rfl
 |succ n ih=>
  rw[ng,lN,HP,ih];rfl
def RY{l:List Int}(h:dc l=O):l.Perm ((List.range l.length).map λ(i:Nat)=>(i:Int)):=by
 have g:=h;simp only[dc,bC,oe,eE,bc,di]at g
 have j:((List.range l.length).map λ(i:Nat)=>(i:Int)).Nodup:=by
  refine QH.2 ?_;exact List.Pairwise.imp (λh e=>h (by exact_mod_cast e)) (List.nodup_range (n:=l.length))
 refine(List.perm_ext_iff_of_nodup g.2 j).2 λa=>⟨λc=>?_,λc=>?_⟩
 ·have:=g.1 a c;simp only[jr,kT];exact⟨a.toNat,by omega,by omega⟩
 simp only[jr,kT]at c;obtain⟨i,k,rfl⟩:=c;exact V6 h ⟨by omega,by omega⟩
def zBt{l:List Int}(h:dc l=O)(q x y z:Int):l.foldl (wa q x y z) 1=tgN q x y z l.length:=by
 rw[(RY h).foldl_eq' (λi _ j _ a=>zD4 q x y z a i j),zAU]
def Oi{l:List Int}{f:Int->Int->Int}{a:Int}{i:Nat}(c:i<l.length):(l.take (i+1)).foldl f a=f ((l.take i).foldl f a) (l.getD i 0):=by
 rw[nT c,HP,bS c];rfl
def pg(gr:am)(a:Int):Int:=av gr gr.G a
section
variable {gr:am}
variable{q:Int}
def Kk{a b:Int}(h:a%gr.Q=b%gr.Q):pg gr a=pg gr b:=by unfold pg av;rw[h]
def Bj{a b:Int}(K:Int)(h:a=b+gr.Q*K):pg gr a=pg gr b:=Kk (by rw[h,HR])
def zMk{x a b:Int}(h:a%gr.Q=b%gr.Q):av gr x a=av gr x b:=by unfold av;rw[h]
def S6(a:Int):pg gr (a%gr.Q)=pg gr a:=Kk (e8 _ _)
def mw(a q:Int):∃m,a%q=a-q*m:=⟨a/q,Int.emod_def a q⟩
def ib(k:ap gr)(a b:Int):aQ gr [pg gr a,pg gr b]=pg gr (a+b):=by
 have c:=k.q;rw[<-S6 a,<-S6 b];unfold pg;rw[zyU k (oJ _ (by omega)) (oJ _ (by omega))];exact Kk (pU a b gr.Q).symm
def iz(k:ap gr)(a e:Int):av gr (pg gr a) e=pg gr (a*e):=by
 have c:=k.q;rw[<-S6 a,zMk (b:=e%gr.Q) (e8 _ _).symm];unfold pg;rw[X3 k (n6 k) (oJ _ (by omega)) (oJ _ (by omega))];exact Kk (nh a e gr.Q).symm
def Ro(k:ap gr):pg gr 0=1:=zwV k
def Gz(k:ap gr)(a:Int):aL gr (pg gr a)=O:=kY k (n6 k) a
def YE(k:ap gr)(a:Int):0<=pg gr a/\pg gr a<gr.P:=by
 have:=zX k gr.G a;exact⟨this.1,by unfold pg;omega⟩
def Tj(k:ap gr)(a b:Int):pg gr a*pg gr b%gr.P=pg gr (a+b):=by
 rw[<-ib k,LK k (YE k a) (YE k b).1]
def T7(k:ap gr):pg gr 1=gr.G:=by
 have g:=k.q;have e:=k.p;have c:=k.g;unfold pg av;rw[qS (by omega) (by omega)];show((gr.G.toNat^1%gr.P.toNat:Nat):Int)=gr.G;rw[Nat.pow_one,oG (by omega)];omega
def zAL(k:ap gr)(a b c:Int):aQ gr [pg gr a,pg gr b,pg gr c]=pg gr (a+b+c):=by
 have h:aQ gr [pg gr a,pg gr b,pg gr c]=aQ gr [pg gr a,pg gr b]*pg gr c%gr.P:=rfl;rw[h,ib k,Tj k]
open Classical in
noncomputable def dl(gr:am)(x:Int):Int:=if h:∃a,x=pg gr a then Classical.choose h else 0
def kP(k:ap gr){x:Int}(h:aL gr x=O):x=pg gr (dl gr x):=by
 have m:=k.g;have o:=k.q
 have e:∃a,x=pg gr a:=by
  obtain⟨s,j⟩:=zBQ k (n6 k) (show gr.G≠1 by omega) h;have r:=(Hv h).1;refine⟨s,?_⟩;unfold pg av;obtain⟨n,g⟩:=fF (show 0<=gr.Q by omega);have c:=(Hv (n6 k)).2.2;rw[g]at c⊢;rw[dT]at c;rw[<-pS,dT,K4 c,j];omega
 unfold dl;rw[dif_pos e];exact a5Y e
theorem Kp(a b:Nat->Int)(T:Int):∀n,ck (λi=>a i+T*b i) n=ck a n+T*ck b n
 |0=>by simp[ck]
 |n+1=>by
  show ck (λi=>a i+T*b i) n+(a n+T*b n)=(ck a n+a n)+T*(ck b n+b n);rw[Kp a b T n];grind
def zCS(a b:Nat->Int)(n:Nat):ck (λi=>a i+b i) n=ck a n+ck b n:=by
 have:=Kp a b 1 n;simpa using this
theorem Z8(f:Int->Int)(l:List Int):∀n,n<=l.length->(l.take n).foldl (λa j=>a+f j) 0=ck (λi=>f (l.getD i 0)) n
 |0,_=>rfl
 |n+1,h=>by
  rw[Oi (by omega),Z8 f l n (by omega)];rfl
theorem zr8(f:Int->Int):∀n,((List.range n).map λ(i:Nat)=>(i:Int)).foldl (λa j=>a+f j) 0=ck (λi=>f (i:Nat)) n
 |0=>rfl
 |n+1=>by
  rw[ng,lN,HP,zr8 f n];rfl
def zuE{l:List Int}(h:dc l=O)(f:Int->Int):ck (λi=>f (l.getD i 0)) l.length=ck (λi=>f (i:Nat)) l.length:=by
 have c:=Z8 f l l.length (cq _);rw[jQ]at c;rw[<-c,(RY h).foldl_eq' (λi _ j _ a=>by omega),zr8]
def uy(k:ap gr){l m:List Int}{f:Nat->Int}(g:l.length=m.length)(j:∀i,i<l.length->l.getD i 0=pg gr (f i)):zaP gr l m 1=pg gr (ck (λi=>f i*m.getD i 0) l.length):=by
 have key:∀n,n<=l.length->zaP gr (l.take n) (m.take n) 1=pg gr (ck (λi=>f i*m.getD i 0) n):=by
  intro n;induction n with
  |zero=>intro _;exact(Ro k).symm
  |succ n ih=>
   intro o;have c:n<l.length:=by omega
   have e:n<m.length:=by omega
   rw[nT c,nT e,Nl gr _ _ _ _ _ (by simp;omega),ih (by omega),<-bS c,<-bS e,j n c,iz k,Tj k];rfl
 have:=key l.length (cq _);rw[jQ,g,jQ]at this;rw[this,g]
def zw1(k:ap gr){l:List Int}{f:Nat->Int}(e:∀i,i<l.length->l.getD i 0=pg gr (f i)):aQ gr l=pg gr (ck f l.length):=by
 have key:∀n,n<=l.length->(l.take n).foldl (λo x=>o*x%gr.P) 1=pg gr (ck f n):=by
  intro n;induction n with
  |zero=>intro _;exact(Ro k).symm
  |succ n ih=>
   intro g;have c:n<l.length:=by omega
   rw[Oi c,ih (by omega),e n c,Tj k];rfl
 have:=key l.length (cq _);rw[jQ]at this;exact this
theorem Ok{q:Int}(c:0<q)(l m:List Int):∀n,dtN q l m n%q=ck (λi=>l.getD i 0*m.getD i 0) n%q
 |0=>rfl
 |n+1=>by
  show(dtN q l m n+l.getD n 0*m.getD n 0)%q%q=(ck _ n+l.getD n 0*m.getD n 0)%q;rw[e8,pU,Ok c l m n,<-pU]
theorem WV{q:Int}(c:0<q)(l:List Int):∀n,smN q l n%q=ck (λi=>l.getD i 0) n%q
 |0=>rfl
 |n+1=>by
  show(smN q l n+l.getD n 0)%q%q=(ck _ n+l.getD n 0)%q;rw[e8,pU,WV c l n,<-pU]
def zFy{g j k e T c f F D m o r u v E:Int}(K:g-q*m=j+T*(k+c*e)-q*o)(M:F-q*r=f+T*D-q*u)(N:D-q*v=e-q*E):
 (c*(0-f)+j)+k*T=(c*(0-F)+g)+q*(o-m+c*(r-u)+T*c*(v-E)):=by
 have G:g=j+T*(k+c*e)-q*o+q*m:=by rw[<-K];grind
 have H:D=e-q*E+q*v:=by rw[<-N];grind
 have I:F=f+T*D-q*u+q*r:=by rw[<-M];grind
 rw[I,G,H];grind
def zGL{perm:List Int}(hp:dc perm=O){e U o rs g K:Nat->Int}{k f F D T:Int}(ho:∀i,i<perm.length->o i=e (perm.getD i 0).toNat+k*rs i)
(hK:∀i,i<perm.length->K i%q=(g i+T*U (perm.getD i 0).toNat)%q)(G:F%q=(f+T*D)%q)(m:D%q=ck (λi=>rs i*U (perm.getD i 0).toNat) perm.length%q):
 ((k*(0-f)+ck (λi=>o i*g i) perm.length)+ck (λj=>e j*U j) perm.length*T)%q=(k*(0-F)+ck (λi=>o i*K i) perm.length)%q:=by
 have c:ck (λi=>o i*K i) perm.length%q=ck (λi=>o i*g i+T*(o i*U (perm.getD i 0).toNat)) perm.length%q:=Uv _ λi r=>by
  rw[nh,hK i r,<-nh,show o i*(g i+T*U (perm.getD i 0).toNat)=o i*g i+T*(o i*U (perm.getD i 0).toNat)by grind]
 rw[Kp]at c;have v:ck (λi=>o i*U (perm.getD i 0).toNat) perm.length=ck (λi=>e (perm.getD i 0).toNat*U (perm.getD i 0).toNat+k*(rs i*U (perm.getD i 0).toNat)) perm.length:=Cv _ λi r=>by rw[ho i r];grind
 rw[Kp]at v;have E:=zuE hp (λj=>e j.toNat*U j.toNat);have N:ck (λi:Nat=>e (i:Int).toNat*U (i:Int).toNat) perm.length=ck (λj=>e j*U j) perm.length:=rfl;rw[N]at E;rw[v,E]at c;generalize ck (λi=>o i*K i) perm.length=H at c⊢;generalize ck (λi=>o i*g i) perm.length=I at c⊢;generalize ck (λj=>e j*U j) perm.length=M at c⊢;generalize ck (λi=>rs i*U (perm.getD i 0).toNat) perm.length=u at c m;obtain⟨m1,P⟩:=mw H q;obtain⟨m2,Q⟩:=mw (I+T*(M+k*u)) q;obtain⟨m3,S⟩:=mw F q;obtain⟨m4,X⟩:=mw (f+T*D) q;obtain⟨m5,Y⟩:=mw D q;obtain⟨m6,h6⟩:=mw u q;rw[P,Q]at c;rw[S,X]at G;rw[Y,h6]at m;rw[zFy c G m,HR]
end
section
variable {gr:am}
variable{i:Nat}
def ek{a b q:Int}(h:a%q=b%q):∃m,a=b+q*m:=by
 obtain⟨m,c⟩:=mw a q;obtain⟨n,e⟩:=mw b q;rw[c,e]at h;exact⟨m-n,by rw[Int.mul_sub];omega⟩
def wN(k:ap gr){h eta:Int}(c:h=pg gr eta)(x r:Int):vc gr h x r=pg gr (x+eta*r):=by
 rw[c];unfold vc;rw[iz k];exact ib k x (eta*r)
def tN{c:Type}{a b:List c}{d:c}(h:i<a.length):(a++b).getD i d=a.getD i d:=by
 rw[mA,mA,fE h]
def uk{c:Type}{a b:List c}{j:Nat}{d:c}(h:i=a.length+j):(a++b).getD i d=b.getD j d:=by
 rw[mA,mA,f9 (by omega),h,WH]
def zI8{q w v T y p e z u c a b eta g j k m o r:Int}(D:u=y*p+e-z+q*g)(E:o=w+T*u+q*j)(F:c=y*a+b+q*k)(G:r=v+T*c+q*m):
 (w+eta*v)+((p+eta*a)*y+(e+eta*b)+(0-z))*T=(o+eta*r)+q*(0-(T*g+j+eta*T*k+eta*m)):=by
 rw[G,F,E,D];grind
def zKE(k:ap gr){h eta w v T y p e z u ab a b r D:Int}(c:h=pg gr eta)(g:u%gr.Q=(y*p+e-z)%gr.Q)(j:r%gr.Q=(w+T*u)%gr.Q)(m:ab%gr.Q=(y*a+b)%gr.Q)(o:D%gr.Q=(v+T*ab)%gr.Q)(E:i64.wrap (0-z)=0-z):
 aQ gr [vc gr h w v,av gr (aQ gr [av gr (vc gr h p a) y,vc gr h e b,av gr gr.G (i64.wrap (0-z))]) T]=vc gr h r D:=by
 obtain⟨F,g⟩:=ek g;obtain⟨G,j⟩:=ek j;obtain⟨H,m⟩:=ek m;obtain⟨I,o⟩:=ek o;rw[wN k c,wN k c,wN k c,wN k c,iz k,E,show av gr gr.G (0-z)=pg gr (0-z)from rfl,zAL k,iz k,ib k];exact Bj _ (zI8 g j m o)
def zM4{q g e eta w s T D c u r v d j k m o:Int}(E:D=g*u+q*j)(F:r=w+T*u+q*k)(G:d=c-e*u+q*m)(H:v=s+T*d+q*o):
 ((g+eta*e)*w+eta*s)+(D+eta*c)*T=((g+eta*e)*r+eta*v)+q*(T*j-(g+eta*e)*k-eta*T*m-eta*o):=by
 rw[H,G,F,E];grind
def zMM(k:ap gr){h eta e D v w s T G c u E F d:Int}(r:h=pg gr eta)(H:e=pg gr (D+eta*v))(g:G%gr.Q=(D*u)%gr.Q)(j:E%gr.Q=(w+T*u)%gr.Q)(m:d%gr.Q=(c-v*u)%gr.Q)(o:F%gr.Q=(s+T*d)%gr.Q):
 aQ gr [aQ gr [av gr e w,av gr h s],av gr (vc gr h G c) T]=aQ gr [av gr e E,av gr h F]:=by
 obtain⟨I,g⟩:=ek g;obtain⟨K,j⟩:=ek j;obtain⟨M,m⟩:=ek m;obtain⟨N,o⟩:=ek o;rw[wN k r,H,r,iz k,iz k,iz k,iz k,iz k,ib k,ib k,ib k];exact Bj _ (zM4 g j m o)
def zKH{q c m e b T K M eta g j:Int}(k:K=c+T*e+q*g)(o:M=m+T*b+q*j):(c+eta*m)+(e+eta*b)*T=(K+eta*M)+q*(0-(g+eta*j)):=by
 rw[k,o];grind
def zJq(k:ap gr){h eta o m e b T K M:Int}(j:h=pg gr eta)(c:K%gr.Q=(o+T*e)%gr.Q)(g:M%gr.Q=(m+T*b)%gr.Q):aQ gr [vc gr h o m,av gr (vc gr h e b) T]=vc gr h K M:=by
 obtain⟨r,c⟩:=ek c;obtain⟨u,g⟩:=ek g;rw[wN k j,wN k j,wN k j,iz k,ib k];exact Bj _ (zKH c g)
def zJK{q g k c m T G eta e j:Int}(o:k=m+q*e)(r:G=g+T*c+q*j):eta*g+(k+eta*c+m*(-1))*T=eta*G+q*(T*e-eta*j):=by
 rw[o,r];grind
def zNa(k:ap gr){h eta g r c e T G:Int}(o:h=pg gr eta)(j:r%gr.Q=e%gr.Q)(m:G%gr.Q=(g+T*c)%gr.Q):aQ gr [av gr h g,av gr (aQ gr [vc gr h r c,av gr (av gr gr.G e) (-1)]) T]=av gr h G:=by
 obtain⟨u,j⟩:=ek j;obtain⟨v,m⟩:=ek m;rw[wN k o,o,show av gr gr.G e=pg gr e from rfl,iz k,iz k,iz k,ib k,iz k,ib k];exact Bj _ (zJK j m)
def O9(k:ap gr){b0 f F D T base:Int}{g c e u r perm:List Int}{al U o rs:Nat->Int}(S:base=pg gr b0)(Y:dc perm=O)(H:g.length=perm.length)(E:c.length=perm.length)(lu:e.length=perm.length)(lk:u.length=perm.length)(lK:r.length=perm.length)
(v:∀j,j<perm.length->g.getD j 0=pg gr (al j))(hu:∀j,j<perm.length->e.getD j 0=U j)(G:∀i,i<perm.length->c.getD i 0=pg gr (o i))(I:∀i,i<perm.length->o i=al (perm.getD i 0).toNat+b0*rs i)
(Q:∀i,i<perm.length->r.getD i 0%gr.Q=(u.getD i 0+T*U (perm.getD i 0).toNat)%gr.Q)(N:F%gr.Q=(f+T*D)%gr.Q)(M:D%gr.Q=ck (λi=>rs i*U (perm.getD i 0).toNat) perm.length%gr.Q)
(X:i64.wrap (0-f)=0-f)(P:i64.wrap (0-F)=0-F):
 aQ gr [aQ gr [av gr base (i64.wrap (0-f)),zaP gr c u 1],av gr (zaP gr g e 1) T]=aQ gr [av gr base (i64.wrap (0-F)),zaP gr c r 1]:=by
 have K:ck (λi=>al i*e.getD i 0) perm.length=ck (λi=>al i*U i) perm.length:=Cv _ λi v=>by rw[hu i v]
 rw[X,P,S,iz k,iz k,uy k (l:=c) (m:=u) (f:=o) (by omega) (by rw[E];exact G),uy k (l:=c) (m:=r) (f:=o) (by omega) (by rw[E];exact G),uy k (l:=g) (m:=e) (f:=al) (by omega) (by rw[H];exact v),E,H,K,ib k,ib k,iz k,ib k];exact Kk (zGL Y I Q N M)
theorem Zf{q x:Int}(e:1<q)(c:0<=x):∀i,kx q x i=((x.toNat^i%q.toNat:Nat):Int)
 |0=>by
  show(1:Int)=_;rw[Wu,oG (by omega)];rfl
 |i+1=>by
  obtain⟨n,rfl⟩:=fF c;obtain⟨m,rfl⟩:=fF (show 0<=q by omega);show kx _ _ i*_%_=_;rw[Zf e c i,dT,dT,<-Ev,<-pS,Nat.pow_succ,uV,QE,<-uV]
def Tm{q x:Int}{perm:List Int}(h:0<=perm.getD i 0):eF q x perm i=iN q x (perm.getD i 0).toNat:=by
 unfold eF iN;rw[show(perm.getD i 0+1).toNat=(perm.getD i 0).toNat+1 by omega]
def zEc{q x y z:Int}(k:1<q)(m:0<=x){perm:List Int}(g:∀j∈perm,0<=j/\j<=1000)(c:dc perm=O):sD q (uF q y z (eF q x perm) perm) perm.length=tgN q x y z perm.length:=by
 have key:∀n,n<=perm.length->sD q (uF q y z (eF q x perm) perm) n=(perm.take n).foldl (wa q x y z) 1:=by
  intro n;induction n with
  |zero=>intro _;rfl
  |succ n ih=>
   intro o;rw[Oi (by omega),<-ih (by omega)];show sD q _ n*uF q y z _ perm n%q=wa q x y z _ _;have e:=(eO g (show n<perm.length by omega)).1;unfold wa uF;rw[Zf k m,Tm e];rfl
 rw[key _ (cq _),jQ,zBt c]
theorem zz0{f:Nat->Bool}:∀{n},(∀i,i<n->f i=O)->alB f n=O
 |0,_=>rfl
 |n+1,h=>by
  show(alB f n&&f n)=O;rw[zz0 λi c=>h i (by omega),h n (by omega)];rfl
end
section
variable {gr:am}{key h:Int}{l:List ao}{perm rs:List Int}{C:Pc}
abbrev c0:ao:=⟨0,0⟩
variable{ch:List Int}
def Jv{l:List ao}{j:Nat}(c:j<l.length):(sdV l).1.getD j 0=(l.getD j c0).A/\(sdV l).2.getD j 0=(l.getD j c0).B:=by
 simp[sdV,List.getD,c]
def IL(k:∀c∈l,b8 gr c=O){j:Nat}(g:j<l.length):aL gr (l.getD j c0).A=O/\aL gr (l.getD j c0).B=O:=by
 have h:=k _ (eL g);have e:l.getD j c0=l[j]:=by simp[List.getD,g]
 rw[e];simpa only[b8,bC]using h
def zE4{i:Nat}(c:i<perm.length):(zaR gr key l perm rs).getD i c0=zF gr key (l.getD (perm.getD i 0).toNat c0) (rs.getD i 0):=by
 simp[zaR,List.getD,c]
def AO(k:ap gr)(m:ni gr key l perm rs){i:Nat}(g:i<perm.length):(sdV (zaR gr key l perm rs)).1.getD i 0=pg gr (dl gr (l.getD (perm.getD i 0).toNat c0).A+1*rs.getD i 0)/\(sdV (zaR gr key l perm rs)).2.getD i 0=pg gr (dl gr (l.getD (perm.getD i 0).toNat c0).B+dl gr key*rs.getD i 0):=by
 have D:=eO m.pr g;have e:=IL m.c (show(perm.getD i 0).toNat<l.length by omega);have v:=Jv (l:=zaR gr key l perm rs) (j:=i) (by rw[lJ];exact g);rw[v.1,v.2,zE4 g];unfold zF;generalize l.getD (perm.getD i 0).toNat c0=c at e;have o:=kP k e.1;have r:=kP k e.2;have u:=kP k m.key;generalize dl gr c.A=a at o;generalize dl gr c.B=b at r;generalize dl gr key=E at u;dsimp only;rw[o,r,u,iz k];refine⟨by rw[show av gr gr.G (rs.getD i 0)=pg gr (rs.getD i 0)from rfl,ib k,WG],?_⟩;rw[<-Ro k,ib k,ib k,QC]
def zyh(k:ap gr){eta:Int}(c:h=pg gr eta){u:Nat->Int}{n i:Nat}(e:i<n):bef gr.G (rg (chF gr h u C) n) i=pg gr (sD gr.Q u i+eta*Bk C i):=by
 unfold bef;cases i with
 |zero=>
  show gr.G=pg gr (1+eta*0);rw[Int.mul_zero,Int.add_zero,T7 k]
 |succ i=>
  rw[uk (a:=[gr.G]) (j:=i) (by simp;omega),kW _ (by omega)];exact wN k c _ _
def LN{gr:am}(k:ap gr){z:Int}(c:E9 gr.Q z):i64.wrap (0-z)=0-z:=by
 have e:=c.1;have g:=c.2;have m:=k.q;have j:=k.p;exact aK (by omega) (by omega)
def zKz{out:List ao}{n i:Nat}(c:i<n):(pN gr key h out ch C n).getD i 0=MT gr h C i:=by
 unfold pN;rw[tN (by simp[bh];omega),tN (by simp[bh];omega),tN (by simp[bh];omega),tN (by simp[bh];omega),kW _ c]
def zKI{out:List ao}{n i:Nat}(c:i<n):(pN gr key h out ch C n).getD (n+i) 0=c2F gr h ch C i:=by
 unfold pN;rw[tN (by simp[bh];omega),tN (by simp[bh];omega),tN (by simp[bh];omega),uk (j:=i) (by simp[bh]),kW _ c]
def zK7{out:List ao}{n:Nat}:(pN gr key h out ch C n).getD (2*n) 0=av gr h C.g:=by
 unfold pN;rw[tN (by simp[bh];omega),tN (by simp[bh];omega),uk (j:=0) (by simp[bh];omega)];rfl
def zJT{out:List ao}{n i:Nat}(c:i<n):(pN gr key h out ch C n).getD (2*n+1+i) 0=XJ gr h C i:=by
 unfold pN;rw[tN (by simp[bh];omega),uk (j:=i) (by simp[bh];omega),kW _ c]
def zC3{out:List ao}{n:Nat}:(pN gr key h out ch C n).getD (3*n+1) 0=aQ gr [av gr gr.G (i64.wrap (0-C.f)),zaP gr (sdV out).1 C.k 1]/\(pN gr key h out ch C n).getD (3*n+2) 0=aQ gr [av gr key (i64.wrap (0-C.f)),zaP gr (sdV out).2 C.k 1]:=by
 unfold pN;rw[uk (i:=3*n+1) (j:=0) (by simp[bh];omega),uk (i:=3*n+2) (j:=1) (by simp[bh];omega)];exact⟨rfl,rfl⟩
def ij(gr:am)(key h:Int)(l:List ao)(perm rs:List Int)(C:Pc):Rp:=
 let q:=gr.Q;let t:=kJ gr key h l perm rs C;let u:=lX gr key h l perm rs C;let e:=jZ gr key h l perm rs C;let n:=l.length
 ⟨rg (rF q t C.w u) n,rg (rF q t C.v (abF q (rH gr key h l perm rs C) C)) n,rg (rF q t C.s (dlF q u C)) n,(C.g+t*C.c.getD (n-1) 0)%q,rg (rF q t C.k e) n,rg (rF q t C.m (λi=>C.b.getD i 0)) n,(C.f+t*dtN q rs (rg e n) n)%q⟩
def zCq(k:ap gr)(P:gX gr key h l perm rs C):∀z∈g8 gr key h l perm rs C,aL gr z=O:=by
 have g:=kP k P.hh;have m:=P.m.pl;have j:=P.c.k.1;have r:(zaR gr key l perm rs).length=l.length:=by rw[lJ,P.m.pl]
 have o:=m7 (zaR gr key l perm rs)
 have d1:aL gr (zaP gr (sdV (zaR gr key l perm rs)).1 C.k 1)=O:=by
  rw[uy k (f:=λi=>dl gr (l.getD (perm.getD i 0).toNat c0).A+1*rs.getD i 0) (by omega) λi e=>(AO k P.m (by omega)).1];exact Gz k _
 have d2:aL gr (zaP gr (sdV (zaR gr key l perm rs)).2 C.k 1)=O:=by
  rw[uy k (f:=λi=>dl gr (l.getD (perm.getD i 0).toNat c0).B+dl gr key*rs.getD i 0) (by omega) λi e=>(AO k P.m (by omega)).2];exact Gz k _
 unfold g8 pN;refine jM (jM (jM (jM (nG λi _=>LY k P.hh _ _) (nG λi e=>?_)) ?_) (nG λi _=>LY k P.hh _ _)) ?_
 ·unfold c2F;refine rb k (kY k ?_ _) (kY k P.hh _);unfold jy;rw[zyh k g e];exact Gz k _
 ·intro x c;rw[gE]at c;rw[c];exact kY k P.hh _
 intro x c;simp only[gp,kg,kh]at c;rcases c with rfl|rfl
 ·exact rb k (kY k (n6 k) _) d1
 exact rb k (kY k P.m.key _) d2
def zE0(k:ap gr)(P:gX gr key h l perm rs C):∀z∈(ij gr key h l perm rs C).cs,E9 gr.Q z:=by
 have m:=k.q;have e:0<gr.Q:=by omega
 have c:∀(t:Int) (w:List Int) (u:Nat->Int) (n:Nat),∀z∈rg (rF gr.Q t w u) n,E9 gr.Q z:=λt w u n=>nG λi _=>by unfold rF;exact gC e _
 have g:∀x:Int,∀z∈[x%gr.Q],E9 gr.Q z:=λx z j=>by rw[gE]at j;rw[j];exact gC e _
 exact jM (c _ _ _ _) (jM (c _ _ _ _) (jM (c _ _ _ _) (jM (g _) (jM (c _ _ _ _) (jM (c _ _ _ _) (g _))))))
def Yb(k:ap gr)(P:gX gr key h l perm rs C):yb gr key h l (zaR gr key l perm rs) (jh gr key h l perm rs C) (ij gr key h l perm rs C):=
 ⟨P.m.key,P.m.n,P.m.c,vr k P.m,by rw[lJ,P.m.pl],P.hh,⟨bh _ _,TL k P⟩,⟨bh _ _,ZX k P⟩,II k P,⟨(G2 k P).1,zCq k P⟩,rfl,rfl,⟨bh _ _,bh _ _,bh _ _,bh _ _,bh _ _⟩⟩
def zEN(k:ap gr)(P:gX gr key h l perm rs C):tv gr l.length (jh gr key h l perm rs C)=O:=by
 have V:=Yb k P;have c:=V.rs
 have e:(jh gr key h l perm rs C).Pi.aG.length=5*l.length+2:=by
  rw[c];have r:=V.r;simp only[Rp.cs,cy,fG,iC,r.s1,r.s2,r.s3,r.kk,r.mm];omega
 simp only[tv,bC,eE];exact⟨V.pl.1,V.pw.1,V.ch.1,V.cm.1,V.cl,e,bc.2 V.pl.2,bc.2 V.pw.2,bc.2 V.ch.2,bc.2 V.cm.2,by rw[c];exact WR (zE0 k P)⟩
end
section
variable {gr:am}{key h:Int}{l:List ao}{perm rs:List Int}{C:Pc}
variable{i:Nat}
def zGk(k:ap gr)(P:gX gr key h l perm rs C)(c:i<l.length):q1 gr h (rH gr key h l perm rs C) (uG gr key h l perm rs C) (kJ gr key h l perm rs C) (jh gr key h l perm rs C) (ij gr key h l perm rs C) i=O:=by
 have e:E9 gr.Q (uG gr key h l perm rs C):=mQ k _ _;show(aQ gr [(g8 gr key h l perm rs C).getD i 0,av gr (aQ gr [av gr ((gM gr h perm C l.length).getD i 0) (rH gr key h l perm rs C),(kq gr key h l perm rs C).getD i 0,av gr gr.G (i64.wrap (0-uG gr key h l perm rs C))]) (kJ gr key h l perm rs C)]==vc gr h ((ij gr key h l perm rs C).s1.getD i 0) ((ij gr key h l perm rs C).s2.getD i 0))=O;unfold g8 gM kq ij;dsimp only;rw[zKz c,kW _ c,kW _ c,kW _ c,kW _ c];exact beq_iff_eq.2 (zKE k (kP k P.hh) (u:=lX gr key h l perm rs C i) (ab:=abF gr.Q (rH gr key h l perm rs C) C i) (e8 _ _) (e8 _ _) (e8 _ _) (e8 _ _) (LN k e))
def zFD(k:ap gr)(P:gX gr key h l perm rs C)(c:i<l.length):q2 gr h (kJ gr key h l perm rs C) (jh gr key h l perm rs C) (ij gr key h l perm rs C) l.length i=O:=by
 show(aQ gr [(g8 gr key h l perm rs C).getD (l.length+i) 0,av gr ((jy gr key h l perm rs C).getD i 0) (kJ gr key h l perm rs C)]==aQ gr [av gr (bef gr.G (jy gr key h l perm rs C) i) ((ij gr key h l perm rs C).s1.getD i 0),av gr h ((ij gr key h l perm rs C).s3.getD i 0)])=O;unfold g8 ij;dsimp only;rw[zKI c,kW _ c,kW _ c];unfold c2F;have e:bef gr.G (jy gr key h l perm rs C) i=pg gr (sD gr.Q (lX gr key h l perm rs C) i+dl gr h*Bk C i):=zyh k (kP k P.hh) c;have g:(jy gr key h l perm rs C).getD i 0=vc gr h (sD gr.Q (lX gr key h l perm rs C) (i+1)) (C.c.getD i 0):=kW _ c;rw[g];exact beq_iff_eq.2 (zMM k (kP k P.hh) e (u:=lX gr key h l perm rs C i) (d:=dlF gr.Q (lX gr key h l perm rs C) C i) (e8 _ _) (e8 _ _) (e8 _ _) (e8 _ _))
def zGY(k:ap gr)(P:gX gr key h l perm rs C)(c:i<l.length):q4 gr h (kJ gr key h l perm rs C) (jh gr key h l perm rs C) (ij gr key h l perm rs C) l.length i=O:=by
 show(aQ gr [(g8 gr key h l perm rs C).getD (2*l.length+1+i) 0,av gr ((kq gr key h l perm rs C).getD i 0) (kJ gr key h l perm rs C)]==vc gr h ((ij gr key h l perm rs C).kk.getD i 0) ((ij gr key h l perm rs C).mm.getD i 0))=O;unfold g8 ij kq;dsimp only;rw[zJT c,kW _ c,kW _ c,kW _ c];exact beq_iff_eq.2 (zJq k (kP k P.hh) (e8 _ _) (e8 _ _))
def zER(k:ap gr)(P:gX gr key h l perm rs C):q3 gr h (tgN gr.Q (nC gr key h l perm rs C) (rH gr key h l perm rs C) (uG gr key h l perm rs C) l.length) (kJ gr key h l perm rs C) (jh gr key h l perm rs C) (ij gr key h l perm rs C) l.length=O:=by
 have j:=P.m.n;have m:=k.q;have g:E9 gr.Q (nC gr key h l perm rs C):=mQ k _ _;have e:=zEc (q:=gr.Q) (y:=rH gr key h l perm rs C) (z:=uG gr key h l perm rs C) (by omega) g.1 P.pr P.m.pb;rw[P.m.pl]at e;have c:(jy gr key h l perm rs C).getD (l.length-1) 0=vc gr h (sD gr.Q (lX gr key h l perm rs C) (l.length-1+1)) (C.c.getD (l.length-1) 0):=kW _ (by omega);rw[show l.length-1+1=l.length by omega]at c;show(aQ gr [(g8 gr key h l perm rs C).getD (2*l.length) 0,av gr (aQ gr [(jy gr key h l perm rs C).getD (l.length-1) 0,av gr (av gr gr.G (tgN gr.Q _ _ _ l.length)) (-1)]) (kJ gr key h l perm rs C)]==av gr h (ij gr key h l perm rs C).g)=O;rw[c];unfold g8 ij;dsimp only;rw[zK7];exact beq_iff_eq.2 (zNa k (kP k P.hh) (iB (· %gr.Q) e) (e8 _ _))
def zCB(k:ap gr)(P:gX gr key h l perm rs C):dtN gr.Q rs (rg (jZ gr key h l perm rs C) l.length) l.length%gr.Q=ck (λi=>rs.getD i 0*iN gr.Q (nC gr key h l perm rs C) (perm.getD i 0).toNat) perm.length%gr.Q:=by
 have e:=k.q;rw[Ok (by omega),P.m.pl];refine iB (· %gr.Q) (Cv _ λi c=>?_);rw[kW _ c];unfold jZ;rw[Tm (eO P.pr (by rw[P.m.pl];exact c)).1]
def zGc(k:ap gr)(P:gX gr key h l perm rs C):qE gr (kJ gr key h l perm rs C) ((g8 gr key h l perm rs C).getD (3*l.length+1) 0) gr.G (rg (iN gr.Q (nC gr key h l perm rs C)) l.length) (sdV l).1 (sdV (zaR gr key l perm rs)).1 (ij gr key h l perm rs C)=O/\
 qE gr (kJ gr key h l perm rs C) ((g8 gr key h l perm rs C).getD (3*l.length+2) 0) key (rg (iN gr.Q (nC gr key h l perm rs C)) l.length) (sdV l).2 (sdV (zaR gr key l perm rs)).2 (ij gr key h l perm rs C)=O:=by
 have K:=k.q;have m:=P.m.pl;have H:=m7 l;have e:=m7 (zaR gr key l perm rs);rw[lJ]at e;have I:=P.c.k.1;have v:=LN k P.c.f;have r:i64.wrap (0-(ij gr key h l perm rs C).f)=0-(ij gr key h l perm rs C).f:=LN k (gC (by omega) _)
 have u:∀i,i<perm.length->(ij gr key h l perm rs C).kk.getD i 0%gr.Q=(C.k.getD i 0+kJ gr key h l perm rs C*iN gr.Q (nC gr key h l perm rs C) (perm.getD i 0).toNat)%gr.Q:=λi c=>by
  unfold ij;dsimp only;rw[kW _ (by omega)];unfold rF;rw[e8];unfold jZ;rw[Tm (eO P.pr c).1]
 have E:(ij gr key h l perm rs C).kk.length=perm.length:=by unfold ij;dsimp only;rw[bh,m]
 have G:(rg (iN gr.Q (nC gr key h l perm rs C)) l.length).length=perm.length:=by rw[bh,m]
 have F:∀j,j<perm.length->(rg (iN gr.Q (nC gr key h l perm rs C)) l.length).getD j 0=iN gr.Q (nC gr key h l perm rs C) j:=λj D=>kW _ (by omega)
 have g:(ij gr key h l perm rs C).f%gr.Q=(C.f+kJ gr key h l perm rs C*dtN gr.Q rs (rg (jZ gr key h l perm rs C) l.length) l.length)%gr.Q:=e8 _ _;unfold qE g8;rw[zC3.1,zC3.2];refine⟨beq_iff_eq.2 (O9 k (perm:=perm) (b0:=1) (T7 k).symm P.m.pb (by omega) e.1 G (by omega) E (al:=λj=>dl gr (l.getD j c0).A) (o:=λi=>dl gr (l.getD (perm.getD i 0).toNat c0).A+1*rs.getD i 0) (rs:=λi=>rs.getD i 0) (λj D=>?_) F (λi c=>(AO k P.m c).1) (λ_ _=>rfl) u g (zCB k P) v r),beq_iff_eq.2 (O9 k (perm:=perm) (b0:=dl gr key) (kP k P.m.key) P.m.pb (by omega) e.2 G (by omega) E (al:=λj=>dl gr (l.getD j c0).B) (o:=λi=>dl gr (l.getD (perm.getD i 0).toNat c0).B+dl gr key*rs.getD i 0) (rs:=λi=>rs.getD i 0) (λj D=>?_) F (λi c=>(AO k P.m c).2) (λ_ _=>rfl) u g (zCB k P) v r)⟩
 ·rw[(Jv (by omega)).1];exact kP k (IL P.m.c (by omega)).1
 rw[(Jv (by omega)).2];exact kP k (IL P.m.c (by omega)).2
def zFz(k:ap gr)(P:gX gr key h l perm rs C):Ce gr key h l (zaR gr key l perm rs) (jh gr key h l perm rs C) (ij gr key h l perm rs C) (nC gr key h l perm rs C) (rH gr key h l perm rs C) (uG gr key h l perm rs C) (kJ gr key h l perm rs C) l.length=O:=by
 unfold Ce;rw[zz0 λi c=>by rw[zGk k P c,zFD k P c,zGY k P c];rfl,zER k P];have g:=zGc k P;have e:(jh gr key h l perm rs C).Pi.aF=g8 gr key h l perm rs C:=rfl;rw[e,g.1,g.2];rfl
def zA3(k:ap gr){B:ct}(P:gX gr key B.H l perm rs C):Bq gr B key l (zaR gr key l perm rs) (jh gr key B.H l perm rs C)=J O:=by
 rw[zz9 k (Yb k P) (zEN k P)];have o:=zFz k P;have c:vpX gr key l (zaR gr key l perm rs) (jh gr key B.H l perm rs C)=nC gr key B.H l perm rs C:=rfl;have e:vpY gr key l (zaR gr key l perm rs) (jh gr key B.H l perm rs C)=rH gr key B.H l perm rs C:=rfl;have g:vpZ gr key l (zaR gr key l perm rs) (jh gr key B.H l perm rs C)=uG gr key B.H l perm rs C:=rfl;have j:vpT gr key l (zaR gr key l perm rs) (jh gr key B.H l perm rs C)=kJ gr key B.H l perm rs C:=rfl;have m:(jh gr key B.H l perm rs C).Pi.aX.getD 0 0=kJ gr key B.H l perm rs C:=rfl;rw[c,e,g,j,m,o,a1W];rfl
end
section
variable {gr:am}{key:Int}{B:ct}{l:List ao}{perm rs s t w x:List Int}{a b d f:Int}
variable{i:Nat}
def Ta(h:dc perm=O){j:Nat}(c:i<perm.length)(g:j<perm.length)(e:perm.getD i 0=perm.getD j 0):i=j:=by
 simp only[dc,bC,oe,eE]at h;rw[bS c,bS g]at e;exact(List.getElem_inj h.2).1 e
def zCR{Hs ss:List Int}(v:dc perm=O)(k:∀x∈perm,0<=x/\x<perm.length)(c:i<perm.length):(zev gr Hs perm ss).getD (perm.getD i 0).toNat 0=aQ gr [av gr gr.G (ss.getD (perm.getD i 0).toNat 0),Hs.getD i 0]:=by
 have h:=OL (f:=tY gr Hs perm ss) (I:=λm s=>s.length=perm.length/\∀i,i<m->i<perm.length->s.getD (perm.getD i 0).toNat 0=aQ gr [av gr gr.G (ss.getD (perm.getD i 0).toNat 0),Hs.getD i 0]) (s0:=List.replicate perm.length 0) (m:=perm.length) ⟨by simp,λi c=>by omega⟩ (λm s j ⟨o,r⟩=>by
  refine⟨by simp[tY,o],λi c g=>?_⟩;unfold tY;have E:=eO k g;have F:=eO k j;by_cases e:m=i
  ·subst e;rw[mA,a5W (by omega),xH]
  ·have u:(perm.getD m 0).toNat≠(perm.getD i 0).toNat:=λD=>e (Ta v j g (by omega))
   rw[mA,a5X u,<-mA]
   exact r i (by omega) g) perm.length (cq _)
 exact h.2 i c c
def zAw(h:dc perm=O):∃k:Nat->Nat,∀j,j<perm.length->k j<perm.length/\perm.getD (k j) 0=(j:Int):=by
 have key:∀j:Nat,∃i,j<perm.length->i<perm.length/\perm.getD i 0=(j:Int):=by
  intro j;by_cases c:j<perm.length
  ·obtain⟨i,g,e⟩:=Qu (V6 h (j:=(j:Int)) ⟨by omega,by omega⟩);exact⟨i,λ_=>⟨g,by rw[bS g,e]⟩⟩
  ·exact⟨0,λm=>absurd m c⟩
 exact⟨λj=>Classical.choose (key j),λj c=>a5Y (key j) c⟩
def zKx(q u v a:Int):a*u%q*v%q=a*v%q*u%q:=by
 rw[nh (a*u%q),e8,<-nh,nh (a*v%q),e8,<-nh];congr 1;rw[Mq,a1V u v,Mq]
theorem X4(q:Int)(e:List Int):∀n,((List.range n).map λ(i:Nat)=>(i:Int)).foldl (λa j=>a*e.getD j.toNat 0%q) 1=alN q e n
 |0=>rfl
 |n+1=>by
  rw[ng,lN,HP,X4 q e n];rfl
theorem zxT(q:Int)(e:List Int):∀n,n<=perm.length->alN q (gB e perm) n=(perm.take n).foldl (λa j=>a*e.getD j.toNat 0%q) 1
 |0,_=>rfl
 |n+1,h=>by
  rw[Oi (by omega),<-zxT q e n (by omega)];show alN q _ n*(gB e perm).getD n 0%q=_;have:(gB e perm).getD n 0=e.getD (perm.getD n 0).toNat 0:=by simp[gB,List.getD,show n<perm.length by omega]
  rw[this]
def zAh(h:dc perm=O)(q:Int)(e:List Int):alN q (gB e perm) perm.length=alN q e perm.length:=by
 rw[zxT q e _ (cq _),jQ,(RY h).foldl_eq' (λi _ j _ a=>zKx q _ _ a),X4]
def zxd{e:List Int}(c:i<perm.length):(gB e perm).getD i 0=e.getD (perm.getD i 0).toNat 0:=by simp[gB,List.getD,c]
def Oo(eta:Int)(c t:List Int):Nat->Int
 |0=>eta
 |i+1=>t.getD i 0+Oo eta c t i*c.getD i 0
theorem Oz(k:ap gr){h eta:Int}(e:h=pg gr eta)(c t:List Int):∀i,hN gr h c t i=pg gr (Oo eta c t i)
 |0=>e
 |i+1=>by
  show aQ gr [av gr gr.G (t.getD i 0),av gr (hN gr h c t i) (c.getD i 0)]=_;rw[Oz k e c t i,iz k];exact ib k _ _
theorem zC7{q:Int}(eta:Int)(g t:List Int):∀n,Oo eta g t n%q=(yN q g t n+eta*alN q g n)%q
 |0=>by
  show eta%q=(0+eta*1)%q;rw[WA,QC]
 |n+1=>by
  obtain⟨j,o⟩:=ek (zC7 (q:=q) eta g t n);obtain⟨k,r⟩:=mw (t.getD n 0+g.getD n 0*yN q g t n) q;obtain⟨m,u⟩:=mw (alN q g n*g.getD n 0) q;show(t.getD n 0+Oo eta g t n*g.getD n 0)%q=((t.getD n 0+g.getD n 0*yN q g t n)%q+eta*(alN q g n*g.getD n 0%q))%q;rw[o,r,u];generalize t.getD n 0=a;generalize g.getD n 0=c;generalize yN q g t n=y;generalize alN q g n=p;have e:a+(y+eta*p+q*j)*c=(a+c*y-q*k+eta*(p*c-q*m))+q*(j*c+k+eta*m):=by grind
  rw[e,HR]
end
section
variable {gr:am}{key:Int}{B:ct}{l:List ao}{perm rs s t w x:List Int}{a b d f:Int}
def zuP(k:ap gr){Hs ss:List Int}(g:dc perm=O)(E:∀x∈perm,0<=x/\x<perm.length)(N:Hs.length=perm.length)(K:∀x∈Hs,aL gr x=O):∃o:Nat->Int,(∀j,j<perm.length->(zev gr Hs perm ss).getD j 0=pg gr (o j))/\
 ∀U:Nat->Int,ck (λj=>o j*U j) perm.length=ck (λj=>ss.getD j 0*U j) perm.length+ck (λi=>dl gr (Hs.getD i 0)*U (perm.getD i 0).toNat) perm.length:=by
 obtain⟨c,u⟩:=zAw g;refine⟨λj=>ss.getD j 0+dl gr (Hs.getD (c j) 0),λj M=>?_,λU=>?_⟩
 ·obtain⟨m,r⟩:=u j M;have:=zCR (gr:=gr) (Hs:=Hs) (ss:=ss) g E m;rw[r,dT]at this;rw[this];have e:=kP k (eO K (show c j<Hs.length by omega));show _=pg gr (ss.getD j 0+dl gr (Hs.getD (c j) 0));generalize Hs.getD (c j) 0=v at e;rw[<-ib k,<-e];rfl
 have F:ck (λj=>(ss.getD j 0+dl gr (Hs.getD (c j) 0))*U j) perm.length=ck (λj=>ss.getD j 0*U j+dl gr (Hs.getD (c j) 0)*U j) perm.length:=Cv _ λj _=>Int.add_mul _ _ _
 have G:=zuE g (λj=>dl gr (Hs.getD (c j.toNat) 0)*U j.toNat)
 have H:ck (λi=>dl gr (Hs.getD (c (perm.getD i 0).toNat) 0)*U (perm.getD i 0).toNat) perm.length=ck (λi=>dl gr (Hs.getD i 0)*U (perm.getD i 0).toNat) perm.length:=Cv _ λi D=>by
  have P:=eO E D;obtain⟨m,r⟩:=u (perm.getD i 0).toNat (by omega);rw[Ta g m D (by omega)]
 have I:ck (λi:Nat=>dl gr (Hs.getD (c (i:Int).toNat) 0)*U (i:Int).toNat) perm.length=ck (λj=>dl gr (Hs.getD (c j) 0)*U j) perm.length:=rfl;rw[F,zCS,<-I,<-G,H]
def zHb{q z:Int}{eta g e c:Nat->Int}{n:Nat}(h:∀i,i<n->g i%q=(e i+z*c i)%q):ck (λi=>eta i*g i) n%q=(ck (λi=>eta i*e i) n+z*ck (λi=>eta i*c i) n)%q:=by
 rw[<-Kp]
 exact Uv _ λi j=>by
  rw[nh,h i j,<-nh,show eta i*(e i+z*c i)=eta i*e i+z*(eta i*c i)by grind]
def zEB{q a c g e z m o j k:Int}(r:c=g+e)(u:m=a+z*o+q*j)(v:o=g+q*k):a+(c+e*(-1))*z=m+q*(0-(j+z*k)):=by
 rw[u,v,r];grind
def zKX(k:ap gr){a z g r:Int}{e c:List Int}{cx ex:Nat->Int}{Ss:Int}(D:∀j,j<e.length->e.getD j 0=pg gr (cx j))(v:∀j,j<c.length->c.getD j 0=pg gr (ex j))(u:ck cx e.length=Ss+ck ex c.length)(m:g%gr.Q=(a+z*r)%gr.Q)(o:r%gr.Q=Ss%gr.Q):
 aQ gr [av gr gr.G a,av gr (aQ gr [aQ gr e,av gr (aQ gr c) (-1)]) z]=av gr gr.G g:=by
 obtain⟨E,m⟩:=ek m;obtain⟨F,o⟩:=ek o;rw[zw1 k D,zw1 k v,iz k,ib k,iz k,show av gr gr.G a=pg gr a from rfl,show av gr gr.G g=pg gr g from rfl,ib k];exact Bj _ (zEB u m o)
def zFu{q b k c z u D j e g m o r:Int}(v:c=j+e)(E:u=b+z*D+q*m)(F:D=j+q*o)(G:g=k+z*e+q*r):(b+k)+c*z=(u+g)+q*(0-(m+z*o+r)):=by
 rw[E,F,v,G];grind
def zLR(k:ap gr){b z o D SsU SeU:Int}{g c e x r:List Int}{cx ex:Nat->Int}(H:∀j,j<g.length->g.getD j 0=pg gr (cx j))(F:∀j,j<c.length->c.getD j 0=pg gr (ex j))(I:g.length=e.length)(M:c.length=x.length)(K:c.length=r.length)
(G:ck (λj=>cx j*e.getD j 0) g.length=SsU+SeU)(u:o%gr.Q=(b+z*D)%gr.Q)(v:D%gr.Q=SsU%gr.Q)(E:ck (λi=>ex i*r.getD i 0) c.length%gr.Q=(ck (λi=>ex i*x.getD i 0) c.length+z*SeU)%gr.Q):
 aQ gr [aQ gr [av gr gr.G b,zaP gr c x 1],av gr (zaP gr g e 1) z]=aQ gr [av gr gr.G o,zaP gr c r 1]:=by
 obtain⟨N,u⟩:=ek u;obtain⟨P,v⟩:=ek v;obtain⟨Q,E⟩:=ek E;rw[uy k (l:=g) (m:=e) I H,uy k (l:=c) (m:=x) M F,uy k (l:=c) (m:=r) K F,show av gr gr.G b=pg gr b from rfl,show av gr gr.G o=pg gr o from rfl,iz k,ib k,ib k,ib k];exact Bj _ (zFu G u v E)
def zEY{q d e eta c y z k g j:Int}(m:e=y+eta*c+q*g)(o:k=d+z*y+q*j):d+(e+eta*(0-c))*z=k+q*(z*g-j):=by
 rw[m,o];grind
def zJk(k:ap gr){d z c m eta j y h o:Int}(r:h=pg gr eta)(u:o=pg gr m)(e:m%gr.Q=(y+eta*j)%gr.Q)(g:c%gr.Q=(d+z*y)%gr.Q):
 aQ gr [av gr gr.G d,av gr (aQ gr [o,av gr h (0-j)]) z]=av gr gr.G c:=by
 obtain⟨v,e⟩:=ek e;obtain⟨D,g⟩:=ek g;rw[r,u,show av gr gr.G d=pg gr d from rfl,show av gr gr.G c=pg gr c from rfl,iz k,ib k,iz k,ib k];exact Bj _ (zEY e g)
def zEZ{q w c x t k z e m g j:Int}(o:e=w+z*t+q*g)(r:m=x+z*k+q*j):(w+c*x)+(t+c*k)*z=(e+c*m)+q*(0-(g+c*j)):=by
 rw[o,r];grind
def zMQ(k:ap gr){w m x t o z c r c0 j:Int}(u:c0=pg gr m)(v:j=pg gr (t+m*o))(e:c%gr.Q=(w+z*t)%gr.Q)(g:r%gr.Q=(x+z*o)%gr.Q):
 aQ gr [aQ gr [av gr gr.G w,av gr c0 x],av gr j z]=aQ gr [av gr gr.G c,av gr c0 r]:=by
 obtain⟨D,e⟩:=ek e;obtain⟨E,g⟩:=ek g;rw[u,v,show av gr gr.G w=pg gr w from rfl,show av gr gr.G c=pg gr c from rfl,iz k,iz k,iz k,ib k,ib k,ib k];exact Bj _ (zEZ e g)
end
section
variable {gr:am}{key:Int}{B:ct}{l:List ao}{perm rs s t w x:List Int}{a b d f:Int}
variable{i:Nat}{z:Int}
def EN{F:Nat->Int}{n:Nat}(c:i<n):((List.range n).map F).getD i 0=F i:=kW F c
def zGd{n:Nat}{e g:List Int}(c:i<n):(xq gr z n e g rs s t w x a b d f).getD (4+i) 0=(w.getD i 0+z*t.getD i 0)%gr.Q:=by
 unfold xq;rw[tN (by simp;omega),uk (i:=4+i) (j:=i) rfl,EN c];rfl
def zFw{n:Nat}{e c:List Int}:(xq gr z n e c rs s t w x a b d f).drop (n+4)=(List.range n).map (rsF gr.Q z x c):=by
 unfold xq;exact QI (by simp)
def Vt{h:Int}{c e:List Int}(g:i<c.length):(zcu gr h c e).getD i 0=hN gr h c e (i+1):=EN g
def zBs{h:Int}{c e:List Int}(g:i<=c.length):bef h (zcu gr h c e) i=hN gr h c e i:=by
 unfold bef;cases i with
 |zero=>rfl
 |succ i=>rw[uk (a:=[h]) (j:=i) (by simp;omega),Vt (by omega)]
def zFW(k:ap gr)(P:dY gr key B l perm rs s t w x a b d f)(z:Int):aQ gr [av gr gr.G a,av gr (aQ gr [aQ gr (zev gr B.Hs perm s),av gr (aQ gr B.Hs) (-1)]) z]=av gr gr.G ((a+z*smN gr.Q s l.length)%gr.Q):=by
 have v:=k.q;have e:=P.m.pl;have m:=P.bs.l;have u:=(P.f8 k).1;obtain⟨cx,o,r⟩:=zuP k (ss:=s) P.m.pb P.Qd (by omega) P.bs.s;have c:=r (λ_=>1);simp only[WA]at c;refine zKX k (cx:=cx) (ex:=λi=>dl gr (B.Hs.getD i 0)) (Ss:=ck (λj=>s.getD j 0) perm.length) (λj g=>o j (by omega)) (λj g=>kP k (eO P.bs.s g)) ?_ (e8 _ _) ?_
 ·rw[u,m,<-e];exact c
 rw[<-e];exact WV (by omega) s _
def RV(P:dY gr key B l perm rs s t w x a b d f)(c:i<perm.length):((List.range l.length).map (rsF gr.Q z x (pmO gr key B l perm rs s))).getD i 0%gr.Q=(x.getD i 0+z*(pmE gr key B l perm rs s).getD (perm.getD i 0).toNat 0)%gr.Q:=by
 have e:=P.m.pl;rw[EN (by omega)];unfold rsF pmO;rw[e8,zxd c]
def zD6(k:ap gr)(P:dY gr key B l perm rs s t w x a b d f)(z:Int):aQ gr [aQ gr [av gr gr.G b,zaP gr B.Hs x 1],av gr (zaP gr (zev gr B.Hs perm s) (pmE gr key B l perm rs s) 1) z]=aQ gr [av gr gr.G ((b+z*dtN gr.Q s (pmE gr key B l perm rs s) l.length)%gr.Q),zaP gr B.Hs ((List.range l.length).map (rsF gr.Q z x (pmO gr key B l perm rs s))) 1]:=by
 have E:=k.q;have c:=P.m.pl;have g:=P.bs.l;have v:=(P.f8 k).1;have G:=(P.e k).1;have F:=P.c.x.1;obtain⟨cx,m,o⟩:=zuP k (ss:=s) P.m.pb P.Qd (by omega) P.bs.s;have r:=o (λj=>(pmE gr key B l perm rs s).getD j 0);refine zLR k (cx:=cx) (ex:=λi=>dl gr (B.Hs.getD i 0)) (D:=dtN gr.Q s (pmE gr key B l perm rs s) l.length) (λj e=>m j (by omega)) (λj e=>kP k (eO P.bs.s e)) (by omega) (by omega) (by simp;omega) (SsU:=ck (λj=>s.getD j 0*(pmE gr key B l perm rs s).getD j 0) perm.length) (SeU:=ck (λi=>dl gr (B.Hs.getD i 0)*(pmE gr key B l perm rs s).getD (perm.getD i 0).toNat 0) perm.length) ?_ (e8 _ _) ?_ ?_
 ·rw[v,<-c];exact r
 ·rw[<-c];exact Ok (by omega) _ _ _
 rw[g,<-c];exact zHb λi u=>by rw[c];exact RV P u
def zFf(k:ap gr)(P:dY gr key B l perm rs s t w x a b d f)(z:Int):aQ gr [av gr gr.G d,av gr (aQ gr [(zcu gr B.H (pmO gr key B l perm rs s) t).getD (l.length-1) 0,av gr B.H (0-alN gr.Q (pmE gr key B l perm rs s) (pmE gr key B l perm rs s).length)]) z]=av gr gr.G ((d+z*yN gr.Q (pmO gr key B l perm rs s) t l.length)%gr.Q):=by
 have m:=P.m.n;have g:=P.m.pl;have j:=(P.e k).1;have o:=(P.o k).1;have c:=kP k P.bs.h;have e:=zAh P.m.pb gr.Q (pmE gr key B l perm rs s);rw[Vt (by omega),show l.length-1+1=l.length by omega,j];refine zJk k c (Oz k c _ _ _) ?_ (e8 _ _);have:=zC7 (q:=gr.Q) (dl gr B.H) (pmO gr key B l perm rs s) t l.length;rw[this];unfold pmO;rw[<-g,e]
def XF(k:ap gr)(P:dY gr key B l perm rs s t w x a b d f):dtN gr.Q rs (pmO gr key B l perm rs s) l.length%gr.Q=ck (λi=>rs.getD i 0*(pmE gr key B l perm rs s).getD (perm.getD i 0).toNat 0) perm.length%gr.Q:=by
 have e:=k.q;rw[Ok (by omega),<-P.m.pl];refine iB (· %gr.Q) (Cv _ λi c=>?_);unfold pmO;rw[zxd c]
def ZT(k:ap gr)(P:dY gr key B l perm rs s t w x a b d f)(z:Int):
 aQ gr [aQ gr [av gr gr.G (i64.wrap (0-f)),zaP gr (sdV (zaR gr key l perm rs)).1 x 1],av gr (zaP gr (sdV l).1 (pmE gr key B l perm rs s) 1) z]=aQ gr [av gr gr.G (i64.wrap (0-(f+z*dtN gr.Q rs (pmO gr key B l perm rs s) l.length)%gr.Q)),zaP gr (sdV (zaR gr key l perm rs)).1 ((List.range l.length).map (rsF gr.Q z x (pmO gr key B l perm rs s))) 1]/\
 aQ gr [aQ gr [av gr key (i64.wrap (0-f)),zaP gr (sdV (zaR gr key l perm rs)).2 x 1],av gr (zaP gr (sdV l).2 (pmE gr key B l perm rs s) 1) z]=aQ gr [av gr key (i64.wrap (0-(f+z*dtN gr.Q rs (pmO gr key B l perm rs s) l.length)%gr.Q)),zaP gr (sdV (zaR gr key l perm rs)).2 ((List.range l.length).map (rsF gr.Q z x (pmO gr key B l perm rs s))) 1]:=by
 have D:=k.q;have u:=P.m.pl;have F:=(P.e k).1;have E:=P.c.x.1;have v:=m7 l;have e:=m7 (zaR gr key l perm rs);rw[lJ]at e;have m:=LN k P.c.f;have g:i64.wrap (0-(f+z*dtN gr.Q rs (pmO gr key B l perm rs s) l.length)%gr.Q)=0-(f+z*dtN gr.Q rs (pmO gr key B l perm rs s) l.length)%gr.Q:=LN k (gC (by omega) _);refine⟨O9 k (perm:=perm) (b0:=1) (T7 k).symm P.m.pb (by omega) e.1 (by omega) (by omega) (by simp;omega) (al:=λj=>dl gr (l.getD j c0).A) (U:=λj=>(pmE gr key B l perm rs s).getD j 0) (o:=λi=>dl gr (l.getD (perm.getD i 0).toNat c0).A+1*rs.getD i 0) (rs:=λi=>rs.getD i 0) (λj r=>?_) (λ_ _=>rfl) (λi c=>(AO k P.m c).1) (λ_ _=>rfl) (λi c=>RV P c) (e8 _ _) (XF k P) m g,O9 k (perm:=perm) (b0:=dl gr key) (kP k P.m.key) P.m.pb (by omega) e.2 (by omega) (by omega) (by simp;omega) (al:=λj=>dl gr (l.getD j c0).B) (U:=λj=>(pmE gr key B l perm rs s).getD j 0) (o:=λi=>dl gr (l.getD (perm.getD i 0).toNat c0).B+dl gr key*rs.getD i 0) (rs:=λi=>rs.getD i 0) (λj r=>?_) (λ_ _=>rfl) (λi c=>(AO k P.m c).2) (λ_ _=>rfl) (λi c=>RV P c) (e8 _ _) (XF k P) m g⟩
 ·rw[(Jv (by omega)).1];exact kP k (IL P.m.c (by omega)).1
 rw[(Jv (by omega)).2];exact kP k (IL P.m.c (by omega)).2
def zES(k:ap gr)(P:dY gr key B l perm rs s t w x a b d f)(z:Int)(e:i<l.length):aQ gr [zjO gr B.H (pmO gr key B l perm rs s) t w x i,av gr ((zcu gr B.H (pmO gr key B l perm rs s) t).getD i 0) z]=aQ gr [av gr gr.G ((w.getD i 0+z*t.getD i 0)%gr.Q),av gr (bef B.H (zcu gr B.H (pmO gr key B l perm rs s) t) i) (((List.range l.length).map (rsF gr.Q z x (pmO gr key B l perm rs s))).getD i 0)]:=by
 have g:=(P.o k).1;have c:=kP k P.bs.h;rw[Vt (by omega),zBs (by omega),EN e];exact zMQ k (Oz k c _ _ _) (Oz k c _ _ (i+1)) (e8 _ _) (e8 _ _)
def zBO(k:ap gr)(P:dY gr key B l perm rs s t w x a b d f):∀z∈pmC gr key B l perm rs s t w x a b d f,aL gr z=O:=by
 have j:=P.m.pl;have o:=P.c.x.1;have e:=P.bs.l;have r:(zaR gr key l perm rs).length=l.length:=by rw[lJ,P.m.pl]
 have m:=m7 (zaR gr key l perm rs)
 have d1:aL gr (zaP gr (sdV (zaR gr key l perm rs)).1 x 1)=O:=by
  rw[uy k (f:=λi=>dl gr (l.getD (perm.getD i 0).toNat c0).A+1*rs.getD i 0) (by omega) λi c=>(AO k P.m (by omega)).1];exact Gz k _
 have d2:aL gr (zaP gr (sdV (zaR gr key l perm rs)).2 x 1)=O:=by
  rw[uy k (f:=λi=>dl gr (l.getD (perm.getD i 0).toNat c0).B+dl gr key*rs.getD i 0) (by omega) λi c=>(AO k P.m (by omega)).2];exact Gz k _
 have d3:aL gr (zaP gr B.Hs x 1)=O:=by
  rw[uy k (f:=λi=>dl gr (B.Hs.getD i 0)) (by omega) λi c=>kP k (eO P.bs.s c)];exact Gz k _
 have g:=n6 k;unfold pmC yC;refine jM (Z1 (kY k g _) (rb k (kY k g _) d3) (kY k g _) (rb k (kY k g _) d1) (rb k (kY k P.m.key _) d2)) (nG λi c=>?_);exact rb k (kY k g _) (kY k (So k P.bs.h _ _ _) _)
def zGB(k:ap gr)(P:dY gr key B l perm rs s t w x a b d f):oL gr l.length (kO gr key B l perm rs s t w x a b d f)=O:=by
 have m:=k.q;have c:0<gr.Q:=by omega
 have e:∀(z:Int) (w t:List Int) (n:Nat),∀y∈(List.range n).map (rsF gr.Q z w t),E9 gr.Q y:=λz w t n=>nG λi _=>by unfold rsF;exact gC c _
 have j:∀y∈(kO gr key B l perm rs s t w x a b d f).Pi.aG,E9 gr.Q y:=by
  refine jM (jM (λy g=>?_) (e _ _ _ _)) (e _ _ _ _);simp only[gp,kg,kh]at g;rcases g with rfl|rfl|rfl|rfl<;>exact gC c _
 simp only[oL,bC,eE];exact⟨(P.f8 k).1,(P.mJ k).1,(P.o9 k).1,rfl,by simp[kO,xq];omega,bc.2 (P.f8 k).2,bc.2 (P.mJ k).2,bc.2 (zBO k P),WR j⟩
def zEg(k:ap gr)(P:dY gr key B l perm rs s t w x a b d f):tV gr key B l (zaR gr key l perm rs) (kO gr key B l perm rs s t w x a b d f)=O:=by
 have E:(zaR gr key l perm rs).length=l.length:=by rw[lJ,P.m.pl]
 have o:wvE gr key l (zaR gr key l perm rs) (kO gr key B l perm rs s t w x a b d f)=pmE gr key B l perm rs s:=rfl;have r:wvZ gr key l (zaR gr key l perm rs) (kO gr key B l perm rs s t w x a b d f)=pmZ gr key B l perm rs s t w x a b d f:=rfl;have u:(kO gr key B l perm rs s t w x a b d f).Pi.aX.getD 0 0=pmZ gr key B l perm rs s t w x a b d f:=rfl;unfold tV;rw[xN E,zGB k P,o,r,u,a1W,jt,jt,jt];have v:(kO gr key B l perm rs s t w x a b d f).Pi.aG=xq gr (pmZ gr key B l perm rs s t w x a b d f) l.length (pmE gr key B l perm rs s) (pmO gr key B l perm rs s) rs s t w x a b d f:=rfl;have g:(kO gr key B l perm rs s t w x a b d f).Pi.aF=yC gr key B.Hs (zaR gr key l perm rs) x a b d f++(List.range l.length).map (zjO gr B.H (pmO gr key B l perm rs s) t w x):=rfl;unfold mX nH;rw[v,g,zFw];generalize pmZ gr key B l perm rs s t w x a b d f=z;have D:(kO gr key B l perm rs s t w x a b d f).cC=zev gr B.Hs perm s:=rfl;have m:(kO gr key B l perm rs s t w x a b d f).aH=zcu gr B.H (pmO gr key B l perm rs s) t:=rfl;rw[D,m];refine bc.2 λi e=>?_
 have e:=kT.1 e;unfold qF hlB;rw[zo];rcases i with _|_|_|_|_|j
 ·exact zFW k P z
 ·exact zD6 k P z
 ·exact zFf k P z
 ·exact(ZT k P z).1
 ·exact(ZT k P z).2
 have c:j<l.length:=by omega
 rw[uk (i:=j+1+1+1+1+1) (j:=j) (by simp[yC];omega),uk (i:=j+1+1+1+1+1) (j:=j) (by simp[Ji];omega),uk (i:=j+1+1+1+1+1) (j:=j) (by simp[FO];omega),EN c,EN c];unfold zjf;rw[zGd c];exact zES k P z c
def zAF(k:ap gr)(P:dY gr key B l perm rs s t w x a b d f):EU gr B key l (zaR gr key l perm rs) (kO gr key B l perm rs s t w x a b d f)=J O:=by
 rw[ZE k P.m.key P.m.n P.m.c (vr k P.m) P.bs,zEg k P]
end
section
variable {gr:am}{key:Int}{l:List ao}{perm rs:List Int}
def Na(m:ni gr key l perm rs):dm gr key l=O/\ku gr l.length perm rs=O:=B0.1 (O7.2 m)
def SV(k:ap gr)(m:ni gr key l perm rs):(di 1 12 (zaR gr key l perm rs).length&&(zaR gr key l perm rs).all (b8 gr))=O:=by
 have c:=m.n;rw[lJ,m.pl,bC];exact⟨by simp[di];omega,bc.2 (vr k m)⟩
def zFX(k:ap gr){B:ct}(j:kR gr (l.length:Int)=J (B,O))(v:sG gr l.length B)(m:ni gr key l perm rs){c:List Int}(r:c.length=4*l.length+4)(o:c.all (dB gr)=O):∃p,qO gr key l perm rs c=J (p,O)/\t7 gr key l (zaR gr key l perm rs) p=J (O,O):=by
 have K:=k.q;have I:=k.p;have H:=m.n;obtain⟨g,E⟩:=Na m
 have G:i64.wrap (i64.wrap (4*(l.length:Int))+4)=((4*l.length+4:Nat):Int):=by
  rw[aK (n:=4*(l.length:Int)) (by omega) (by omega)];exact cU (by omega) (by omega)
 have D:((c.length:Int) !=((4*l.length+4:Nat):Int))=Z:=by rw[r];simp
 have u:=yc (gr:=gr) (by omega) (by omega) c;rw[o]at u;obtain⟨s,t,w,x,a,b,d,f,rfl,F⟩:=zsQ r o;have P:dY gr key B l perm rs s t w x a b d f:=⟨m,v,F⟩
 refine⟨kO gr key B l perm rs s t w x a b d f,?_,?_⟩
 ·unfold qO;rw[uE k key l j,g,Ab k (by omega),show(decide (perm.length=l.length)&&dc perm&&(decide (rs.length=l.length)&&rs.all (dB gr)))=ku gr l.length perm rs from rfl,E,G,D,u];exact bW (ag rfl (ax (ψ:=(· =Z)) (bQ rfl (ag rfl (bQ rfl (bQ rfl (ag rfl (ak rfl)))))) λb e=>by subst e;exact bQ rfl (ag (zAa k P) (ak rfl))))
 unfold t7;rw[uE k key l j,g,xu k,SV k m];exact bW (ag rfl (ax (ψ:=(· =Z)) (bQ rfl (ag rfl (ak rfl))) λb e=>by subst e;exact bQ rfl (ag (zAF k P) (ak rfl))))
def zG3(k:ap gr)(hd:okD gr=O)(m:ni gr key l perm rs){c:List Int}(r:c.length=8*l.length+2)(o:c.all (dB gr)=O):∃p,tn gr key l perm rs c=J (p,O)/\ut gr key l (zaR gr key l perm rs) p=J (O,O):=by
 have N:=k.q;have M:=k.p;have K:=m.n;obtain⟨j,E⟩:=Na m;obtain⟨B,H,I,v,g⟩:=OZ k hd key (l:=l) (by omega)
 have G:i64.wrap (i64.wrap (8*(l.length:Int))+2)=((8*l.length+2:Nat):Int):=by
  rw[aK (n:=8*(l.length:Int)) (by omega) (by omega)];exact cU (by omega) (by omega)
 have D:((c.length:Int) !=((8*l.length+2:Nat):Int))=Z:=by rw[r];simp
 have u:=yc (gr:=gr) (by omega) (by omega) c;rw[o]at u;obtain⟨C,rfl,F⟩:=Yv (q:=gr.Q) r (zG o);have P:gX gr key B.H l perm rs C:=⟨m,v,F⟩
 refine⟨jh gr key B.H l perm rs C,?_,?_⟩
 ·unfold tn;rw[g,j,Ab k (by omega),show(decide (perm.length=l.length)&&dc perm&&(decide (rs.length=l.length)&&rs.all (dB gr)))=ku gr l.length perm rs from rfl,E,G,D,u];exact bW (ag rfl (ax (ψ:=(· =Z)) (bQ rfl (ag rfl (bQ rfl (bQ rfl (ag rfl (ak rfl)))))) λb e=>by subst e;exact bQ rfl (ag (ZV k P) (ak rfl))))
 unfold ut;rw[g,j,xu k,SV k m];exact bW (ag rfl (ax (ψ:=(· =Z)) (bQ rfl (ag rfl (ak rfl))) λb e=>by subst e;exact bQ rfl (ag (zA3 k P) (ak rfl))))
end
def K5(p:cQ):Bool:=((p.aF.length:Int)==0)&&(((p.aX.length:Int)==0)&&((p.aG.length:Int)==0))
section
variable {gr:am}
def YA(p:cQ):Hr p=J (K5 p):=by
 unfold Hr;rw[zun,zun];rfl
def zvb{p:cQ}(c:p.aF.length<=1048576)(e:p.aX.length<=1048576)(g:p.aG.length<=1048576):Fq p=J (K5 p):=by
 unfold Fq K5;rw[aK (n:=(p.aF.length:Int)+(p.aX.length:Int)) (by omega) (by omega),aK (n:=(p.aF.length:Int)+(p.aX.length:Int)+(p.aG.length:Int)) (by omega) (by omega)];congr 1;rw[WI];simp only[bC,zo];omega
end
def zG1(l:List ao):Kb l l=J O:=by
 unfold Kb;refine bW (bQ (by simp) (ax (ψ:=λv=>v=.inl ()) (eI (λ_ _=>True) trivial ?_ λs _=>rfl) ?_))
 ·rintro i s c _;exact bB c (bB c (bQ (by simp) (ak trivial)))
 rintro _ rfl;exact ak rfl
theorem fH:((1:Int)==1)=O:=rfl
theorem kc:((2:Int)==2)=O:=rfl
def ji:¬((2:Int)==1)=O:=by simp
abbrev rn:bZ:=⟨0,[],⟨[],[],⟨[],[],[]⟩⟩,⟨[],[],[],⟨[],[],[]⟩⟩⟩
def YM(l:List Int):Cz l=J (decide (l.length<=24)&&dc l):=by
 unfold Cz;by_cases h:l.length<=24
 ·have c:decide ((l.length:Int)<=24)=O:=by simp;omega
  rw[c,aE rfl,aK (n:=(l.length:Int)-1) (by omega) (by omega),VJ,zBq (by omega)];unfold dc;show Option.bind (Option.bind (J (l.all (di 0 ((l.length:Int)-1)))) _) _=_;cases l.all (di 0 ((l.length:Int)-1))<;>simp[h]
 have c:decide ((l.length:Int)<=24)=Z:=by simp;omega
 simp[c,h]
def mT(arg:Int)(n:Nat):Nat:=if arg=1 then 5*n+4 else 9*n+2
def sA(arg:Int):Bool:=arg==1||arg==2
def NR(a:Int):KS a=J (sA a):=by
 unfold KS sA;cases a==1<;>rfl
def zFl(a:Int){n:Nat}(c:n<=100):Jj a (n:Int)=J ((mT a n:Nat):Int):=by
 unfold Jj mT;by_cases h:a=1
 ·subst h;rw[aE fH,aE rfl,aK (n:=5*(n:Int)) (by omega) (by omega),aK (by omega) (by omega)];congr 1
 rw[aA (by simpa using h),aA h,aK (n:=9*(n:Int)) (by omega) (by omega),aK (by omega) (by omega)];congr 1
def UR(a:Int){n:Nat}(e:n<=100):EJ a (n:Int)=J (if(di 1 12 n&&sA a)=O then(((mT a n:Nat):Int),O)else(0,Z)):=by
 unfold EJ;rw[qs,aP];show(if(!di 1 12 (n:Int))=O then _ else _)=_;cases di 1 12 (n:Int)with
 |false=>rfl
 |true=>
  rw[oI,aA (by simp),jt];unfold sA mT;by_cases h:a=1
  ·subst h;rw[aE fH,aE (show((1:Int)==1||(1:Int)==2)=O from rfl),aE rfl,aK (n:=5*(n:Int)) (by omega) (by omega),aK (by omega) (by omega)];congr 2
  ·by_cases c:a=2
   ·subst c;rw[aA ji,aE kc,aE (show((2:Int)==1||(2:Int)==2)=O from rfl),aA h,aK (n:=9*(n:Int)) (by omega) (by omega),aK (by omega) (by omega)];congr 2
   ·rw[aA (by simpa using h),aA (by simpa using c),aA (by simp[h,c])]
structure LB (gr:am) (key:Int) (l:List ao) (arg:Int) (s:bZ):Prop where
 xk:ap gr
 xn:1<=l.length/\l.length<=12
 mb:dm gr key l=O
 xo:∃perm rs,ni gr key l perm rs/\s.Out=zaR gr key l perm rs
 xa:s.e9=arg
 xm:arg=1->s.Poly=BI/\t7 gr key l s.Out s.be=J (O,O)
 xp:arg=2->s.be=xD/\ut gr key l s.Out s.Poly=J (O,O)
 ar:sA arg=O
 ln:s.be.cC.length<=1000/\s.be.aH.length<=1000/\lp 1000 s.be.Pi/\s.Poly.bX.length<=1000/\s.Poly.bN.length<=1000/\s.Poly.aH.length<=1000/\lp 1000 s.Poly.Pi
section
variable {gr:am}{key:Int}{l:List ao}{perm rs:List Int}
def zGr(k:ap gr){B:ct}(r:kR gr (l.length:Int)=J (B,O))(m:ni gr key l perm rs){c:List Int}(D:c.length=4*l.length+4)(v:c.all (dB gr)=Z):qO gr key l perm rs c=J (xD,Z):=by
 have H:=k.q;have G:=k.p;have F:=m.n;obtain⟨j,o⟩:=Na m
 have E:i64.wrap (i64.wrap (4*(l.length:Int))+4)=((4*l.length+4:Nat):Int):=by
  rw[aK (n:=4*(l.length:Int)) (by omega) (by omega)];exact cU (by omega) (by omega)
 have g:((c.length:Int) !=((4*l.length+4:Nat):Int))=Z:=by rw[D];simp
 have e:=yc (gr:=gr) (by omega) (by omega) c;rw[v]at e;unfold qO;rw[uE k key l r,j,Ab k (by omega),show(decide (perm.length=l.length)&&dc perm&&(decide (rs.length=l.length)&&rs.all (dB gr)))=ku gr l.length perm rs from rfl,o,E,g,e];exact bW (ag rfl (ax (ψ:=(· =O)) (bQ rfl (ag rfl (bQ rfl (bQ rfl (ag rfl (ak rfl)))))) λb u=>by subst u;exact iS rfl (ak rfl)))
def zE5(k:ap gr)(hd:okD gr=O)(m:ni gr key l perm rs){c:List Int}(D:c.length=8*l.length+2)(v:c.all (dB gr)=Z):tn gr key l perm rs c=J (BI,Z):=by
 have M:=k.q;have K:=k.p;have I:=m.n;obtain⟨o,r⟩:=Na m;obtain⟨B,F,G,H,g⟩:=OZ k hd key (l:=l) (by omega)
 have E:i64.wrap (i64.wrap (8*(l.length:Int))+2)=((8*l.length+2:Nat):Int):=by
  rw[aK (n:=8*(l.length:Int)) (by omega) (by omega)];exact cU (by omega) (by omega)
 have j:((c.length:Int) !=((8*l.length+2:Nat):Int))=Z:=by rw[D];simp
 have e:=yc (gr:=gr) (by omega) (by omega) c;rw[v]at e;unfold tn;rw[g,o,Ab k (by omega),show(decide (perm.length=l.length)&&dc perm&&(decide (rs.length=l.length)&&rs.all (dB gr)))=ku gr l.length perm rs from rfl,r,E,j,e];exact bW (ag rfl (ax (ψ:=(· =O)) (bQ rfl (ag rfl (bQ rfl (bQ rfl (ag rfl (ak rfl)))))) λb u=>by subst u;exact iS rfl (ak rfl)))
end
def TE{l:List Int}(n:Nat):(l.take n).drop 0=l.take n:=by rw[a1G]
def zD7(gr:am)(S:Dg gr)(key:Int){l:List ao}(hl:l.length<=13)(arg:Int)(perm c:List Int):
 ∃s t,tD gr key l arg perm c=J (s,t)/\uh gr key l arg perm c=J (s,t)/\(t=Z->s=rn)/\(t=O->LB gr key l arg s):=by
 have gI:qq gr key l=J (⟨0,[]⟩,Z)->tD gr key l arg perm c=J (rn,Z):=λh=>by
  unfold tD;rw[h];rfl
 have gS:qj gr key l=J Z->uh gr key l arg perm c=J (rn,Z):=λh=>by
  unfold uh nr;rw[UR arg (by omega),h];cases (di 1 12 l.length&&sA arg)<;>rfl
 by_cases e:ap gr
 ·have hq:=e.q;have hp:=e.p;obtain⟨B,b1,b2,b3⟩:=zEl e (S e) (n:=l.length) hl;have D:=uE e key l b2;have T:=uT e key l;cases u:dm gr key l with
  |false=>
   rw[u]at D;rw[show(aL gr key&&(di 1 12 l.length&&l.all (b8 gr)))=dm gr key l from rfl,u]at T;exact⟨rn,Z,gI D,gS T,λ_=>rfl,by simp⟩
  |true=>
   rw[u,aE rfl]at D;rw[show(aL gr key&&(di 1 12 l.length&&l.all (b8 gr)))=dm gr key l from rfl,u]at T
   have hn:di 1 12 (l.length:Int)=O:=by
    unfold dm at u;simp only[bC]at u;exact u.2.1
   have Q7:=KQ.1 hn
   have V7:nr gr key l=J O:=by
    unfold nr;rw[T,aP,aA (by simp),b1];rfl
   have hcS:=UR arg (n:=l.length) (by omega);rw[hn,jt]at hcS;have Y:=zFl arg (n:=l.length) (by omega);have a2F:=BG (gr:=gr) (by omega) (by omega) c
   have v:uh gr key l arg perm c=if(sA arg&&(decide (perm.length=l.length)&&((decide (perm.length<=24)&&dc perm)&&(decide (c.length=mT arg l.length)&&c.all (dB gr)))))=O then(AJ gr key l arg perm c).bind λz=>J (z,O)else J (rn,Z):=by
    have e1:((perm.length:Int) !=(l.length:Int))= !decide (perm.length=l.length):=by
     by_cases h:perm.length=l.length
     ·rw[xN h,h];simp
     ·rw[Mo h];simp;omega
    have e2:((c.length:Int) !=((mT arg l.length:Nat):Int))= !decide (c.length=mT arg l.length):=by
     by_cases h:c.length=mT arg l.length
     ·rw[xN h,h];simp
     ·rw[Mo h];simp;omega
    unfold uh;rw[hcS,V7,YM,a2F];generalize AJ gr key l arg perm c=X;cases o:sA arg with
    |false=>rfl
    |true=>
     simp only[e7,aP,oI,lL,ja,e1,e2,jt];cases decide (perm.length=l.length)<;>cases (decide (perm.length<=24)&&dc perm)<;>cases decide (c.length=mT arg l.length)<;>cases c.all (dB gr)<;>rfl
   cases o:sA arg with
   |false=>
    rw[o,a1A,aA (by simp)]at v;refine⟨rn,Z,?_,v,λ_=>rfl,by simp⟩;unfold tD;rw[D,NR,o];rfl
   |true=>
    rw[o,jt]at v;by_cases N:c.length=mT arg l.length
    ·have Y8:l.length<=c.length:=by rw[N];unfold mT;split<;>omega
     have M:=Ab e (n:=l.length) (by omega) perm (c.take l.length);rw[show(decide (perm.length=l.length)&&dc perm&&(decide ((c.take l.length).length=l.length)&&(c.take l.length).all (dB gr)))=ku gr l.length perm (c.take l.length)from rfl]at M;have Q:((c.length:Int) !=((mT arg l.length:Nat):Int))=Z:=by rw[N];simp
     have U:c.all (dB gr)=((c.take l.length).all (dB gr)&&(c.drop l.length).all (dB gr)):=by
      rw[<-kU,Mp]
     have Ba:(c.take c.length).drop l.length=c.drop l.length:=by rw[jQ]
     have hdl:(c.drop l.length).length=mT arg l.length-l.length:=by rw[Wo,N]
     have h9:decide ((c.take l.length).length=l.length)=O:=xN (by rw[tH];omega);cases G:ku gr l.length perm (c.take l.length)with
     |false=>
      rw[G]at M;refine⟨rn,Z,?_,?_,λ_=>rfl,by simp⟩
      ·unfold tD;rw[D,NR,o,Y];simp only[aP,oI,lL,ja,Q,TE,M,d6 (show(0:Int)<=(l.length:Int)by omega),d6 (show 0<=l.length/\l.length<=c.length by omega),Bool.not_false,e7]
      ·rw[v,aA];rw[U];unfold ku at G;rw[h9]at G;revert G;cases decide (perm.length=l.length)<;>cases dc perm<;>cases (c.take l.length).all (dB gr)<;>simp
     |true=>
      rw[G]at M;have m:ni gr key l perm (c.take l.length):=O7.1 (by rw[u,G];rfl);have dW:=m.pl
      have I:tD gr key l arg perm c=((if(arg==1)=O then(qO gr key l perm (c.take l.length) (c.drop l.length)).bind λH=>J (arg,zaR gr key l perm (c.take l.length),H.1.cC,H.1.aH,H.1.Pi.aF,H.1.Pi.aX,H.1.Pi.aG,[],[],[],[],[],[],H.2)else(tn gr key l perm (c.take l.length) (c.drop l.length)).bind λE=>J (arg,zaR gr key l perm (c.take l.length),[],[],[],[],[],E.1.bX,E.1.bN,E.1.aH,E.1.Pi.aF,E.1.Pi.aX,E.1.Pi.aG,E.2):Option (Int×List ao×List Int×List Int×List Int×List Int×List Int×List Int×List Int×List Int×List Int×List Int×List Int×Bool))).bind λg=>
       if(!g.2.2.2.2.2.2.2.2.2.2.2.2.2)=O then J (rn,Z)else J (bZ.mk g.1 g.2.1 (cO.mk g.2.2.1 g.2.2.2.1 (cQ.mk g.2.2.2.2.1 g.2.2.2.2.2.1 g.2.2.2.2.2.2.1)) (cu.mk g.2.2.2.2.2.2.2.1 g.2.2.2.2.2.2.2.2.1 g.2.2.2.2.2.2.2.2.2.1 (cQ.mk g.2.2.2.2.2.2.2.2.2.2.1 g.2.2.2.2.2.2.2.2.2.2.2.1 g.2.2.2.2.2.2.2.2.2.2.2.2.1)),O):=by
       unfold tD;rw[D,NR,o,Y];simp only[aP,oI,lL,ja,Q,TE,M,d6 (show(0:Int)<=(l.length:Int)by omega),d6 (show 0<=l.length/\l.length<=c.length by omega),d6 (show l.length<=c.length/\c.length<=c.length by omega),Vj e m,Ba]
      have hT:(c.drop l.length).all (dB gr)=O->uh gr key l arg perm c=(AJ gr key l arg perm c).bind λz=>J (z,O):=λj=>by
       rw[v,aE];rw[U,j,m.re,xN dW,m.pb,xN N,xN (show perm.length<=24 by omega)];rfl
      have hF:(c.drop l.length).all (dB gr)=Z->uh gr key l arg perm c=J (rn,Z):=λj=>by
       rw[v,aA];rw[U,j];simp
      have xS:AJ gr key l arg perm c=((if(arg==1)=O then(wg gr key l perm (c.take l.length) (c.drop l.length)).bind λP=>J (arg,zaR gr key l perm (c.take l.length),P.1.cC,P.1.aH,P.1.Pi.aF,P.1.Pi.aX,P.1.Pi.aG,[],[],[],[],[],[])else(zI gr key l perm (c.take l.length) (c.drop l.length)).bind λK=>J (arg,zaR gr key l perm (c.take l.length),[],[],[],[],[],K.1.bX,K.1.bN,K.1.aH,K.1.Pi.aF,K.1.Pi.aX,K.1.Pi.aG):Option (Int×List ao×List Int×List Int×List Int×List Int×List Int×List Int×List Int×List Int×List Int×List Int×List Int))).bind λk=>
       J (bZ.mk k.1 k.2.1 (cO.mk k.2.2.1 k.2.2.2.1 (cQ.mk k.2.2.2.2.1 k.2.2.2.2.2.1 k.2.2.2.2.2.2.1)) (cu.mk k.2.2.2.2.2.2.2.1 k.2.2.2.2.2.2.2.2.1 k.2.2.2.2.2.2.2.2.2.1 (cQ.mk k.2.2.2.2.2.2.2.2.2.2.1 k.2.2.2.2.2.2.2.2.2.2.2.1 k.2.2.2.2.2.2.2.2.2.2.2.2))):=by
       unfold AJ;simp only[aP,TE,d6 (show(0:Int)<=(l.length:Int)by omega),d6 (show 0<=l.length/\l.length<=c.length by omega),d6 (show l.length<=c.length/\c.length<=c.length by omega),Vc e m,Ba]
      have tA:l.length<=20:=by omega
      by_cases h1:arg=1
      ·subst h1;have hl4:(c.drop l.length).length=4*l.length+4:=by rw[hdl];unfold mT;rw[aE rfl];omega
       obtain⟨p,t,F,p2,p3,p4⟩:=zKr gr key tA perm (c.take l.length) (c.drop l.length);rw[aE fH,F]at I;cases j:(c.drop l.length).all (dB gr)with
       |false=>
        have ht:t=Z:=by
         cases t with
         |false=>rfl
         |true=>
          have h:=zGr e b2 m hl4 j;rw[F]at h;cases h
        subst ht;exact⟨rn,Z,I,hF j,λ_=>rfl,by simp⟩
       |true=>
        obtain⟨p',q1,q2⟩:=zFX e b2 b3 m hl4 j;rw[F]at q1;cases q1;have r:=zDj tA (p4 rfl);refine⟨⟨1,zaR gr key l perm (c.take l.length),p,BI⟩,O,I,?_,by simp,λ_=>⟨e,by omega,u,⟨perm,_,m,rfl⟩,rfl,λ_=>⟨rfl,q2⟩,by simp,o,?_⟩⟩
        ·rw[hT j,xS,aE fH,p2];rfl
        ·exact⟨r.1,r.2.1,⟨r.2.2.1,r.2.2.2.1,r.2.2.2.2⟩,by simp,by simp,by simp,⟨by simp,by simp,by simp⟩⟩
      ·have h2:arg=2:=by
        unfold sA at o;simp only[xK,zo]at o;exact o.resolve_left h1
       subst h2;have hl8:(c.drop l.length).length=8*l.length+2:=by rw[hdl];unfold mT;rw[aA h1];omega
       obtain⟨p,t,F,p2,p3,p4⟩:=zKD gr S key hl perm (c.take l.length) (c.drop l.length);rw[aA ji,F]at I;cases j:(c.drop l.length).all (dB gr)with
       |false=>
        have ht:t=Z:=by
         cases t with
         |false=>rfl
         |true=>
          have h:=zE5 e (S e) m hl8 j;rw[F]at h;cases h
        subst ht;exact⟨rn,Z,I,hF j,λ_=>rfl,by simp⟩
       |true=>
        obtain⟨p',q1,q2⟩:=zG3 e (S e) m hl8 j;rw[F]at q1;cases q1;have r:=zDl hl (p4 rfl);refine⟨⟨2,zaR gr key l perm (c.take l.length),xD,p⟩,O,I,?_,by simp,λ_=>⟨e,by omega,u,⟨perm,_,m,rfl⟩,rfl,by simp,λ_=>⟨rfl,q2⟩,o,?_⟩⟩
        ·rw[hT j,xS,aA ji,p2];rfl
        ·exact⟨by simp,by simp,⟨by simp,by simp,by simp⟩,r.1,r.2.1,r.2.2.1,⟨r.2.2.2.1,r.2.2.2.2.1,r.2.2.2.2.2⟩⟩
    ·rw[Mo N]at v;refine⟨rn,Z,?_,by rw[v,aA (by simp)],λ_=>rfl,by simp⟩;have Q:((c.length:Int) !=((mT arg l.length:Nat):Int))=O:=by simp;omega
     unfold tD;rw[D,NR,o,Y];simp only[aP,oI,lL,ja,Q,e7]
 exact⟨rn,Z,gI (Lg e key l),gS (D1 e key l),λ_=>rfl,by simp⟩
def E8(p:cu):Bool:=(p.bX.length:Int)==0&&((p.bN.length:Int)==0&&((p.aH.length:Int)==0&&K5 p.Pi))
def HG(p:cO):Bool:=(p.cC.length:Int)==0&&((p.aH.length:Int)==0&&K5 p.Pi)
def zBZ(p:cu):IU p=J (E8 p):=by
 unfold IU E8;rw[YA];cases (p.bX.length:Int)==0<;>cases (p.bN.length:Int)==0<;>cases (p.aH.length:Int)==0<;>rfl
def zCA(p:cO):Lh p=J (HG p):=by
 unfold Lh HG;rw[YA];cases (p.cC.length:Int)==0<;>cases (p.aH.length:Int)==0<;>rfl
structure iq (n:Nat) (s:bZ):Prop where
 la:s.be.cC.length<=n
 lb:s.be.aH.length<=n
 lc:s.be.Pi.aF.length<=n/\s.be.Pi.aX.length<=n/\s.be.Pi.aG.length<=n
 ld:s.Poly.bX.length<=n
 le:s.Poly.bN.length<=n
 lf:s.Poly.aH.length<=n
 lg:s.Poly.Pi.aF.length<=n/\s.Poly.Pi.aX.length<=n/\s.Poly.Pi.aG.length<=n
def z2{a b:Nat}:(((a:Int)+(b:Int))==0)=((a:Int)==0&&((b:Int)==0)):=by
 rw[WI];simp;omega
def zDn{s:bZ}(h:iq 1048576 s):IR s.Poly=J (E8 s.Poly):=by
 have hd:=h.ld;have c:=h.le;have e:=h.lf;unfold IR E8;rw[zvb h.lg.1 h.lg.2.1 h.lg.2.2,aK (n:=(s.Poly.bX.length:Int)+(s.Poly.bN.length:Int)) (by omega) (by omega),aK (by omega) (by omega)]
 have:(((s.Poly.bX.length:Int)+(s.Poly.bN.length:Int)+(s.Poly.aH.length:Int))==0)=((s.Poly.bX.length:Int)==0&&((s.Poly.bN.length:Int)==0&&((s.Poly.aH.length:Int)==0))):=by
  rw[WI];simp only[bC,zo];omega
 rw[this];cases (s.Poly.bX.length:Int)==0<;>cases (s.Poly.bN.length:Int)==0<;>cases (s.Poly.aH.length:Int)==0<;>rfl
def zBT{s:bZ}(h:iq 1048576 s):KN s.be=J (HG s.be):=by
 have c:=h.la;have e:=h.lb;unfold KN HG;rw[zvb h.lc.1 h.lc.2.1 h.lc.2.2,aK (by omega) (by omega),z2];cases (s.be.cC.length:Int)==0<;>cases (s.be.aH.length:Int)==0<;>rfl
def tS(gr:am)(l:List ao):Bool:=di 1 12 l.length&&l.all (b8 gr)
def zDS{gr:am}(k:ap gr){key:Int}{l out:List ao}{B:ct}{c:Bool}(e:kR gr (l.length:Int)=J (B,c))(p:cO)(h:tS gr out=Z):t7 gr key l out p=J (Z,Z):=by
 unfold t7;rw[uE k key l e,xu k,show(di 1 12 out.length&&out.all (b8 gr))=tS gr out from rfl,h];cases dm gr key l<;>cases c<;>rfl
def zGi{gr:am}(k:ap gr){key:Int}{l out:List ao}(hd:qw gr l.length)(e:l.length<=13)(p:cu)(h:tS gr out=Z):ut gr key l out p=J (Z,Z):=by
 obtain⟨B,g,j,m,c⟩:=K8 k key hd e;unfold ut;rw[c,xu k,show(di 1 12 out.length&&out.all (b8 gr))=tS gr out from rfl,h];cases dm gr key l<;>rfl
def zEw(gr:am)(key:Int){l:List ao}(m:ap gr->qw gr l.length)(o:l.length<=13){x:bZ}(K:iq 1048576 x):∃v t,mS gr key l x=J (v,t)/\Fg gr key l x=J (v,t):=by
 by_cases k:ap gr
 ·obtain⟨C,_,_,_,j⟩:=K8 k key (m k) o;obtain⟨B,S,T,c3⟩:=Im k (m k) o;have e:=uT k key l;rw[show(aL gr key&&(di 1 12 l.length&&l.all (b8 gr)))=dm gr key l from rfl]at e;cases G:dm gr key l with
  |false=>
   rw[G]at j e;refine⟨Z,Z,?_,?_⟩
   ·unfold mS;rw[j];rfl
   ·unfold Fg nr;rw[e];rfl
  |true=>
   rw[G,aE rfl]at j;rw[G]at e
   have Q:nr gr key l=J O:=by
    unfold nr;rw[e,aP,aA (by simp),S];rfl
   have U:=xu k x.Out;have X:=XC k x.Out;obtain⟨D,r,M,Y⟩:=zJt gr key (l:=l) (by omega) x.Out x.be;obtain⟨E,u,N,w2⟩:=zF4 gr key m o x.Out x.Poly
   have g:mS gr key l x=if(!tS gr x.Out)=O then J (Z,O)else if(x.e9==1)=O then J (r&&(D&&E8 x.Poly),O)else if(x.e9==2)=O then J (u&&(E&&HG x.be),O)else J (Z,O):=by
    unfold mS;rw[j,U,M,N,zBZ,zCA,show(di 1 12 x.Out.length&&x.Out.all (b8 gr))=tS gr x.Out from rfl];cases tS gr x.Out<;>cases (x.e9==1)<;>cases (x.e9==2)<;>cases r<;>cases D<;>cases u<;>cases E<;>rfl
   have F:Fg gr key l x=if(!(decide (x.Out.length<=24)&&x.Out.all (b8 gr)))=O then J (Z,O)else if(x.e9==1)=O then J (r&&(D&&E8 x.Poly),O)else if(x.e9==2)=O then J (u&&(E&&HG x.be),O)else J (Z,O):=by
    unfold Fg DI;rw[Q,X,Y,w2,zDn K,zBT K];cases (decide (x.Out.length<=24)&&x.Out.all (b8 gr))<;>cases (x.e9==1)<;>cases (x.e9==2)<;>cases r<;>cases D<;>cases u<;>cases E<;>rfl
   cases c:tS gr x.Out with
   |true=>
    have P:(decide (x.Out.length<=24)&&x.Out.all (b8 gr))=O:=by
     unfold tS at c;rw[bC]at c;have:=KQ.1 c.1;rw[c.2,xN (by omega)];rfl
    rw[c]at g;rw[P]at F;rw[g,F];cases (x.e9==1)<;>cases (x.e9==2)<;>exact⟨_,_,rfl,rfl⟩
   |false=>
    have H:=zDS k T x.be (key:=key) c;have I:=zGi k (m k) (key:=key) o x.Poly c;rw[M]at H;rw[N]at I;cases H;cases I;rw[c]at g;refine⟨Z,O,g,?_⟩;rw[F];cases (decide (x.Out.length<=24)&&x.Out.all (b8 gr))<;>cases (x.e9==1)<;>cases (x.e9==2)<;>rfl
 refine⟨Z,Z,?_,?_⟩
 ·unfold mS;rw[MI k];rfl
 unfold Fg nr;rw[D1 k];rfl
def zGD{gr:am}(D:Dg gr){key:Int}{l:List ao}{arg:Int}{s:bZ}(x:LB gr key l arg s):mS gr key l s=J (O,O):=by
 have k:=x.xk;have E:=x.xn;obtain⟨C,_,_,_,o⟩:=OZ k (D k) key (l:=l) (by omega);rw[x.mb,aE rfl]at o;obtain⟨perm,rs,m,v⟩:=x.xo;have r:=xu k s.Out;rw[v,SV k m,<-v]at r;have j:=x.ar;unfold sA at j;unfold mS;rw[o,r,x.xa];by_cases g:arg=1
 ·obtain⟨c,e⟩:=x.xm g;subst g;rw[e,c];rfl
 have u:arg=2:=by
  simp only[xK,zo]at j;exact j.resolve_left g
 obtain⟨c,e⟩:=x.xp u;subst u;rw[e,c];rfl
def zuC{gr:am}{key:Int}{l:List ao}{arg:Int}{s:bZ}(x:LB gr key l arg s):iq 1000 s/\s.Out.length<=13:=by
 obtain⟨a,b,c,d,e,f,g⟩:=x.ln;refine⟨⟨a,b,c,d,e,f,g⟩,?_⟩;obtain⟨perm,rs,m,j⟩:=x.xo;have:=m.n;rw[j,lJ,m.pl];omega
end Go.Pm
