/-
  FnStages: plain laws.
  No condition.
-/
import Derived.Test.YtnojafnlicbhpaaGreatM41c
import Derived.Test.YtnojafnlicbhpaaGreatPmZ
open Bool renaming false→aa,true→Z
open Option renaming some→J
set_option linter.defProp false
namespace Go.Pm
open Go.Am IntKind
def eZ:=@Int.emod_emod
def gw:=@List.take_length
def jd:=@List.take_succ_eq_append_getElem
def jx:=@Int.tmod_eq_emod_of_nonneg
def jy:=@List.not_mem_nil
def jz:=@or_false
def kQ:=@List.all_append
def nc:=@List.range_succ
def ng:=@Int.mul_emod
def nP:=@List.getD_eq_getElem?_getD
def oC:=@Int.emod_nonneg
def pN:=@Int.natCast_emod
def pO:=@Nat.pow_mul
def pP:=@Int.add_emod
def qL:=@Nat.pow_mod
def qM:=@Int.emod_eq_of_lt
def ti:=@Int.sub_emod
def tj:=@Int.emod_lt_of_pos
def tn:=@Int.mul_nonneg
def uL:=@Nat.mul_mod
def xM:=@of_decide_eq_true
def xN:=@Int.mul_le_mul
def zE:=@List.all_eq_false
def B1:=@Int.le_refl
def B2:=@Bool.and_true
def B3:=@Bool.and_eq_true_iff
def Ez:=@decide_eq_false
def EA:=@List.take_append_drop
def HO:=@List.foldl_append
def HP:=@Nat.one_pow
def HQ:=@Int.add_mul_emod_self_left
def L8:=@List.mem_iff_getElem
def L9:=@List.all_nil
def Ma:=@Int.mul_assoc
def Mb:=@Bool.and_assoc
def Qo:=@Nat.mod_mod
def Qp:=@Nat.pow_add
def Qq:=@Classical.byContradiction
def Qr:=@List.drop_left'
def V8:=@Int.tdiv_eq_ediv_of_nonneg
def V9:=@Nat.mod_mul_mod
def Wa:=@Nat.pow_two
def Wb:=@Nat.pow_zero
def Wc:=@Int.tmod_lt_of_pos
def Wd:=@Int.lt_tmod_of_pos
def We:=@Int.add_emod_right
def Wf:=@Int.sub_zero
def Wg:=@of_decide_eq_false
def Wh:=@Nat.dvd_of_mod_eq_zero
def Wi:=@Int.mul_one
def Wj:=@List.nodup_cons
def Wl:=@Int.dvd_of_emod_eq_zero
def Wm:=@List.pairwise_map
def Wn:=@Int.natCast_pow
def Wo:=@Int.mul_le_mul_of_nonneg_left
def Wp:=@Int.one_mul
def Wq:=@Nat.add_sub_cancel_left
def Wr:=@Bool.eq_iff_iff
def a1q:=@BitVec.toNat_and
def a1r:=@Int.fdiv_eq_ediv_of_nonneg
def a1s:=@Int.tmod_def
def a1t:=@Int.mul_emod_right
def a1u:=@Int.ofNat_dvd_left
def a1v:=@Int.emod_eq_zero_of_dvd
def a1w:=@Int.pow_succ
def a1x:=@List.Pairwise.imp_of_mem
def a1y:=@List.take_append_getElem
def a1z:=@Int.mul_comm
def a1A:=@beq_self_eq_true
def a1B:=@List.take_left'
def a5x:=@Nat.mod_eq_zero_of_dvd
def a5y:=@Bool.and_eq_false_iff
def a5z:=@List.nodup_iff_pairwise_ne
def a5A:=@List.pairwise_iff_getElem
def a5B:=@List.pairwise_lt_range
def a5C:=@Int.mul_tdiv_cancel
def a5D:=@List.mem_erase_of_ne
def a5E:=@List.length_erase_of_mem
def a5F:=@List.getElem?_set_self
def a5G:=@List.getElem?_set_ne
set_option linter.unusedVariables false
set_option linter.unusedSimpArgs false
variable{a at_ b h i key n q dJ x y:Int}{c:aq}{c0 code l m perm rs ss:List Int}{gr:an}{k p:Nat}{out:List aq}{s:ByteArray}
def zxX{r:List Int}(h1:k<l.length)(h2:k<r.length)(h:l.take k=r.take k)(he:l[k]=r[k]):l.take (k+1)=r.take (k+1):=by
 rw[jd h1,jd h2,h,he]
def Lp(a b:List Int):DB a b=J (decide (a=b)):=by
 unfold DB;by_cases hl:a.length=b.length
 ·have e:((a.length:Int) !=(b.length:Int))=aa:=by simp[hl]
  simp only[e,qH,my]
  obtain⟨r,hb,hp⟩:=Ww (σ:=Unit) (β:=Unit ⊕ Bool) (body:=λi16 qX=>
   (ix a i16).bind λri=>
   (ix b i16).bind λnk=>
   if(ri !=nk)=Z then(
   J (.out (.inr aa)))else(
   J (.go ()))) (stop:=λqX=>.inl ()) (m:=a.length) (i0:=0) (s0:=()) (λk _=>a.take k=b.take k)
   (λr=>Sum.elim (λ_=>a=b) (λr=>r=aa/\a≠b) r) (by simp)
   (by
     rintro k s hk hI;have Ak:k<b.length:=by omega
     rw[L6];simp only[jO hk,jO Ak,aS];by_cases he:a[k]=b[k]
     ·exact .inl ⟨(),by simp[he],zxX hk Ak hI he⟩
     ·exact .inr ⟨.inr aa,by simp[he],rfl,λh=>by subst h;exact he rfl⟩)
   (by
     rintro s hI;rw[gw,hl,gw]at hI
     exact hI)
  rw[hb,aS];cases r with
  |inl u=>have hp:a=b:=hp;simp[hp]
  |inr r=>
   obtain⟨h1,h2⟩:r=aa/\a≠b:=hp;simp[h1,h2]
 have e:((a.length:Int) !=(b.length:Int))=Z:=by simp;omega
 have:a≠b:=λh=>hl (by rw[h])
 simp[e,this]
def tG(a b c:Int):pY a b c=J (decide (b<=a)&&decide (a<=c)):=by
 unfold pY;by_cases h:b<=a<;>simp[h]
def sW(a b c:Int):o0 a b c=J (decide (b<=a)&&decide (a<=c)):=by
 unfold o0;by_cases h:b<=a<;>simp[h]
def zoK(a:Int):IU a=J (decide (2<=a)&&decide (a<=2000000000)):=by
 unfold IU;rw[tG];rfl
def pX(a b:Nat):(a:Int).tmod (b:Int)=((a%b:Nat):Int):=by rw[jx (by omega)];exact(pN _ _).symm
def zyv(a b:Nat):(a:Int).tdiv (b:Int)=((a/b:Nat):Int):=by rw[V8 (by omega)];exact(Int.natCast_ediv _ _).symm
def Ar(a b:Nat):(a:Int)*(b:Int)=((a*b:Nat):Int):=(Eu _ _).symm
def zBU{e:Nat}(he:e<=9223372036854775807):i64.wrap (BitVec.ofInt IntKind.i64.bits (e:Int)&&&BitVec.ofInt IntKind.i64.bits 1).toNat=((e%2:Nat):Int):=by
 have h1:(BitVec.ofInt IntKind.i64.bits (e:Int)&&&BitVec.ofInt IntKind.i64.bits 1).toNat=e%2:=by
  rw[a1q]
  have a1:(BitVec.ofInt IntKind.i64.bits (e:Int)).toNat=e:=by
   rw[BitVec.toNat_ofInt];have:IntKind.i64.bits=64:=rfl;rw[this];omega
  have a2:(BitVec.ofInt IntKind.i64.bits 1).toNat=1:=by decide
  rw[a1,a2,Nat.and_one_is_mod]
 rw[h1,aK (by omega) (by omega)]
def zAO{a e m:Nat}(ha:a<=2000000000)(hm:1<=m)(qO:m<=2000000000)(he:e<=9223372036854775807):n6 (a:Int) (e:Int) (m:Int)=J ((a^e%m:Nat):Int):=by
 unfold n6
 refine bH (aI (by omega) (az (φ:=(· =((a^e%m:Nat):Int))) (uh (φ:=(· =((a^e%m:Nat):Int))) (λs=>∃x y o:Nat,s=((x:Int),(y:Int),(o:Int))/\x<=2000000000/\y<=e/\o<m/\o*x^y%m=a^e%m) (λs=>s.2.1.toNat)
  ⟨a,e,1%m,by rw[show(1:Int)=((1:Nat):Int)from rfl,pX],ha,cB _,nb _ (by omega),by rw[V9,LY]⟩ ?_) λx hx=>am hx))
 rintro s ⟨x,y,o,rfl,hx,hy,ho,hi⟩;refine aZ (λh0=>?_) λh0=>?_
 ·have h0:0<y:=by simpa using h0
  have hox:o*x<=4000000000000000000:=gD (rS (show o<=2000000000 by omega) hx) (by decide);have hxx:x*x<=4000000000000000000:=gD (rS hx hx) (by decide);refine az (ψ:=λo'=>∃k:Nat,o'=(k:Int)/\k<m/\k*(x*x)^(y/2)%m=a^e%m) ?_ ?_
  ·simp only[zBU (show y<=9223372036854775807 by omega)];refine aZ (λh1=>aI (by omega) (am ⟨o*x%m,?_,nb _ (by omega),?_⟩)) λh1=>am ⟨o,rfl,ho,?_⟩
   ·rw[Ar,aK (by omega) (by omega),pX]
   ·have h1:y%2=1:=by
     have:((y%2:Nat):Int)=1:=by simpa using h1
     omega
    rw[V9,<-hi,<-Wa,<-pO,Nat.mul_assoc,<-Nat.pow_succ'];congr 3;omega
   have h1:y%2=0:=by
    have:¬((y%2:Nat):Int)=1:=by simpa using h1
    omega
   rw[<-hi,<-Wa,<-pO];congr 3;omega
  rintro o' ⟨k,rfl,hk,Ak⟩;refine aI (by omega) (am ⟨⟨x*x%m,y/2,k,?_,by have:=nb (x*x) (show 0<m by omega);omega,by omega,hk,?_⟩,?_⟩)
  ·rw[Ar,aK (by omega) (by omega),pX];have e3:(y:Int).fdiv 2=((y/2:Nat):Int):=by rw[a1r _ (by omega)];rfl
   show(_,(y:Int).fdiv 2,_)=_;rw[e3]
  ·rw[uL,<-qL,<-uL];exact Ak
  show((y:Int).fdiv 2).toNat<(y:Int).toNat;rw[a1r _ (by omega)];omega
 have h0:y=0:=by
  have:¬(0<y):=by simpa using h0
  omega
 subst h0;refine am ?_;show(o:Int)=_;rw[Wb,L0,oA ho]at hi;rw[hi]
def zzJ{a e m:Nat}(ha:a<=2000000000)(hm:1<=m)(qO:m<=2000000000)(he:e<=9223372036854775807):l6 (a:Int) (e:Int) (m:Int)=J ((a^e%m:Nat):Int):=by
 unfold l6
 refine bH (aI (by omega) (az (φ:=(· =((a^e%m:Nat):Int))) (uh (φ:=(· =((a^e%m:Nat):Int))) (λs=>∃x y o:Nat,s=((x:Int),(y:Int),(o:Int))/\x<=2000000000/\y<=e/\o<m/\o*x^y%m=a^e%m) (λs=>s.2.1.toNat)
  ⟨a,e,1%m,by rw[show(1:Int)=((1:Nat):Int)from rfl,pX],ha,cB _,nb _ (by omega),by rw[V9,LY]⟩ ?_) λx hx=>am hx))
 rintro s ⟨x,y,o,rfl,hx,hy,ho,hi⟩;refine aZ (λh0=>?_) λh0=>?_
 ·have h0:0<y:=by simpa using h0
  have hox:o*x<=4000000000000000000:=gD (rS (show o<=2000000000 by omega) hx) (by decide);have hxx:x*x<=4000000000000000000:=gD (rS hx hx) (by decide);have e2:(y:Int).tmod 2=((y%2:Nat):Int):=pX y 2;refine az (ψ:=λo'=>∃k:Nat,o'=(k:Int)/\k<m/\k*(x*x)^(y/2)%m=a^e%m) ?_ ?_
  ·simp only[e2];refine aZ (λh1=>aI (by omega) (am ⟨o*x%m,?_,nb _ (by omega),?_⟩)) λh1=>am ⟨o,rfl,ho,?_⟩
   ·rw[Ar,aK (by omega) (by omega),pX]
   ·have h1:y%2=1:=by
     have:((y%2:Nat):Int)=1:=by simpa using h1
     omega
    rw[V9,<-hi,<-Wa,<-pO,Nat.mul_assoc,<-Nat.pow_succ'];congr 3;omega
   have h1:y%2=0:=by
    have:¬((y%2:Nat):Int)=1:=by simpa using h1
    omega
   rw[<-hi,<-Wa,<-pO];congr 3;omega
  rintro o' ⟨k,rfl,hk,Ak⟩;have e3:(y:Int).tdiv 2=((y/2:Nat):Int):=zyv y 2;refine aI (by omega) (am ⟨⟨x*x%m,y/2,k,?_,by have:=nb (x*x) (show 0<m by omega);omega,by omega,hk,?_⟩,?_⟩)
  ·simp only[e3];rw[Ar,aK (n:=((x*x:Nat):Int)) (by omega) (by omega),pX,aK (n:=((y/2:Nat):Int)) (by omega) (by omega)]
  ·rw[uL,<-qL,<-uL];exact Ak
  show(i64.wrap ((y:Int).tdiv 2)).toNat<(y:Int).toNat;rw[e3,aK (by omega) (by omega)];omega
 have h0:y=0:=by
  have:¬(0<y):=by simpa using h0
  omega
 subst h0;refine am ?_;show(o:Int)=_;rw[Wb,L0,oA ho]at hi;rw[hi]
def Uw(h0:0<q)(h1:q<=2000000000):AG a q=J (a%q):=by
 unfold AG;rw[eV (by omega),eV (by omega)];have b1:a.tmod q<q:=Wc a h0
 have b2: -q<a.tmod q:=by
  have:=Wd a h0;omega
 rw[aK (by omega) (by omega),jx (by omega)];congr 1;rw[We];rw[a1s,ti,a1t,Wf,eZ]
def Dp(h0:0<q)(h1:q<=2000000000):rO a q=J (a%q):=by
 unfold rO;rw[eV (by omega),eV (by omega)];have b1:a.tmod q<q:=Wc a h0
 have b2: -q<a.tmod q:=by
  have:=Wd a h0;omega
 rw[aK (by omega) (by omega),jx (by omega)];congr 1;rw[We];rw[a1s,ti,a1t,Wf,eZ]
def Pr(n:Nat):Prop:=2<=n/\∀d,2<=d->d*d<=n->n%d≠0
open Classical in
noncomputable def mh(n:Int):Bool:=decide (Pr n.toNat)
def nI{n:Nat}:mh (n:Int)=Z↔Pr n:=by simp[mh]
def Ht(n:Int)(h:n<=2000000000):Bd n=J (mh n):=by
 unfold Bd;refine bH (aZ (λh0=>am ?_) λh0=>?_)
 ·have h0:n<2:=by simpa using h0
  symm;unfold mh;rw[xL];intro hp;have:=hp.1;omega
 have h0:¬n<2:=by simpa using h0
 obtain⟨n,rfl⟩:=fZ (show 0<=n by omega);refine az (ψ:=λb=>(b=.inl ()/\Pr n)\/(b=.inr aa/\¬Pr n)) (uh (λs=>∃d:Nat,s=(d:Int)/\2<=d/\d<=44723/\∀k,2<=k->k<d->k*k<=n->n%k≠0) (λs=>50000-s.toNat) ⟨2,rfl,by omega,by omega,λk h1 h2=>by omega⟩ ?_) ?_
 ·rintro s ⟨d,rfl,hd,lv,hi⟩;have hdd:d*d<=2000146729:=gD (rS lv lv) (by decide);rw[Ar,aK (by omega) (by omega)];refine aZ (λh1=>aI (by omega) (aZ (λh2=>am (.inr ⟨rfl,?_⟩)) λh2=>am ?_)) λh1=>am (.inl ⟨rfl,by omega,λk hk Aw=>?_⟩)
  ·have h1:d*d<=n:=by have:=xM h1;omega
   rw[pX]at h2
   have h2 : n % d = 0 := by have:((n%d:Nat):Int)=0:=by simpa using h2
                             omega
   exact λhp=>hp.2 d hd h1 h2
  ·have h1:d*d<=n:=by have:=xM h1;omega
   rw[pX]at h2
   have h2 : n % d ≠ 0 := by have:¬((n%d:Nat):Int)=0:=by simpa using h2
                             omega
   have hd3:d<=44722:=by
    rcases dQ d 44723 with h|h
    ·omega
    ·have:44723*44723<=d*d:=rS h h;omega
   rw[aK (by omega) (by omega)];refine⟨⟨d+1,rfl,by omega,by omega,λk h3 h4 h5=>?_⟩,by omega⟩;rcases dQ k d with h|h
   ·exact hi k h3 h h5
   have:k=d:=by omega
   subst this;exact h2
  have h1:n<d*d:=by have:=Wg h1;omega
  rcases dQ k d with h|h
  ·exact hi k hk h Aw
  have:=rS h h;omega
 rintro b (⟨rfl,hp⟩|⟨rfl,hp⟩)
 ·exact am (nI.2 hp).symm
 refine am ?_;symm;unfold mh;rw[xL];exact hp
def Xh(n:Int):FB n=J (decide (n<=2000000000)&&mh n):=by
 unfold FB;by_cases h:2<=n/\n<=2000000000
 ·obtain⟨n,rfl⟩:=fZ (show 0<=n by omega);have e2:((n:Int)).tmod 2=((n%2:Nat):Int):=pX n 2;have em:(decide (2<=(n:Int))&&decide ((n:Int)<=2000000000))=Z:=by simp only[bK,eO];exact h
  rw[show(decide ((n:Int)<=2000000000)&&mh (n:Int))=mh (n:Int)by simp[h.2]];refine bH (az (ψ:=λb=>b=decide (n%2=0/\n≠2)) (ag (zoK _) ?_) ?_)
  ·rw[em];refine bw rfl ?_;rw[e2];refine aZ (λh1=>am ?_) λh1=>am ?_
   ·have h1 : n % 2 = 0 := by have:((n%2:Nat):Int)=0:=by simpa using h1
                              omega
    have:((n:Int) !=2)=decide (n≠2):=by
     by_cases hn:n=2
     ·subst hn;rfl
     ·have J9:¬(n:Int)=2:=by omega
      simp[hn,J9]
    rw[this];simp[h1]
   have h1 : n % 2 ≠ 0 := by have:¬((n%2:Nat):Int)=0:=by simpa using h1
                             omega
   simp[h1]
  rintro b rfl;refine aZ (λh1=>am ?_) λh1=>?_
  ·have h1:=xM h1;symm;unfold mh;rw[xL];intro hp;have hn:4<=n:=by omega
   exact hp.2 2 (by omega) hn h1.1
  have h1:=Wg h1;refine az (ψ:=λb=>(b=.inl ()/\Pr n)\/(b=.inr aa/\¬Pr n)) (uh (λs=>∃d:Nat,s=(d:Int)/\3<=d/\d%2=1/\d<=44725/\∀k,2<=k->k<d->k*k<=n->n%k≠0) (λs=>50000-s.toNat) ⟨3,rfl,by omega,by omega,by omega,λk h2 h3 h4=>?_⟩ ?_) ?_
  ·have:k=2:=by omega
   subst this;intro h5;exact h1 ⟨h5,by omega⟩
  ·rintro s ⟨d,rfl,hd,a52,lv,hi⟩;have hdd:d*d<=2000325625:=gD (rS lv lv) (by decide);rw[Ar,aK (by omega) (by omega)];refine aZ (λh1=>aI (by omega) (aZ (λh2=>am (.inr ⟨rfl,?_⟩)) λh2=>am ?_)) λh1=>am (.inl ⟨rfl,by omega,λk hk Aw=>?_⟩)
   ·have h1:d*d<=n:=by have:=xM h1;omega
    rw[pX]at h2
    have h2 : n % d = 0 := by have:((n%d:Nat):Int)=0:=by simpa using h2
                              omega
    exact λhp=>hp.2 d (by omega) h1 h2
   ·have h3:d*d<=n:=by have:=xM h1;omega
    rw[pX]at h2
    have h2 : n % d ≠ 0 := by have:¬((n%d:Nat):Int)=0:=by simpa using h2
                              omega
    have hd3:d<=44722:=by
     rcases dQ d 44723 with h|h
     ·omega
     ·have:44723*44723<=d*d:=rS h h;omega
    rw[aK (by omega) (by omega)];refine⟨⟨d+2,rfl,by omega,by omega,by omega,λk h4 h5 h6 h7=>?_⟩,by omega⟩;rcases dQ k d with h|h
    ·exact hi k h4 h h6 h7
    rcases(show k=d\/k=d+1 by omega)with e|e
    ·subst e;exact h2 h7
    have h8:n%2=0:=by
     have a1:k∣n:=Wh h7;have a2:2∣k:=Wh (by omega);exact a5x (Nat.dvd_trans a2 a1)
    have h9:2*2<=n:=by
     have:=rS h4 h4;omega
    exact hi 2 (by omega) (by omega) h9 h8
   have h1:n<d*d:=by have:=Wg h1;omega
   rcases dQ k d with h|h
   ·exact hi k hk h Aw
   have:=rS h h;omega
  rintro b (⟨rfl,hp⟩|⟨rfl,hp⟩)
  ·exact am (nI.2 hp).symm
  refine am ?_;symm;unfold mh;rw[xL];exact hp
 have em:(decide (2<=n)&&decide (n<=2000000000))=aa:=by
  rw[a5y,xL,xL];omega
 rw[zoK,em];simp only[aS,Bool.not_false,e9];congr 1;symm;rw[a5y,xL];by_cases hn:n<=2000000000
 ·right;unfold mh;rw[xL];intro hp;have:=hp.1;omega
 exact .inl hn
structure ap (gr:an):Prop where
 p:3<=gr.P/\gr.P<=2000000000
 q:2<=gr.Q/\gr.Q<=gr.P-1
 d:(gr.P.toNat-1)%gr.Q.toNat=0
 g:2<=gr.G/\gr.G<=gr.P-1
 pp:Pr gr.P.toNat
 pq:Pr gr.Q.toNat
 o:gr.G.toNat^gr.Q.toNat%gr.P.toNat=1
open Classical in
noncomputable def wP(gr:an):Bool:=decide (ap gr)
def MD :wP gr=Z↔ap gr:=by simp[wP]
def o5(h:¬ap gr):wP gr=aa:=by simp[wP,h]
def Z0{b:Bool}(h1:b=Z->ap gr)(h2:ap gr->b=Z):b=wP gr:=by
 cases hb:b with
 |true=>exact(MD.2 (h1 hb)).symm
 |false=>exact(o5 λh=>by rw[h2 h]at hb;cases hb).symm
def pD(h:0<=a):a=((a.toNat:Nat):Int):=by omega
def qy{e m:Int}(ha:0<=a)(ha2:a<=2000000000)(hm:1<=m)(qO:m<=2000000000)(he:0<=e)(he2:e<=9223372036854775807):n6 a e m=J ((a.toNat^e.toNat%m.toNat:Nat):Int)/\l6 a e m=J ((a.toNat^e.toNat%m.toNat:Nat):Int):=by
 have h1:=zAO (a:=a.toNat) (e:=e.toNat) (m:=m.toNat) (by omega) (by omega) (by omega) (by omega);have h2:=zzJ (a:=a.toNat) (e:=e.toNat) (m:=m.toNat) (by omega) (by omega) (by omega) (by omega);rw[<-pD ha,<-pD he,<-pD (show 0<=m by omega)]at h1 h2;exact⟨h1,h2⟩
def NV{a b:Bool}:(a&&b)=Z↔a=Z/\b=Z:=by simp
def zsC(gr:an):Jm gr=J (wP gr):=by
 unfold Jm;refine bH (az (ψ:=λb=>b=wP gr) ?_ λb hb=>am hb);refine ag (tG _ _ _) (aZ (λh=>?_) λh=>?_)
 ·have hp:3<=gr.P/\gr.P<=2000000000:=by simpa using h
  rw[aK (n:=gr.P-1) (by omega) (by omega)];refine ag (tG _ _ _) (aZ (λh=>?_) λh=>?_)
  ·have hq:2<=gr.Q/\gr.Q<=gr.P-1:=by simpa using h
   have ed:(gr.P-1).tmod gr.Q=(((gr.P.toNat-1)%gr.Q.toNat:Nat):Int):=by
    rw[pD (show 0<=gr.P-1 by omega),pD (show 0<=gr.Q by omega),pX];simp only[dL];congr 2;omega
   refine aI (by omega) ?_;rw[ed];refine aZ (λh=>?_) λh=>?_
   ·have hd:(gr.P.toNat-1)%gr.Q.toNat=0:=by
     have:(((gr.P.toNat-1)%gr.Q.toNat:Nat):Int)=0:=by simpa using h
     omega
    refine ag (tG _ _ _) (aZ (λh=>?_) λh=>?_)
    ·have hg:2<=gr.G/\gr.G<=gr.P-1:=by simpa using h
     refine ag (Xh _) (aZ (λh=>?_) λh=>?_)
     ·have SS:Pr gr.P.toNat:=by
       rw[NV,pD (show 0<=gr.P by omega),nI]at h;exact h.2
      refine ag (Xh _) (aZ (λh=>?_) λh=>?_)
      ·have qg:Pr gr.Q.toNat:=by
        rw[NV,pD (show 0<=gr.Q by omega),nI]at h;exact h.2
       refine ag (qy (a:=gr.G) (e:=gr.Q) (m:=gr.P) (by omega) (by omega) (by omega) (by omega) (by omega) (by omega)).1 (am (Z0 (λh=>⟨hp,hq,hd,hg,SS,qg,?_⟩) λh=>?_))
       ·have:((gr.G.toNat^gr.Q.toNat%gr.P.toNat:Nat):Int)=1:=by simpa using h
        omega
       rw[h.o];rfl
      refine am (o5 λhk=>?_).symm
      have:(decide (gr.Q<=2000000000)&&mh gr.Q)=Z:=by
       rw[NV,pD (show 0<=gr.Q by omega),nI];exact⟨by simp;omega,hk.pq⟩
      rw[this]at h;cases h
     refine am (o5 λhk=>?_).symm
     have:(decide (gr.P<=2000000000)&&mh gr.P)=Z:=by
      rw[NV,pD (show 0<=gr.P by omega),nI];exact⟨by simp;omega,hk.pp⟩
     rw[this]at h;cases h
    refine am (o5 λhk=>?_).symm;have:=hk.g;simp at h;omega
   refine am (o5 λhk=>?_).symm;rw[hk.d]at h;cases h
  refine am (o5 λhk=>?_).symm;have:=hk.q;simp at h;omega
 refine am (o5 λhk=>?_).symm;have:=hk.p;simp at h;omega
def Ja(gr:an):Ai gr=J (wP gr):=by
 unfold Ai;refine bH (az (ψ:=λb=>b=wP gr) ?_ λb hb=>am hb);refine ag (sW _ _ _) (aZ (λh=>?_) λh=>?_)
 ·have hp:3<=gr.P/\gr.P<=2000000000:=by simpa using h
  rw[aK (n:=gr.P-1) (by omega) (by omega)];refine ag (sW _ _ _) (aZ (λh=>?_) λh=>?_)
  ·have hq:2<=gr.Q/\gr.Q<=gr.P-1:=by simpa using h
   have ed:(gr.P-1).tmod gr.Q=(((gr.P.toNat-1)%gr.Q.toNat:Nat):Int):=by
    rw[pD (show 0<=gr.P-1 by omega),pD (show 0<=gr.Q by omega),pX];simp only[dL];congr 2;omega
   refine aI (by omega) ?_;rw[ed];refine aZ (λh=>?_) λh=>?_
   ·have hd:(gr.P.toNat-1)%gr.Q.toNat=0:=by
     have:(((gr.P.toNat-1)%gr.Q.toNat:Nat):Int)=0:=by simpa using h
     omega
    refine ag (sW _ _ _) (aZ (λh=>?_) λh=>?_)
    ·have hg:2<=gr.G/\gr.G<=gr.P-1:=by simpa using h
     refine ag (qy (a:=gr.G) (e:=gr.Q) (m:=gr.P) (by omega) (by omega) (by omega) (by omega) (by omega) (by omega)).2 (aZ (λh=>?_) λh=>?_)
     ·have ho:gr.G.toNat^gr.Q.toNat%gr.P.toNat=1:=by
       have:((gr.G.toNat^gr.Q.toNat%gr.P.toNat:Nat):Int)=1:=by simpa using h
       omega
      refine ag (Ht _ (by omega)) (aZ (λh=>?_) λh=>?_)
      ·have qg:Pr gr.Q.toNat:=by
        rw[pD (show 0<=gr.Q by omega),nI]at h;exact h
       refine ag (Ht _ (by omega)) (am (Z0 (λh=>⟨hp,hq,hd,hg,?_,qg,ho⟩) λh=>?_))
       ·rw[pD (show 0<=gr.P by omega),nI]at h;exact h
       rw[pD (show 0<=gr.P by omega),nI];exact h.pp
      refine am (o5 λhk=>?_).symm
      have:mh gr.Q=Z:=by
       rw[pD (show 0<=gr.Q by omega),nI];exact hk.pq
      rw[this]at h;cases h
     refine am (o5 λhk=>?_).symm;rw[hk.o]at h;cases h
    refine am (o5 λhk=>?_).symm;have:=hk.g;simp at h;omega
   refine am (o5 λhk=>?_).symm;rw[hk.d]at h;cases h
  refine am (o5 λhk=>?_).symm;have:=hk.q;simp at h;omega
 refine am (o5 λhk=>?_).symm;have:=hk.p;simp at h;omega
def aM(gr:an)(x:Int):Bool:=decide (1<=x)&&decide (x<=gr.P-1)&&decide (x.toNat^gr.Q.toNat%gr.P.toNat=1)
def dx(gr:an)(x:Int):Bool:=decide (0<=x)&&decide (x<=gr.Q-1)
def Mv(k:ap gr)(x:Int):AN gr x=J (aM gr x):=by
 have hp:=k.p;have hq:=k.q;unfold AN aM;rw[aK (n:=gr.P-1) (by omega) (by omega),tG];refine bH (az (ψ:=λb=>b=_) ?_ λb hb=>am hb);refine ag rfl (aZ (λh=>?_) λh=>?_)
 ·have hx:1<=x/\x<=gr.P-1:=by simpa using h
  refine ag (qy (a:=x) (e:=gr.Q) (m:=gr.P) (by omega) (by omega) (by omega) (by omega) (by omega) (by omega)).1 (am ?_);rw[h,ig];by_cases h1:x.toNat^gr.Q.toNat%gr.P.toNat=1
  ·simp[h1]
  have:¬((x.toNat^gr.Q.toNat%gr.P.toNat:Nat):Int)=1:=by omega
  rw[beq_false_of_ne this,Ez h1]
 rw[h];exact am rfl
def zu(k:ap gr)(l:List Int):qF gr l=J (l.all (aM gr)):=by
 have hp:=k.p;have hq:=k.q;unfold qF;rw[aK (n:=gr.P-1) (by omega) (by omega)];refine bH (az (ψ:=λb=>(b=.inl ()/\l.all (aM gr)=Z)\/(b=.inr aa/\l.all (aM gr)=aa)) (eo (λi s=>(l.take i).all (aM gr)=Z) rfl ?_ ?_) ?_)
 ·rintro i s hi hI;refine bG hi (az (ψ:=λb=>b= !aM gr l[i]) ?_ ?_)
  ·refine ag (sW _ _ _) (aZ (λh=>am ?_) λh=>?_)
   ·have h:(decide (1<=l[i])&&decide (l[i]<=gr.P-1))=aa:=by rwa [qK]at h
    simp[aM,h]
   have h:(decide (1<=l[i])&&decide (l[i]<=gr.P-1))=Z:=by simpa using h
   have hx:1<=l[i]/\l[i]<=gr.P-1:=by simpa using h
   refine ag (qy (a:=l[i]) (e:=gr.Q) (m:=gr.P) (by omega) (by omega) (by omega) (by omega) (by omega) (by omega)).2 (am ?_);simp only[aM,h,ig];by_cases h1:l[i].toNat^gr.Q.toNat%gr.P.toNat=1
   ·simp[h1]
   have:¬((l[i].toNat^gr.Q.toNat%gr.P.toNat:Nat):Int)=1:=by omega
   simp only[bne,beq_false_of_ne this,Ez h1]
  rintro b rfl;refine aZ (λh=>am (.inr ⟨rfl,?_⟩)) λh=>am ?_
  ·have h:aM gr l[i]=aa:=by simpa using h
   rw[zE];exact⟨l[i],fm hi,by simp[h]⟩
  have h:aM gr l[i]=Z:=by simpa using h
  show(l.take (i+1)).all (aM gr)=Z;rw[jd hi,kQ,hI];simp[h]
 ·rintro s hI;rw[gw]at hI;exact .inl ⟨rfl,hI⟩
 rintro b (⟨rfl,h⟩|⟨rfl,h⟩)
 ·exact am h.symm
 exact am h.symm
def SI(l:List Int)(a b:Int):Cs l a b=J (l.all λx=>decide (a<=x)&&decide (x<=b)):=by
 unfold Cs;refine bH (az (ψ:=λc=>(c=.inl ()/\(l.all λx=>decide (a<=x)&&decide (x<=b))=Z)\/(c=.inr aa/\(l.all λx=>decide (a<=x)&&decide (x<=b))=aa)) (eo (λi s=>((l.take i).all λx=>decide (a<=x)&&decide (x<=b))=Z) rfl ?_ ?_) ?_)
 ·rintro i s hi hI;refine bG hi (ag (sW _ _ _) (aZ (λh=>am (.inr ⟨rfl,?_⟩)) λh=>am ?_))
  ·rw[zE];exact⟨l[i],fm hi,by rw[qK]at h;rw[h];simp⟩
  show((l.take (i+1)).all λx=>decide (a<=x)&&decide (x<=b))=Z;rw[jd hi,kQ,hI];simpa using h
 ·rintro s hI;rw[gw]at hI;exact .inl ⟨rfl,hI⟩
 rintro c (⟨rfl,h⟩|⟨rfl,h⟩)
 ·exact am h.symm
 exact am h.symm
def AF(h:0<=gr.Q)(h2:gr.Q<=2000000000)(l:List Int):sO gr l=J (l.all (dx gr)):=by
 unfold sO;rw[aK (by omega) (by omega),SI];rfl
def zB1(h:0<=gr.Q)(h2:gr.Q<=2000000000)(x:Int):Jp gr x=J (dx gr x):=by
 unfold Jp;rw[aK (by omega) (by omega),tG];rfl
def ay(gr:an)(x e:Int):Int:=((x.toNat^(e%gr.Q).toNat%gr.P.toNat:Nat):Int)
def BQ(k:ap gr)(x e:Int):0<=ay gr x e/\ay gr x e<=gr.P-1:=by
 have hp:=k.p;unfold ay;have:=nb (x.toNat^(e%gr.Q).toNat) (y:=gr.P.toNat) (by omega);omega
def G3(k:ap gr)(h0:0<=x)(h1:x<=2000000000)(e:Int):cU gr x e=J (ay gr x e)/\cH gr x e=J (ay gr x e):=by
 have hp:=k.p;have hq:=k.q;have b1:0<=e%gr.Q:=oC _ (by omega);have b2:e%gr.Q<gr.Q:=tj _ (by omega);have hw:=qy (a:=x) (e:=e%gr.Q) (m:=gr.P) (by omega) (by omega) (by omega) (by omega) b1 (by omega);unfold cU cH;rw[Uw (by omega) (by omega),Dp (by omega) (by omega),aS,aS,hw.1,hw.2];exact⟨rfl,rfl⟩
def zC0(k:ap gr)(h0:0<=x)(h1:x<=2000000000)(e:Int):cH gr x e=J (ay gr x e):=by
 have hp:=k.p;have hq:=k.q;have b1:0<=e%gr.Q:=oC _ (by omega);have b2:e%gr.Q<gr.Q:=tj _ (by omega);have hw:=qy (a:=x) (e:=e%gr.Q) (m:=gr.P) (by omega) (by omega) (by omega) (by omega) b1 (by omega);unfold cH;rw[Dp (by omega) (by omega),aS,hw.2];rfl
def aQ(gr:an)(l:List Int):Int:=l.foldl (λo x=>o*x%gr.P) 1
def ztg(h:1<=gr.P):∀(l:List Int) (o:Int),0<=o->o<=gr.P->(∀x∈l,0<=x)->0<=l.foldl (λo x=>o*x%gr.P) o/\l.foldl (λo x=>o*x%gr.P) o<=gr.P:=by
 intro l;induction l with
 |nil=>intro o h0 h1 _;exact⟨h0,h1⟩
 |cons x l ih=>
  intro o h0 h1 h2;exact ih _ (oC _ (by omega)) (Int.le_of_lt (tj (o*x) (show 0<gr.P by omega))) λy hy=>h2 y (oB _ hy)
theorem zDN(gr:an)(l:List Int):ej gr l=er gr l:=rfl
def BA(k:ap gr)(hl:∀x∈l,0<=x/\x<=2000000000):er gr l=J (aQ gr l):=by
 have hp:=k.p;unfold er;refine bH (az (ψ:=λb=>b=aQ gr l) (eo (λi s=>s=(l.take i).foldl (λo x=>o*x%gr.P) 1) rfl ?_ ?_) λb hb=>am hb)
 ·rintro i s hi rfl;have hb:=ztg (gr:=gr) (by omega) (l.take i) 1 (by omega) (by omega) λx hx=>(hl x (HK hx)).1
  have hx:=hl l[i] (fm hi);refine bG hi (aI (by omega) (am ?_));show _=(l.take (i+1)).foldl _ _;rw[jd hi,HO];generalize (l.take i).foldl (λo x=>o*x%gr.P) 1=o at hb⊢;have b1:0<=o*l[i]:=tn hb.1 hx.1;have b2:o*l[i]<=2000000000*2000000000:=xN (by omega) hx.2 hx.1 (by omega);show(i64.wrap (o*l[i])).tmod gr.P=o*l[i]%gr.P;rw[aK (by omega) (by omega),jx b1]
 rintro s rfl;rw[gw];rfl
def K1(k:ap gr)(hl:∀x∈l,0<=x/\x<=2000000000):ej gr l=J (aQ gr l):=by rw[zDN];exact BA k hl
def zAT(k:ap gr)(hl:∀x∈l,0<=x/\x<=2000000000):0<=aQ gr l/\aQ gr l<=gr.P:=by
 have hp:=k.p;exact ztg (by omega) l 1 (by omega) (by omega) λx hx=>(hl x hx).1
def C6(k:ap gr)(l:List Int):tF gr l=J (l.all (aM gr)):=by
 unfold tF NW NZ Nj;refine bH (az (ψ:=λb=>b=l.all (aM gr)) (az (ψ:=λb=>b= !l.all (aM gr)) (az (ψ:=λj=>(j=-1/\l.all (aM gr)=Z)\/(0<=j/\l.all (aM gr)=aa)) (az (ψ:=λb=>(b=.inl ()/\l.all (aM gr)=Z)\/(∃j,b=.inr j/\0<=j/\l.all (aM gr)=aa)) (eo (λi s=>(l.take i).all (aM gr)=Z) rfl ?_ ?_) ?_) ?_) ?_) ?_)
 ·rintro i s hi hI
  have hc:Jt l[i] gr=J (!aM gr l[i]):=by
   unfold Jt;rw[Mv k];rfl
  refine bG hi (ag hc (aZ (λh=>am (.inr ⟨i,rfl,by omega,?_⟩)) λh=>am ?_))
  ·rw[zE];exact⟨l[i],fm hi,by rw[qK]at h;rw[h];simp⟩
  show(l.take (i+1)).all (aM gr)=Z;rw[jd hi,kQ,hI];simpa using h
 ·rintro s hI;rw[gw]at hI;exact .inl ⟨rfl,hI⟩
 ·rintro b (⟨rfl,h⟩|⟨j,rfl,h0,h⟩)
  ·exact am (.inl ⟨rfl,h⟩)
  exact am (.inr ⟨h0,h⟩)
 ·rintro j (⟨rfl,h⟩|⟨h0,h⟩)
  ·exact am (by rw[h];rfl)
  exact am (by rw[h];simpa using h0)
 ·rintro b rfl;exact am (by simp)
 rintro b rfl;exact am rfl
def rE(h:aM gr x=Z):1<=x/\x<=gr.P-1:=by
 simp only[aM,bK,eO]at h;exact h.1
def Zg(k:ap gr){m:Int}(hy:aM gr y=Z)(hm:aM gr m=Z)(r:Int):
 Il gr y m r=J (aq.mk (ay gr gr.G r) (aQ gr [m,ay gr y r]))/\IE gr y m r=J (aq.mk (ay gr gr.G r) (aQ gr [m,ay gr y r])):=by
 have hp:=k.p;have hg:=k.g;have b1:=rE hy;have b2:=rE hm;have e1:=G3 k (x:=gr.G) (by omega) (by omega) r;have e2:=G3 k (x:=y) (by omega) (by omega) r
 have hl:∀x∈[m,ay gr y r],0<=x/\x<=2000000000:=λx hx=>by
  simp only[f6,jy,jz]at hx;rcases hx with rfl|rfl
  ·omega
  ·have:=BQ k y r;omega
 unfold Il IE;rw[e1.1,e1.2,aS,aS,e2.1,e2.2,aS,aS,BA k hl,K1 k hl];exact⟨rfl,rfl⟩
def Su{α:Type}(b:Bool)(u v:α):(if b=Z then J u else J v)=J (if(!b)=Z then v else u):=by cases b<;>rfl
def zFq{α:Type}(b:Bool)(u v:α):(if(!b)=Z then J u else J v)=J (if b=Z then v else u):=by cases b<;>rfl
def JI{β:Type}{body:Int->Unit->Option (fO Unit (Unit ⊕ β))}(m:Nat)(p:Nat->Bool)(val:Nat->β)(h:∀k,k<m->body (k:Int) ()=J (if p k=Z then .go ()else .out (.inr (val k)))):
 (aU body (λ_=>.inl ()) m 0 ()=J (.inl ())/\∀k,k<m->p k=Z)\/∃k,k<m/\p k=aa/\(∀j,j<k->p j=Z)/\aU body (λ_=>.inl ()) m 0 ()=J (.inr (val k)):=by
 have key:Rn (aU body (λ_=>Sum.inl ()) m 0 ()) (λb=>(b=.inl ()/\∀k,k<m->p k=Z)\/∃k,k<m/\p k=aa/\(∀j,j<k->p j=Z)/\b=.inr (val k)):=by
  refine eo (λk _=>∀j,j<k->p j=Z) (λj hj=>by omega) ?_ λs hs=>.inl ⟨rfl,hs⟩
  intro k s hk hI;refine⟨_,h k hk,?_⟩;cases hp:p k with
  |true=>
   intro j hj;rcases dQ j k with h|h
   ·exact hI j h
   ·have:j=k:=by omega
    rw[this];exact hp
  |false=>exact .inr ⟨k,hk,hp,hI,rfl⟩
 obtain⟨b,e,h1|⟨k,h1,h2,h3,h4⟩⟩:=key
 ·exact .inl ⟨by rw[e,h1.1],h1.2⟩
 exact .inr ⟨k,h1,h2,h3,by rw[e,h4]⟩
def zAq{α:Type}(l:List α)(p:α->Bool)(c:Bool){body:Int->Unit->Option (fO Unit (Unit ⊕ Bool))}(h:∀k (hk:k<l.length),body (k:Int) ()=J (if p l[k]=Z then .go ()else .out (.inr c))):
 (aU body (λ_=>.inl ()) l.length 0 ()).bind (Sum.elim (λ_=>J (!c)) J)=J (if l.all p=Z then !c else c):=by
 rcases JI (body:=body) l.length (λk=>(l[k]?).any p) (λ_=>c) (λk hk=>by rw[h k hk,cJ hk];rfl)with⟨e,h1⟩|⟨k,h1,h2,h3,e⟩
 ·rw[e]
  have:l.all p=Z:=by
   rw[bm];intro x hx;obtain⟨k,hk,rfl⟩:=L8.1 hx;have:=h1 k hk;rw[cJ hk]at this;exact this
  rw[this];rfl
 rw[e]
 have:l.all p=aa:=by
  rw[zE];refine⟨l[k],fm h1,?_⟩;rw[cJ h1]at h2;simpa using h2
 rw[this];rfl
def zvm(l:List Int)(x:Int):EI l x=J (l.contains x):=by
 unfold EI
 have:=zAq l (λy=> !(y==x)) Z (body:=λi8 s7=>(ix l i8).bind λbJ=>if(bJ==x)=Z then J (.out (.inr Z))else J (.go ())) λk hk=>by
  rw[jO hk,aS];exact Su _ _ _
 rw[show(!Z)=aa from rfl]at this;refine this.trans ?_;congr 1;cases hc:l.contains x with
 |true=>
  have hm:x∈l:=by simpa using hc
  have:(l.all λy=> !(y==x))=aa:=by
   rw[zE];exact⟨x,hm,by simp⟩
  rw[this];rfl
 |false=>
  have hm:¬x∈l:=by simpa using hc
  have:(l.all λy=> !(y==x))=Z:=by
   rw[bm];intro y hy;have:y≠x:=λe=>hm (e▸hy)
   simp[this]
  rw[this];rfl
def zAN(l:List Int)(x:Int):(FH l x=J (-1)/\¬x∈l)\/∃k,∃h:k<l.length,FH l x=J (k:Int)/\l[k]=x/\∀j (hj:j<k),l[j]'(by omega)≠x:=by
 unfold FH
 rcases JI l.length (λk=>(l[k]?).any λy=> !(x==y)) (λk=>(k:Int)) (body:=λi8 s7=>(ix l i8).bind λbJ=>if(x==bJ)=Z then J (.out (.inr i8))else J (.go ())) (λk hk=>by
  rw[jO hk,aS,cJ hk]
  exact Su _ _ _)with⟨e,h1⟩|⟨k,h1,h2,h3,e⟩
 ·refine .inl ⟨by rw[e];rfl,λhx=>?_⟩;obtain⟨k,hk,rfl⟩:=L8.1 hx;have:=h1 k hk;rw[cJ hk]at this;simp at this
 refine .inr ⟨k,h1,by rw[e];rfl,?_,λj hj=>?_⟩
 ·rw[cJ h1]at h2;simp at h2;exact h2.symm
 have:=h3 j hj;rw[cJ (by omega)]at this;simp at this;exact λe=>this e.symm
def YQ(l:List Int)(x:Int):Ig l x=J (l.contains x):=by
 unfold Ig;rcases zAN l x with⟨e,h⟩|⟨k,hk,e,h,_⟩
 ·rw[e];have:l.contains x=aa:=by simpa using h
  rw[this];rfl
 rw[e]
 have:l.contains x=Z:=by
  have:=fm hk;rw[h]at this;simpa using this
 rw[this];simp
def zBc(l:List Int):GN l=Gg l:=by
 unfold GN Gg;simp only[zvm,YQ]
open Classical in
noncomputable def oE(l:List Int):Bool:=decide l.Nodup
def Za{C:List Int->Int->Option Bool}(hC:∀l x,C l x=J (l.contains x))(l:List Int)(hl:l.length<=1000000000000):
 ((aU (σ:=Unit) (λi5 s4=>
 (ix l i5).bind λaN=>
 gd (0<=i5)<|
 gd (0<=i5.toNat/\i5.toNat<=l.length)<|
 (C ((l.take i5.toNat).drop 0) aN).bind λbr=>
 if br=Z then(
 J (.out (.inr aa)))else(
 J (.go ()))) (λs4=>.inl ()) (l.length) 0 ():Option (Unit ⊕ Bool)).bind (Sum.elim (λx3=>
 J Z) J))=J (oE l):=by
 rcases JI l.length (λk=>(l[k]?).any λy=> !(l.take k).contains y) (λ_=>aa) (body:=λi8 s7=>
  (ix l i8).bind λbJ=>
  gd (0<=i8)<|
  gd (0<=i8.toNat/\i8.toNat<=l.length)<|
  (C ((l.take i8.toNat).drop 0) bJ).bind λiR=>
  if iR=Z then(
  J (.out (.inr aa)))else(
  J (.go ()))) (λk hk=>by
   rw[jO hk,aS,eV (by omega),eV (by simp;omega),hC,cJ hk,aS,dL,Qk]
   exact Su _ _ _)with⟨e,h1⟩|⟨k,h1,h2,h3,e⟩
 ·rw[e]
  have:oE l=Z:=by
   unfold oE;rw[eO,a5z,a5A];intro i j hi hj Vv e;have:=h1 j hj;rw[cJ hj]at this
   have hm:l[j]∈l.take j:=by
    rw[<-e];exact L8.2 ⟨i,by simp;omega,by simp⟩
   have hc:(l.take j).contains l[j]=Z:=by simpa using hm
   simp only[Option.any_some,hc]at this;cases this
  rw[this];rfl
 rw[e]
 have:oE l=aa:=by
  unfold oE;rw[xL,a5z,a5A];intro hd;rw[cJ h1]at h2;have hc:(l.take k).contains l[k]=Z:=by simpa using h2
  have hm:l[k]∈l.take k:=by simpa using hc
  obtain⟨i,hi,e⟩:=L8.1 hm;simp at hi e;exact hd i k (by omega) h1 (by omega) e
 rw[this];rfl
def zxW(l:List Int)(hl:l.length<=1000000000000):Gg l=J (oE l):=Za YQ l hl
def zxq(l:List Int)(hl:l.length<=1000000000000):GN l=J (oE l):=by rw[zBc,zxW l hl]
def P9{p:Int->Bool}{f:Int->Option Bool}(hf:∀x∈l,f x=J (!p x)):
 ((((aU (σ:=Unit) (β:=Unit ⊕ Int) (λi8 s7=>(ix l i8).bind λbJ=>(f bJ).bind λmZ=>if mZ=Z then(J (.out (.inr i8)))else(J (.go ()))) (λs7=>.inl ()) (l.length) 0 ():Option (Unit ⊕ Int)).bind (Sum.elim (λ(x5:Unit)=>J (-1)) J)).bind λz1=>J (decide (0<=z1))).bind λz1=>J (!z1))=J (l.all p):=by
 rcases JI l.length (λk=>(l[k]?).any p) (λk=>(k:Int)) (body:=λi8 s7=>(ix l i8).bind λbJ=>(f bJ).bind λmZ=>if mZ=Z then(J (.out (.inr i8)))else(J (.go ()))) (λk hk=>by
  rw[jO hk,aS,hf _ (fm hk),aS,cJ hk]
  exact zFq _ _ _)with⟨e,h1⟩|⟨k,h1,h2,h3,e⟩
 ·rw[e]
  have:l.all p=Z:=by
   rw[bm];intro x hx;obtain⟨k,hk,rfl⟩:=L8.1 hx;have:=h1 k hk;rw[cJ hk]at this;exact this
  rw[this];rfl
 rw[e]
 have:l.all p=aa:=by
  rw[zE];refine⟨l[k],fm h1,?_⟩;rw[cJ h1]at h2;simpa using h2
 rw[this];simp
def T7(x:Int):Bool:=decide (1<=x)&&decide (x<=7)
def dg(q:Nat):Nat->Nat->List Int
 |0,_=>[]
 |k+1,n=>((n%q:Nat):Int)::dg q k (n/q)
def evI(f:List Int)(x:Int):Int:=f.foldr (λc a=>a*x+c) 0
def zDJ{c d:Int}(h:a%q=b%q)(h':c%q=d%q):(a+c)%q=(b+d)%q:=by rw[pP,h,h',<-pP]
structure a2W (q:Int) (RE:List Int):Prop where
 q8:7<q
 q2:q<=2000000000
 pr:Pr q.toNat
 bd:∀p∈RE,0<=p/\p<=7
 nd:RE.Nodup
 ln:RE.length<=10000000
def zuy(k:ap gr)(c:aq):KO gr c=J (aM gr c.A&&aM gr c.B):=by
 unfold KO;rw[Mv k,Mv k];cases aM gr c.A<;>simp
def zDR(k:ap gr)(m:Int):qF gr [m]=J (aM gr m):=by
 rw[zu k];simp
def ze(h:0<=gr.Q)(h2:gr.Q<=2000000000)(l:List Int):v3 gr l=J (l.all (dx gr)):=by
 have h1:O0 l gr=J (l.all (dx gr)):=P9 (f:=λx=>LF x gr) λx _=>by
  unfold LF;rw[zB1 h h2];rfl
 unfold v3;rw[h1];rfl
def Le{a n e:Nat}(h:a^n%p=1):a^(e%n)%p=a^e%p:=by
 have hp:1%p=1:=by rw[<-h,Qo]
 conv=>rhs;rw[<-Ql e n]
 rw[Qp,pO,uL,qL (a^n),h,HP,hp,LY,Qo]
def F5(h:aM gr x=Z):1<=x/\x<=gr.P-1/\x.toNat^gr.Q.toNat%gr.P.toNat=1:=by
 unfold aM at h;simp only[bK,eO]at h;exact⟨h.1.1,h.1.2,h.2⟩
def zt3(k:ap gr)(h:aM gr x=Z){s l:Int}(hs:0<=s)(hl:0<=l):ay gr (ay gr x s) l=ay gr x (s*l):=by
 obtain⟨_,_,h3⟩:=F5 h;have hq:=k.q;obtain⟨a,rfl⟩:=fZ hs;obtain⟨b,rfl⟩:=fZ hl;obtain⟨n,hn⟩:=fZ (show 0<=gr.Q by omega);unfold ay;rw[hn]at h3⊢;rw[dL]at h3;have e:∀c:Nat,((c:Int)%(n:Int)).toNat=c%n:=λc=>by rw[<-pN,dL]
 rw[Ar,e,e,e,dL,Le h3,Le h3,<-qL,<-pO];congr 1;rw[pO,qL,Le (n:=n) (e:=b)]
 ·rw[<-qL,<-pO]
 rw[<-qL,<-pO,xJ,pO,qL,h3,HP,<-h3,Qo]
def zDS(k:ap gr)(h0:0<=x)(h1:x<=2000000000):Kw gr x=J (ay gr x (-1)):=by
 have hq:=k.q;have hp:=k.p
 have e:(-1:Int)%gr.Q=gr.Q-1:=by
  have:=HQ (-1) gr.Q 1;rw[<-this,Wi];rw[qM (by omega) (by omega)];omega
 unfold Kw;rw[aK (by omega) (by omega),(qy h0 h1 (by omega) hp.2 (by omega) (by omega)).2];unfold ay;rw[e];rfl
def TO(k:ap gr)(hb:0<=b)(gv:b<=2000000000)(h0:0<=x)(h1:x<=2000000000):Dr gr b x=J (aQ gr [b,ay gr x (-1)]):=by
 have hp:=k.p;obtain⟨p1,p2⟩:=BQ k x (-1);unfold Dr O1;rw[(G3 k h0 h1 _).1];simp only[aS];rw[BA k];rfl;intro y hy;simp only[f6,jy,jz]at hy;rcases hy with rfl|rfl<;>omega
structure Zf (gr:an) (c:aq) (m:Int) (vu sh:List Int) (i:Int):Prop where
 k:ap gr
 q:7<gr.Q
 a:aM gr c.A=Z
 b:aM gr c.B=Z
 m:aM gr m=Z
 w:vu.all T7=Z
 d:oE vu=Z
 l:sh.length=vu.length
 e:sh.all (dx gr)=Z
 i:T7 i=Z
def Zf.lg{m:Int}{vu sh:List Int}(h:Zf gr c m vu sh i)(hl:vu.length<=1048576):a2W gr.Q ([0]++vu):=by
 have hq:=h.k.q;have hp:=h.k.p
 have hw:∀x∈vu,1<=x/\x<=7:=λx hx=>by
  have:=bm.1 h.w x hx;simpa[T7]using this
 have hd:vu.Nodup:=by simpa[oE]using h.d
 refine⟨h.q,by omega,h.k.pq,λp hp=>?_,?_,by simp;omega⟩
 ·rcases kj.1 hp with h1|h1
  ·rw[gP.1 h1];omega
  have:=hw p h1;omega
 show(0::vu).Nodup;refine Wj.2 ⟨λh0=>?_,hd⟩;have:=hw 0 h0;omega
structure Bt (code:List Int):Prop where
 b:∀x∈code,0<=x/\x<=255
 l:code.length<=1048576
structure Cu (code:List Int) (n:Int) (c:List Int×Int×Int):Prop where
 e:c.1=code
 lo:0<=c.2.1
 hi:c.2.1<=n
def Cu.mono{m:Int}{c:List Int×Int×Int}(h:Cu code n c)(hn:n<=m):Cu code m c:=⟨h.e,h.lo,Int.le_trans h.hi hn⟩
def Xb(x:BitVec IntKind.u64.bits):0<=i64.wrap (IntKind.u64.wrap ((x&&&BitVec.ofInt IntKind.u64.bits 255).toNat:Int))/\i64.wrap (IntKind.u64.wrap ((x&&&BitVec.ofInt IntKind.u64.bits 255).toNat:Int))<=255:=by
 have hy:(x&&&BitVec.ofInt IntKind.u64.bits 255).toNat<=255:=by
  rw[a1q];exact gD Nat.and_le_right (by decide)
 generalize (x&&&BitVec.ofInt IntKind.u64.bits 255).toNat=y at hy⊢;rw[wrU (by omega) (by omega),aK (by omega) (by omega)];omega
def XL(hb:Bt code)(h:Cu code n (c0,at_,dJ))(hn:n<=9000000000000000):Rn (EX c0 at_ dJ) (λz=>0<=z.1/\z.1<=255/\Cu code (n+1) z.2):=by
 obtain⟨h1,h2,h3⟩:=h;have h1:c0=code:=h1;have h2:0<=at_:=h2;have h3:at_<=n:=h3;subst h1;have hw:i64.wrap (at_+1)=at_+1:=aK (by omega) (by omega);unfold EX;refine az (ψ:=λv=>0<=v/\v<=255) ?_ λv hv=>?_
 ·refine aZ (λg=>?_) λg=>am (by omega)
  obtain⟨k,rfl⟩:=fZ h2;have hk:k<c0.length:=by simp at g;omega
  have:=hb.b _ (fm hk);exact bG hk (am (by rw[aK (by omega) (by omega)];exact this))
 simp only[hw];refine aZ (λg=>am ⟨hv.1,hv.2,rfl,by show 0<=at_+1;omega,by show at_+1<=n+1;omega⟩) λg=>am ?_
 exact⟨(Xb _).1,(Xb _).2,rfl,by show 0<=at_+1;omega,by show at_+1<=n+1;omega⟩
def j5{m:Int}(hb:Bt code)(h:Cu code n (c0,at_,dJ))(hn:n<=8000000000000000):Rn (gW c0 at_ dJ m) (λz=>0<=z.1/\(m<=1->z.1=0)/\(1<m->z.1<m)/\z.1<=65535/\Cu code (n+2) z.2):=by
 unfold gW;refine aZ (λg=>am ⟨B1 0,λ_=>rfl,λh=>by simp at g;omega,by show(0:Int)<=_;omega,h.mono (by omega)⟩) λg=>?_
 have g:1<m:=by simpa using g
 refine az (XL hb h (by omega)) λz ⟨z1,z2,z3⟩=>?_
 refine az (ψ:=λx=>0<=x.2/\x.2<=65535/\Cu code (n+2) x.1) ?_ λx ⟨x1,x2,x3⟩=>?_
 ·refine aZ (λ_=>az (XL hb z3 (by omega)) λy ⟨y1,y2,y3⟩=>am ?_) λ_=>am ⟨z1,by show z.1<=_;omega,z3.mono (by omega)⟩
  rw[aK (n:=z.1*256) (by omega) (by omega),aK (by omega) (by omega)];exact⟨by show 0<=z.1*256+y.1;omega,by show z.1*256+y.1<=_;omega,y3.mono (by omega)⟩
 refine aI (by omega) (am ?_);rw[jx x1];have b1:=oC x.2 (show m≠0 by omega);have b2:=tj x.2 (show 0<m by omega)
 have b3:x.2%m<=x.2:=by
  rcases Int.lt_or_le x.2 m with h|h
  ·rw[qM x1 h];exact B1 _
  ·omega
 exact⟨b1,λh=>by omega,λ_=>b2,by show x.2%m<=_;omega,x3⟩
def OJ{m:Int}(hb:Bt code)(h:Cu code n (c0,at_,dJ))(hn:n<=8000000000000000):Rn (zQ c0 at_ dJ m) (λz=>Cu code (n+2) z.2):=by
 unfold zQ;exact az (j5 hb h hn) λz hz=>am hz.2.2.2.2
def pm(hb:Bt code)(h:Cu code n (c0,at_,dJ))(hn:n<=8000000000000000)(hl:l≠[]):Rn (pZ c0 at_ dJ l) (λz=>z.1∈l/\Cu code (n+2) z.2):=by
 unfold pZ;refine az (j5 hb h hn) λz ⟨z1,z2,z3,z4,z5⟩=>?_
 have h0:0<l.length:=List.length_pos_iff.2 hl;obtain⟨k,hk⟩:=fZ z1
 have hlt:k<l.length:=by
  rcases dQ 1 l.length with h|h
  ·have:=z3 (by omega);omega
  ·have:=z2 (by omega);omega
 rw[hk];exact bG hlt (am ⟨fm hlt,z5⟩)
def Xm{n d:Nat}(h:Pr n)(hd:d%n≠0):Nat.gcd n d=1:=by
 obtain⟨k,hk⟩:=Nat.gcd_dvd_left n d;have hn:=h.1;have h0:0<Nat.gcd n d:=Nat.gcd_pos_of_pos_left d (by omega);have Ds:=Nat.gcd_dvd_right n d;generalize Nat.gcd n d=g at hk h0 Ds;apply Qq;intro hg;have Us:2<=g:=by omega
 have Ak:2<=k:=by
  rcases dQ k 2 with h|h
  ·have:k=0\/k=1:=by omega
   rcases this with rfl|rfl
   ·omega
   ·rw[L0]at hk;rw[<-hk]at Ds;exact absurd (a5x Ds) hd
  ·exact h
 rcases Nat.le_total g k with h'|h'
 ·exact h.2 g Us (by rw[hk];exact Qj g h') (by rw[hk];exact Nat.mul_mod_right g k)
 exact h.2 k Ak (by rw[hk];exact gO k h') (by rw[hk];exact Nat.mul_mod_left g k)
def FQ{n:Nat}(h:Pr n)(oa:(a*b)%(n:Int)=0):a%(n:Int)=0\/b%(n:Int)=0:=by
 have h1:n∣a.natAbs*b.natAbs:=by
  rw[<-Int.natAbs_mul];exact a1u.1 (Wl oa)
 by_cases ha:a.natAbs%n=0
 ·exact .inl (a1v (a1u.2 (Wh ha)))
 exact .inr (a1v (a1u.2 (Nat.Coprime.dvd_of_dvd_mul_left (Xm h ha) h1)))
def jp(f:List Int)(x:Int):Int:=f.foldr (λc a=>a*x+c) 0
theorem ztd(c:Int)(f:List Int)(x:Int):jp (c::f) x=jp f x*x+c:=rfl
def pC(r:Int):List Int->List Int
 |[]=>[]
 |[_]=>[]
 |_::c::f=>jp (c::f) r::pC r (c::f)
theorem zvh(r:Int):∀f:List Int,(pC r f).length=f.length-1
 |[]=>rfl
 |[_]=>rfl
 |_::c::f=>by
  show(pC r (c::f)).length+1=_;rw[zvh r (c::f)];simp
theorem zxr(r x:Int):∀f:List Int,jp f x=jp (pC r f) x*(x-r)+jp f r
 |[]=>by simp[pC,jp]
 |[c]=>by simp[pC,jp]
 |d::c::f=>by
  have ih:=zxr r x (c::f);show jp (c::f) x*x+d=(jp (pC r (c::f)) x*x+jp (c::f) r)*(x-r)+(jp (c::f) r*r+d);rw[ih];grind
theorem ztl(r:Int):∀f:List Int,2<=f.length->(pC r f).getLastD 0=f.getLastD 0
 |[],h=>absurd h (by simp)
 |[_],h=>absurd h (by simp)
 |[d,c],_=>by simp[pC,jp]
 |e::d::c::f,_=>by
  have ih:=ztl r (d::c::f) (by simp);show(jp (d::c::f) r::jp (c::f) r::pC r (c::f)).getLastD 0=_;have:pC r (d::c::f)=jp (c::f) r::pC r (c::f):=rfl;rw[this]at ih;simpa[List.getLastD]using ih
theorem Yw{p:Nat}(hp:Pr p):∀(n:Nat) (f:List Int),f.length=n+1->f.getLastD 0%(p:Int)≠0->∀rs:List Int,rs.Pairwise (λa b=>(b-a)%(p:Int)≠0)->(∀r∈rs,jp f r%(p:Int)=0)->rs.length<=n
 |0,f,hl,hf,rs,hd,hr=>by
  match f,hl with
  |[c],_=>
   cases rs with
   |nil=>simp
   |cons r rs=>
    have:=hr r (qJ ..);simp[jp]at this;exact absurd (by first|exact this|exact a1v this) (by simpa[List.getLastD]using hf)
 |n+1,f,hl,hf,rs,hd,hr=>by
  cases rs with
  |nil=>simp
  |cons r rs=>
   have h1:=List.pairwise_cons.1 hd
   have:=Yw hp n (pC r f) (by rw[zvh];omega) (by rw[ztl r f (by omega)];exact hf) rs h1.2 λs hs=>by
    have e:=zxr r s f;have mc:=hr s (oB _ hs);have si:=hr r (qJ ..)
    have hm:(jp (pC r f) s*(s-r))%(p:Int)=0:=by
     rw[show jp (pC r f) s*(s-r)=jp f s-jp f r by omega,ti,mc,si];simp
    rcases FQ hp hm with h|h
    ·exact h
    ·exact absurd h (h1.1 s hs)
   simpa using this
def zy4(k:Nat)(x:Int):jp (List.replicate k 0++[1]) x=x^k:=by
 induction k with
 |zero=>simp[jp]
 |succ k ih=>rw[a5u,uJ,ztd,ih,a1w];omega
def WG{n:Nat}(hp:Pr p)(hn:1<=n)(rs:List Int)(hd:rs.Pairwise (λa b=>(b-a)%(p:Int)≠0))(hr:∀r∈rs,r^n%(p:Int)=1):rs.length<=n:=by
 have h2:=hp.1;have yx:(1:Int)%(p:Int)=1:=qM (by omega) (by omega);obtain⟨k,rfl⟩:∃k,n=k+1:=⟨n-1,by omega⟩
 refine Yw hp (k+1) (-1::(List.replicate k 0++[1])) (by simp) ?_ rs hd λr im=>?_
 ·have:(-1::(List.replicate k (0:Int)++[1])).getLastD 0=1:=by
   rw[<-uJ,List.getLastD_concat]
  rw[this,yx];omega
 rw[ztd,zy4,<-a1w,pP,hr r im]
 have:((-1:Int)%(p:Int))=p-1:=by
  have:=HQ (-1) (p:Int) 1;rw[<-this,Wi,qM (by omega) (by omega)];omega
 rw[this,show 1+((p:Int)-1)=p by omega,Int.emod_self]
def zyp{n:Nat}(hp:Pr p)(hn:1<=n)(Zh:n<p-1):∃h:Nat,2<=h/\h<p/\h^n%p≠1:=by
 apply Qq;intro hc;have h2:=hp.1
 have h1:∀h:Nat,1<=h->h<p->h^n%p=1:=λh a b=>by
  rcases dQ h 2 with c|c
  ·have:h=1:=by omega
   subst this;rw[HP,oA (by omega)]
  ·exact Qq λd=>hc ⟨h,c,b,d⟩
 have:=WG hp hn ((List.range (p-1)).map λk=>((k+1:Nat):Int)) ?_ ?_
 ·simp at this;omega
 ·rw[Wm];refine a1x ?_ a5B;intro a b ha hb oa;have hb:=kP.1 hb;rw[show((b+1:Nat):Int)-((a+1:Nat):Int)=((b-a:Nat):Int)by omega,<-pN,oA (by omega)];omega
 intro r hr;obtain⟨k,hk,rfl⟩:=jU.1 hr;have hk:=kP.1 hk;rw[<-Wn,<-pN,h1 (k+1) (by omega) (by omega)];rfl
structure Gs (gr:an):Prop where
 p:0<=gr.P/\gr.P<=2000000000
 q:0<=gr.Q/\gr.Q<=1000000000
 g:0<=gr.G/\gr.G<=2000000000
def zCl{q:Nat}(hq:2<=q):((1+(k:Int)*(q:Int))-1).tdiv (q:Int)=(k:Int):=by
 rw[show(1+(k:Int)*(q:Int))-1=(k:Int)*(q:Int)by omega,a5C _ (by omega)]
def zoQ{q:Nat}(cQ:q<=1000000):Rn (uN (q:Int)) (λz=>Gs z.1/\(z.2=Z->z.1.Q=q/\3<=z.1.P)/\(∀k:Nat,1<=k->Pr (1+k*q)->1+k*q<=2000000000->Pr q->z.2=Z)):=by
 unfold uN;refine az (ψ:=λb=>b= !(decide (2<=q)&&mh (q:Int))) ?_ ?_
 ·refine ag (sW _ _ _) ?_;by_cases h:2<=q
  ·refine bw (by simp;omega) (ag (Ht _ (by omega)) (am ?_));simp[h]
  refine gk (by simp;omega) (am ?_);simp[h]
 rintro _ rfl;cases hc:(decide (2<=q)&&mh (q:Int))
 ·refine gk rfl (am ⟨⟨⟨by decide,by decide⟩,⟨by decide,by decide⟩,by decide,by decide⟩,λh=>(by cases h),λk h1 h2 h3 h4=>?_⟩);rw[nI.2 h4]at hc;have:=h4.1;simp at hc;omega
 have hq:2<=q:=by simp at hc;exact hc.1
 have qg:Pr q:=by simp at hc;exact nI.1 hc.2
 refine bw rfl ?_;refine az (ψ:=λb=>(b=.inl ()/\∀k:Nat,1<=k->Pr (1+k*q)->¬1+k*q<=2000000000)\/∃z:an×Bool,b=.inr z/\Gs z.1/\z.2=Z/\z.1.Q=q/\3<=z.1.P) ?_ ?_
 ·rw[aK (by omega) (by omega)];refine uh (λs=>∃k:Nat,1<=k/\s=1+(k:Int)*(q:Int)/\s<=2001000001/\∀j:Nat,1<=j->j<k->¬Pr (1+j*q)) (λs=>(2001000001-s).toNat) ⟨1,by omega,by omega,by omega,λj h1 h2=>by omega⟩ ?_;rintro s ⟨k,hk,rfl,hs,hn⟩;have hkq:k*2<=k*q:=Qj k hq;have hkc:(k:Int)*(q:Int)=((k*q:Nat):Int):=Ar k q;refine aZ (λg=>?_) λg=>?_
  ·have g:1+(k:Int)*(q:Int)<=2000000000:=by simpa using g
   refine ag (Ht _ (by omega)) ?_;have Sd:1+(k:Int)*(q:Int)=((1+k*q:Nat):Int):=by omega
   cases hp:mh (1+(k:Int)*(q:Int))
   ·refine gk rfl (am ?_)
    have e:i64.wrap (1+(k:Int)*(q:Int)+(q:Int))=1+((k+1:Nat):Int)*(q:Int):=by
     rw[aK (by omega) (by omega)];grind
    refine⟨⟨k+1,by omega,e,by rw[aK (by omega) (by omega)];omega,λj h1 h2=>?_⟩,?_⟩
    ·rcases dQ j k with h|h
     ·exact hn j h1 h
     have:j=k:=by omega
     subst this;intro fg;rw[Sd,nI.2 fg]at hp;cases hp
    rw[aK (by omega) (by omega)];omega
   refine bw rfl ?_;have fg:Pr (1+k*q):=by rw[Sd]at hp;exact nI.1 hp
   obtain⟨h0,a1,a2,a3⟩:=zyp fg hk (by omega)
   have Ds:i64.wrap ((i64.wrap (1+(k:Int)*(q:Int)-1)).tdiv (q:Int))=(k:Int):=by
    rw[aK (n:=1+(k:Int)*(q:Int)-1) (by omega) (by omega),zCl hq,aK (by omega) (by omega)]
   simp only[Ds];simp only[Sd];refine az (ψ:=λh=>2<=h/\h<=(h0:Int)) (uh (λs=>2<=s/\s<=(h0:Int)) (λs=>(h0-s).toNat) (by omega) ?_) ?_
   ·rintro s ⟨s1,s2⟩;have DA:=(qy (a:=s) (e:=(k:Int)) (m:=((1+k*q:Nat):Int)) (by omega) (by omega) (by omega) (by omega) (by omega) (by omega)).2;refine aI (by omega) (ag DA ?_);refine aZ (λg=>am ?_) λg=>am ⟨s1,s2⟩
    rw[aK (by omega) (by omega)]
    have hne:s≠(h0:Int):=λe=>by
     subst e;apply a3;have g:((((h0:Int).toNat^(k:Int).toNat%((1+k*q:Nat):Int).toNat:Nat)):Int)=1:=by simpa only[xH]using g
     rw[dL,dL,dL]at g;omega
    refine⟨⟨by omega,by omega⟩,?_⟩;omega
   rintro h ⟨s1,s2⟩;have DA:=(qy (a:=h) (e:=(k:Int)) (m:=((1+k*q:Nat):Int)) (by omega) (by omega) (by omega) (by omega) (by omega) (by omega)).2;refine aI (by omega) (ag DA (am ?_))
   have hlt:h.toNat^(k:Int).toNat%((1+k*q:Nat):Int).toNat<1+k*q:=by
    rw[dL (1+k*q)];exact nb _ (by omega)
   refine .inr ⟨_,rfl,⟨⟨by show(0:Int)<=((1+k*q:Nat):Int);omega,by show((1+k*q:Nat):Int)<=_;omega⟩,⟨by show(0:Int)<=(q:Int);omega,by show(q:Int)<=_;omega⟩,?_,?_⟩,rfl,rfl,by show(3:Int)<=((1+k*q:Nat):Int);omega⟩
   ·show(0:Int)<=((_:Nat):Int);omega
   show((_:Nat):Int)<=2000000000;omega
  refine am (.inl ⟨rfl,λj h1 h2 h3=>?_⟩);have g:¬1+(k:Int)*(q:Int)<=2000000000:=by simpa using g
  rcases dQ j k with h|h
  ·exact hn j h1 h h2
  have:k*q<=j*q:=gO q h;omega
 rintro b (⟨rfl,h⟩|⟨z,rfl,h1,h2,h3,h4⟩)
 ·exact am ⟨⟨⟨by decide,by decide⟩,⟨by decide,by decide⟩,by decide,by decide⟩,λh=>(by cases h),λk h1 h2 h3 h4=>absurd h3 (h k h1 h2)⟩
 exact am ⟨h1,λ_=>⟨h3,h4⟩,λ_ _ _ _ _=>h2⟩
def nY{n:Nat}(hn:n<64)(h2:2<=n)(h:∀d,d<8->2<=d->d*d<=n->n%d≠0):Pr n:=by
 refine⟨h2,λd h1 h3=>?_⟩;rcases dQ d 8 with h8|h8
 ·exact h d h8 h1 h3
 have:8*8<=d*d:=rS h8 h8;omega
structure Gw (gr:an):Prop where
 p: -10<=gr.P/\gr.P<=2100000000
 q: -10<=gr.Q/\gr.Q<=2100000000
 g: -10<=gr.G/\gr.G<=2100000000
def Gs.w(h:Gs gr):Gw gr:=⟨by have:=h.p;omega,by have:=h.q;omega,by have:=h.g;omega⟩
def zDt(hx:x∈[(3:Int),5,5,7,11,11,13,23]):∃q k:Nat,x=(q:Int)/\3<=q/\q<=23/\1<=k/\Pr (1+k*q)/\1+k*q<=2000000000/\Pr q:=by
 simp only[f6,jy,jz]at hx;rcases hx with rfl|rfl|rfl|rfl|rfl|rfl|rfl|rfl
 ·exact⟨3,2,rfl,by decide,by decide,by decide,nY (by decide) (by decide) (by decide),by decide,nY (by decide) (by decide) (by decide)⟩
 ·exact⟨5,2,rfl,by decide,by decide,by decide,nY (by decide) (by decide) (by decide),by decide,nY (by decide) (by decide) (by decide)⟩
 ·exact⟨5,2,rfl,by decide,by decide,by decide,nY (by decide) (by decide) (by decide),by decide,nY (by decide) (by decide) (by decide)⟩
 ·exact⟨7,4,rfl,by decide,by decide,by decide,nY (by decide) (by decide) (by decide),by decide,nY (by decide) (by decide) (by decide)⟩
 ·exact⟨11,2,rfl,by decide,by decide,by decide,nY (by decide) (by decide) (by decide),by decide,nY (by decide) (by decide) (by decide)⟩
 ·exact⟨11,2,rfl,by decide,by decide,by decide,nY (by decide) (by decide) (by decide),by decide,nY (by decide) (by decide) (by decide)⟩
 ·exact⟨13,4,rfl,by decide,by decide,by decide,nY (by decide) (by decide) (by decide),by decide,nY (by decide) (by decide) (by decide)⟩
 exact⟨23,2,rfl,by decide,by decide,by decide,nY (by decide) (by decide) (by decide),by decide,nY (by decide) (by decide) (by decide)⟩
def zDU(hb:Bt code)(h:Cu code n (c0,at_,dJ))(hn:n<=7000000000000000):Rn (EV c0 at_ dJ) (λz=>Gs z.1/\3<=z.1.Q/\z.1.Q<=23/\3<=z.1.P/\Cu code (n+2) z.2):=by
 unfold EV;refine az (pm hb h (by omega) (by simp)) λz ⟨z1,z2⟩=>?_
 obtain⟨q,k,e,q1,q2,k1,k2,k3,k4⟩:=zDt z1;rw[e];refine az (zoQ (by omega)) λy ⟨y1,y2,y3⟩=>am ?_
 have y4:=y2 (y3 k k1 k2 k3 k4);exact⟨y1,by show 3<=y.1.Q;omega,by show y.1.Q<=23;omega,y4.2,z2⟩
def zBv(h:Gs gr)(hq:1<=gr.Q)(hp:1<=gr.P)(hx:0<=x/\x<=2000000000)(e:Int):Rn (cH gr x e) (λv=>0<=v/\v<=2000000000):=by
 have h1:=h.p;have h2:=h.q;have b1:0<=e%gr.Q:=oC _ (by omega);have b2:e%gr.Q<gr.Q:=tj _ (by omega);have hw:=(qy (a:=x) (e:=e%gr.Q) (m:=gr.P) (by omega) (by omega) (by omega) (by omega) b1 (by omega)).2;unfold cH;refine ag (Dp (by omega) (by omega)) (ag hw (am ?_));have hlt:x.toNat^(e%gr.Q).toNat%gr.P.toNat<gr.P.toNat:=nb _ (by omega);omega
def zGD(hx:x∈[(101:Int),1009,1019,65537,999983]):∃q:Nat,x=(q:Int)/\q<=1000000:=by
 simp only[f6,jy,jz]at hx;rcases hx with rfl|rfl|rfl|rfl|rfl
 ·exact⟨101,rfl,by decide⟩
 ·exact⟨1009,rfl,by decide⟩
 ·exact⟨1019,rfl,by decide⟩
 ·exact⟨65537,rfl,by decide⟩
 exact⟨999983,rfl,by decide⟩
def zC8:Gs (an.mk 1000000007 500000003 4):=⟨⟨by decide,by decide⟩,⟨by decide,by decide⟩,by decide,by decide⟩
def Xd(code:List Int):Cu code 0 (code,0,0):=⟨rfl,B1 0,B1 0⟩
def U9(hb:Bt code)(h:Cu code n (c0,at_,dJ))(hn:n<=6000000000000000):Rn (AC c0 at_ dJ) (λz=>Gs z.1/\Cu code (n+6) z.2):=by
 unfold AC;refine az (j5 hb h (by omega)) λz ⟨z1,z2,z3,z4,z5⟩=>?_
 refine aZ (λ_=>am ⟨zC8,z5.mono (by omega)⟩) λ_=>aZ (λ_=>?_) λ_=>?_
 ·refine az (pm hb z5 (by omega) (by simp)) λy ⟨y1,y2⟩=>?_
  obtain⟨q,e,hq⟩:=zGD y1;rw[e];exact az (zoQ hq) λx ⟨x1,_,_⟩=>am ⟨x1,y2.mono (by omega)⟩
 refine az (zDU hb z5 (by omega)) λy ⟨y1,y2,y3,y4,y5⟩=>?_
 refine az (j5 hb y5 (by omega)) λx ⟨x1,x2,x3,x4,x5⟩=>?_
 have hg:=y1.g;refine az (zBv y1 (by omega) (by omega) hg _) λv hv=>am ⟨⟨y1.p,y1.q,hv⟩,x5.mono (by omega)⟩
def zwy(hb:Bt code)(h:Cu code n (c0,at_,dJ))(hn:n<=5000000000000000):Rn (Ej c0 at_ dJ) (λz=>Gw z.1/\Cu code (n+10) z.2):=by
 unfold Ej;refine az (U9 hb h (by omega)) λz ⟨z1,z2⟩=>?_
 have g1:=z1.p;have g2:=z1.q;have g3:=z1.g;refine az (j5 hb z2 (by omega)) λy ⟨_,_,_,_,y5⟩=>?_
 rw[aK (n:=z.1.P+2) (by omega) (by omega),aK (n:=z.1.Q+1) (by omega) (by omega),aK (n:=z.1.P-1) (by omega) (by omega),aK (n:=z.1.G+1) (by omega) (by omega)];refine az (ψ:=λx=>Gw (an.mk x.2.1 x.2.2.1 x.2.2.2)/\Cu code (n+10) x.1) ?_ λx hx=>am hx
 refine aZ (λ_=>?_) λ_=>aZ (λ_=>?_) λ_=>aZ (λ_=>?_) λ_=>am ⟨z1.w,y5.mono (by omega)⟩
 ·refine az (pm hb y5 (by omega) (by simp)) λx ⟨x1,x2⟩=>am ⟨?_,x2.mono (by omega)⟩
  simp only[f6,jy,jz]at x1;exact⟨by show-10<=x.1/\x.1<=_;omega,by show-10<=z.1.Q/\z.1.Q<=_;omega,by show-10<=z.1.G/\z.1.G<=_;omega⟩
 ·refine az (pm hb y5 (by omega) (by simp)) λx ⟨x1,x2⟩=>am ⟨?_,x2.mono (by omega)⟩
  simp only[f6,jy,jz]at x1;exact⟨by show-10<=z.1.P/\z.1.P<=_;omega,by show-10<=x.1/\x.1<=_;omega,by show-10<=z.1.G/\z.1.G<=_;omega⟩
 refine az (pm hb y5 (by omega) (by simp)) λx ⟨x1,x2⟩=>am ⟨?_,x2.mono (by omega)⟩
 simp only[f6,jy,jz]at x1;exact⟨by show-10<=z.1.P/\z.1.P<=_;omega,by show-10<=z.1.Q/\z.1.Q<=_;omega,by show-10<=x.1/\x.1<=_;omega⟩
def Qy(hb:Bt code)(h:Cu code n (c0,at_,dJ))(hn:n<=7000000000000000)(hg:gr.Q<=2100000000):Rn (D2 c0 at_ dJ gr) (λz=>0<=z.1/\z.1<=2100000000/\(2<=gr.Q->z.1<gr.Q)/\Cu code (n+4) z.2):=by
 unfold D2;refine aZ (λg=>am ⟨B1 0,by show(0:Int)<=_;omega,λh=>by simp at g;omega,h.mono (by omega)⟩) λg=>?_
 have g:2<=gr.Q:=by simp at g;omega
 refine az (j5 hb h (by omega)) λz ⟨z1,z2,z3,z4,z5⟩=>?_
 refine az (j5 hb z5 (by omega)) λy ⟨y1,y2,y3,y4,y5⟩=>aI (by omega) (am ?_)
 rw[aK (n:=z.1*60000) (by omega) (by omega),aK (by omega) (by omega),jx (by omega)];have b1:=oC (z.1*60000+y.1) (show gr.Q≠0 by omega);have b2:=tj (z.1*60000+y.1) (show 0<gr.Q by omega);exact⟨b1,by show _%gr.Q<=_;omega,λ_=>b2,y5.mono (by omega)⟩
def Yg(hb:Bt code)(h:Cu code n (c0,at_,dJ))(hn:n<=6000000000000000)(hg:Gw gr):Rn (HE c0 at_ dJ gr) (λz=>-100<=z.1/\z.1<=2100000000/\Cu code (n+6) z.2):=by
 have g2:=hg.q;unfold HE;refine az (OJ hb h (by omega)) λz z1=>?_
 rw[aK (by omega) (by omega)];refine aZ (λ_=>?_) λ_=>?_
 ·refine az (pm hb z1 (by omega) (by simp)) λy ⟨y1,y2⟩=>am ?_
  simp only[f6,jy,jz]at y1;exact⟨by show-100<=y.1;omega,by show y.1<=_;omega,y2.mono (by omega)⟩
 exact az (Qy hb z1 (by omega) (by omega)) λy ⟨y1,y2,_,y3⟩=>am ⟨by show-100<=y.1;omega,y2,y3.mono (by omega)⟩
def zAX(hb:Bt code)(h:Cu code n (c0,at_,dJ))(hn:n<=5000000000000000)(hg:Gw gr)(hk:k<=1000000):Rn (JB c0 at_ dJ gr (k:Int)) (λz=>z.1.length=k/\(∀x∈z.1,0<=x/\x<=2100000000/\(2<=gr.Q->x<gr.Q))/\Cu code (n+4*k) z.2):=by
 unfold JB;refine az (ψ:=λr=>r.2.length=k/\(∀x∈r.2,0<=x/\x<=2100000000/\(2<=gr.Q->x<gr.Q))/\Cu code (n+4*k) r.1) (ll k (λj s=>s.2.1=(k:Int)-j/\s.2.2.length=j/\(∀x∈s.2.2,0<=x/\x<=2100000000/\(2<=gr.Q->x<gr.Q))/\Cu code (n+4*j) s.1) ⟨by show(k:Int)=_;omega,rfl,by simp,h.mono (by omega)⟩ ?_ ?_) λr hr=>am hr
 ·rintro j s hj ⟨h1,h2,h3,h4⟩;refine gk (by rw[h1];simp;omega) (az (Qy hb h4 (by omega) hg.q.2) λz ⟨z1,z2,z3,z4⟩=>aI (by omega) (am ⟨?_,by simp[h2],λx hx=>?_,z4.mono (by omega)⟩))
  ·show i64.wrap (s.2.1-1)=_;rw[h1,aK (by omega) (by omega)];omega
  rcases kj.1 hx with h|h
  ·exact h3 x h
  rw[gP.1 h];exact⟨z1,z2,z3⟩
 rintro s ⟨h1,h2,h3,h4⟩;exact bw (by rw[h1];simp) (am ⟨h2,h3,h4⟩)
def YE{a:Nat}(hp:2<=p){m:Nat}(h:a^m%p=1)(k r:Nat):a^(m*k+r)%p=a^r%p:=by
 rw[Qp,pO,uL,qL (a^m),h,HP,oA (show 1<p by omega),LY,Qo]
def zBW{a:Nat}(hp:2<=p):∀m n,a^m%p=1->a^n%p=1->a^(Nat.gcd m n)%p=1:=by
 intro m n;induction m,n using Nat.gcd.induction with
 |H0 n=>intro _ h;simpa using h
 |H1 m n hm ih=>
  intro h1 h2;rw[Nat.gcd_rec];refine ih ?_ h1;rw[<-YE hp h1 (n/m) (n%m),Ql];exact h2
def zAV{a q:Nat}(hp:2<=p)(hq:Pr q)(ha:a^q%p=1)(Uz:a%p≠1){i j:Nat}(Vv:i<j)(hj:j<q):a^i%p≠a^j%p:=by
 intro e
 have h1:a^(j-i)%p=1:=by
  have e1:a^(j-i)%p=a^(q*1+(j-i))%p:=(YE hp ha 1 (j-i)).symm;rw[e1,show q*1+(j-i)=j+(q-i)by omega,Qp,uL,<-e,<-uL,<-Qp,show i+(q-i)=q by omega];exact ha
 have h2:=zBW hp q (j-i) ha h1;rw[Xm hq (by rw[oA (by omega)];omega),Nat.pow_one]at h2;exact Uz h2
def VK(h:aM gr x=Z):x.toNat^gr.Q.toNat%gr.P.toNat=1:=by
 simp only[aM,bK,eO]at h;exact h.2
def Xu(k:ap gr)(h:aM gr x=Z):x.toNat<gr.P.toNat/\1<=x.toNat:=by
 have:=rE h;have:=k.p;omega
def zCY(k:ap gr)(hh:aM gr h=Z)(h1:h≠1)(hx:aM gr x=Z):∃s:Nat,h.toNat^s%gr.P.toNat=x.toNat:=by
 have hp2:2<=gr.P.toNat:=by have:=k.p;omega
 have hb:=Xu k hh;have Nd:=Xu k hx;have Uz:h.toNat%gr.P.toNat≠1:=by rw[oA hb.1];have:=rE hh;omega
 apply Qq;intro hn;have J9:∀s:Nat,h.toNat^s%gr.P.toNat≠x.toNat:=λs e=>hn ⟨s,e⟩
 have key:∀a b:Nat,a<gr.P.toNat->b<gr.P.toNat->a≠b->((b:Int)-(a:Int))%(gr.P.toNat:Int)≠0:=by
  intro a b ha hY oa he;have h3:((gr.P.toNat:Nat):Int)∣(b:Int)-(a:Int):=Wl he;obtain⟨c,hc⟩:=h3;rcases Int.lt_trichotomy c 0 with h4|h4|h4
  ·have:(gr.P.toNat:Int)*c<=(gr.P.toNat:Int)*(-1):=Wo (by omega) (by omega);omega
  ·subst h4;simp at hc;omega
  ·have:(gr.P.toNat:Int)*1<=(gr.P.toNat:Int)*c:=Wo (by omega) (by omega);omega
 have hlt:∀s,h.toNat^s%gr.P.toNat<gr.P.toNat:=λs=>nb _ (by omega)
 have hlen:=WG (p:=gr.P.toNat) (n:=gr.Q.toNat) k.pp (by have:=k.q;omega) ((x.toNat:Int)::(List.range gr.Q.toNat).map λi=>((h.toNat^i%gr.P.toNat:Nat):Int)) ?_ ?_
 ·simp at hlen;omega
 ·rw[List.pairwise_cons];refine⟨λy hy=>?_,?_⟩
  ·obtain⟨i,hi,rfl⟩:=jU.1 hy;exact key _ _ Nd.1 (hlt i) λe=>J9 i e.symm
  rw[Wm];refine a1x ?_ a5B;intro i j hi hj Vv;exact key _ _ (hlt i) (hlt j) (zAV hp2 k.pq (VK hh) Uz Vv (kP.1 hj))
 intro r hr;rcases f6.1 hr with rfl|hr
 ·have:=VK hx;rw[<-Wn,<-pN,this];rfl
 obtain⟨i,hi,rfl⟩:=jU.1 hr
 have h5:(h.toNat^i%gr.P.toNat)^gr.Q.toNat%gr.P.toNat=1:=by
  rw[<-qL,<-pO,xJ,pO,qL,VK hh,HP,oA (by omega)]
 rw[<-Wn,<-pN,h5];rfl
def Yu(h0:0<q)(h1:q<=4000000000000000000):rO a q=J (a%q):=by
 unfold rO;rw[eV (by omega),eV (by omega)];have b1:a.tmod q<q:=Wc a h0
 have b2: -q<a.tmod q:=by
  have:=Wd a h0;omega
 rw[aK (by omega) (by omega),jx (by omega)];congr 1;rw[We];rw[a1s,ti,a1t,Wf,eZ]
def Wt(a:Int){m:Int}(h:0<m): -m<a.tmod m/\a.tmod m<m:=by
 have h1:=Wc a h;have h2:=Wd a h;omega
def zyx(a:Int){e m:Int}(h1:1<=m)(h2:0<=e)(h3:e<=4000000000000000000):Rn (l6 a e m) (λv=>-m<v/\v<m):=by
 unfold l6;refine aI (by omega) (az (ψ:=λv=>-m<v/\v<m) (uh (λs=>(-m<s.2.2/\s.2.2<m)/\0<=s.2.1/\s.2.1<=e) (λs=>s.2.1.toNat) ⟨Wt _ (by omega),h2,B1 _⟩ ?_) λx hx=>am hx);rintro s ⟨hs,h4,h5⟩;refine aZ (λg=>?_) λ_=>am hs
 have g:0<s.2.1:=by simpa using g
 refine az (ψ:=λv=>-m<v/\v<m) (aZ (λ_=>aI (by omega) (am (Wt _ (by omega)))) λ_=>am hs) λx hx=>aI (by omega) (am ?_)
 have e1:s.2.1.tdiv 2=s.2.1/2:=V8 (by omega);have e2:i64.wrap (s.2.1.tdiv 2)=s.2.1/2:=by rw[e1,aK (by omega) (by omega)]
 exact⟨⟨hx,by show 0<=i64.wrap _;rw[e2];omega,by show i64.wrap _<=e;rw[e2];omega⟩,by show(i64.wrap _).toNat<_;rw[e2];omega⟩
def zBm(hq:1<=gr.Q/\gr.Q<=4000000000000000000)(hp:1<=gr.P)(x e:Int):Rn (cH gr x e) (λv=>-gr.P<v/\v<gr.P):=by
 unfold cH;refine ag (Yu (by omega) hq.2) (az (zyx x hp (oC _ (by omega)) ?_) λv hv=>am hv);have:=tj e (show 0<gr.Q by omega);omega
def VI(hb:Bt code)(h:Cu code n (c0,at_,dJ))(hn:n<=6000000000000000)(hg:Gw gr):Rn (Dl c0 at_ dJ gr) (λz=>-2200000000<=z.1/\z.1<=2200000000/\Cu code (n+4) z.2):=by
 have g1:=hg.p;have g2:=hg.q;unfold Dl;refine az (ψ:=λb=>b=aa->3<=gr.P/\1<=gr.Q) (aZ (λ_=>am λh=>by cases h) λa=>am λb=>by simp at a b;omega) λb hY=>aZ (λ_=>am ⟨by show-2200000000<=(1:Int);decide,by show(1:Int)<=_;decide,h.mono (by omega)⟩) λe=>?_
 obtain⟨k1,k2⟩:=hY e;refine ag (Yu (by omega) (by omega)) (az (Qy hb h (by omega) (by omega)) λz ⟨z1,z2,_,z3⟩=>az (zBm ⟨k2,by omega⟩ (by omega) _ _) λv hv=>am ⟨by show _<=v;omega,by show v<=_;omega,z3⟩)
def Lv(hb:Bt code)(h:Cu code n (c0,at_,dJ))(hn:n<=5000000000000000)(hg:Gw gr):Rn (y6 c0 at_ dJ gr) (λz=>-2200000000<=z.1/\z.1<=2200000000/\Cu code (n+6) z.2):=by
 have g1:=hg.p;unfold y6;refine az (OJ hb h (by omega)) λz z1=>aZ (λ_=>?_) λ_=>az (VI hb z1 (by omega) hg) λy ⟨y1,y2,y3⟩=>am ⟨y1,y2,y3.mono (by omega)⟩
 rw[aK (n:=gr.P-1) (by omega) (by omega)];refine az (pm hb z1 (by omega) (by simp)) λy ⟨y1,y2⟩=>am ?_
 simp only[f6,jy,jz]at y1;exact⟨by show-2200000000<=y.1;omega,by show y.1<=_;omega,y2.mono (by omega)⟩
def ce(gr:an)(c:aq):Bool:=aM gr c.A&&aM gr c.B
def zAI(k:ap gr)(h:ce gr c=Z):0<=c.A/\c.A<=2000000000/\0<=c.B/\c.B<=2000000000:=by
 simp only[ce,bK]at h;have h1:=rE h.1;have h2:=rE h.2;have hp:=k.p;omega
def zCH(k:ap gr)(l:List aq):Rn (IB l gr.P gr.Q gr.G) (λx=>(x=-1/\l.all (ce gr)=Z)\/(0<=x/\l.all (ce gr)=aa)):=by
 unfold IB;refine az (ψ:=λx=>(x=.inl ()/\l.all (ce gr)=Z)\/(∃j:Nat,x=.inr (j:Int)/\l.all (ce gr)=aa)) (eo (λn _=>∀m,m<n->∀h:m<l.length,ce gr l[m]=Z) (λm hm=>by omega) ?_ λs hs=>.inl ⟨rfl,?_⟩) ?_
 ·rintro n s hn hI;refine bG hn ?_;unfold NL;refine az (ψ:=λb=>b= !ce gr l[n]) (ag (zuy k l[n]) (am rfl)) ?_;rintro _ rfl;refine aZ (λh=>am (.inr ⟨n,rfl,?_⟩)) λh=>am λm hm hl=>?_
  ·rw[zE];exact⟨l[n],fm hn,by simpa using h⟩
  rcases dQ m n with h1|h1
  ·exact hI m h1 hl
  have:m=n:=by omega
  subst this;simpa using h
 ·rw[bm];intro x hx;obtain⟨m,hm,rfl⟩:=L8.1 hx;exact hs m hm hm
 rintro x (⟨rfl,h⟩|⟨j,rfl,h⟩)
 ·exact am (.inl ⟨rfl,h⟩)
 exact am (.inr ⟨by show(0:Int)<=(j:Int);omega,h⟩)
def ztN(k:ap gr)(l:List aq):HV gr l=J (decide (l.length<=24)&&l.all (ce gr)):=by
 unfold HV;refine bH (az (ψ:=λb=>b=(decide (l.length<=24)&&l.all (ce gr))) (aZ (λh=>?_) λh=>am ?_) λb hb=>am hb)
 ·have h:l.length<=24:=by simp at h;omega
  unfold MB;refine az (ψ:=λb=>b= !l.all (ce gr)) (az (zCH k l) λx hx=>am ?_) ?_
  ·rcases hx with⟨rfl,h⟩|⟨h0,h⟩
   ·rw[h];rfl
   rw[h];simpa using h0
  rintro _ rfl;exact am (by simp[h])
 have h:¬l.length<=24:=by simp at h;omega
 simp[h]
def WC(k:ap gr)(l:List aq):FW gr l=J (decide (l.length<=24)&&l.all (ce gr)):=by
 unfold FW;by_cases h:24<(l.length:Int)
 ·rw[aD (by simpa using h)];have h:¬l.length<=24:=by omega
  simp[h]
 rw[aB (by simpa using h)];refine(zAq l (ce gr) aa (λn hn=>?_)).trans ?_
 ·rw[jO hn,aS,zu k,aS];have e:([l[n].A,l[n].B].all (aM gr))=ce gr l[n]:=by simp[ce]
  rw[e];cases ce gr l[n]<;>rfl
 have h:l.length<=24:=by omega
 cases l.all (ce gr)<;>simp[h]
def zyP(hb:Bt code)(h:Cu code n (c0,at_,dJ))(hn:n<=4000000000000000)(hg:Gw gr):Rn (Kx c0 at_ dJ gr) (λz=>Cu code (n+8) z.2):=by
 unfold Kx;exact az (VI hb h (by omega) hg) λz ⟨_,_,z3⟩=>az (VI hb z3 (by omega) hg) λy ⟨_,_,y3⟩=>am (y3.mono (by omega))
def zur(hb:Bt code)(h:Cu code n (c0,at_,dJ))(hn:n<=4000000000000000)(hg:Gw gr):Rn (J6 c0 at_ dJ gr) (λz=>Cu code (n+12) z.2):=by
 unfold J6;exact az (Lv hb h (by omega) hg) λz ⟨_,_,z3⟩=>az (Lv hb z3 (by omega) hg) λy ⟨_,_,y3⟩=>am (y3.mono (by omega))
def zCM(hb:Bt code)(h:Cu code n (c0,at_,dJ))(hn:n<=4000000000000000)(hk:k<=1000):Rn (Jx c0 at_ dJ (k:Int)) (λz=>z.1.length=k/\Cu code (n+2*k+2) z.2):=by
 unfold Jx;refine az (ψ:=λl=>l.length=k) (ll k (λj s=>s.2=(j:Int)/\s.1.length=j) ⟨rfl,rfl⟩ ?_ ?_) λl hl=>?_
 ·rintro j ⟨l,i⟩ hj ⟨h1,h2⟩;have h1:i=(j:Int):=h1;have h2:l.length=j:=h2;subst h1;refine gk (by simp;omega) (aI (by dsimp only;omega) (am ⟨?_,by simp[h2]⟩));show i64.wrap ((j:Int)+1)=_;rw[aK (by omega) (by omega)];push_cast;rfl
 ·rintro⟨l,i⟩ ⟨h1,h2⟩;have h1:i=(k:Int):=h1;subst h1;exact bw (by simp) (am h2)
 rw[aK (n:=(k:Int)-1) (by omega) (by omega)];refine az (ψ:=λx=>x.2.length=k/\Cu code (n+2*k+2) x.1) (uh (λs=>s.2.1.length=k/\-1<=s.2.2/\s.2.2<=(k:Int)-1/\Cu code (n+2*((k:Int)-1-s.2.2)) s.1) (λs=>s.2.2.toNat) ⟨hl,by dsimp only;omega,by dsimp only;omega,h.mono (by dsimp only;omega)⟩ ?_) λx hx=>am hx
 rintro⟨c,l,i⟩ ⟨h1,h2,h3,h4⟩;have h1:l.length=k:=h1;have h2: -1<=i:=h2;have h3:i<=(k:Int)-1:=h3;have h4:Cu code (n+2*((k:Int)-1-i)) c:=h4;refine aZ (λg=>?_) λg=>am ⟨h1,h4.mono (by omega)⟩
 have g:0<i:=by simpa using g
 obtain⟨m,rfl⟩:=fZ (show 0<=i by omega);dsimp only;rw[aK (n:=(m:Int)+1) (by omega) (by omega)];refine az (j5 hb h4 (by omega)) λz ⟨z1,_,z3,_,z5⟩=>?_
 have z3:=z3 (by omega);obtain⟨j,hj⟩:=fZ z1;rw[hj];refine bG (show m<l.length by omega) (bG (show j<l.length by omega) (bG (show j<(l.set _ _).length by rw[L7];omega) (am ⟨⟨by simp[h1],?_,?_,z5.mono ?_⟩,?_⟩)))
 ·show-1<=i64.wrap ((m:Int)-1);rw[aK (by omega) (by omega)];omega
 ·show i64.wrap ((m:Int)-1)<=_;rw[aK (by omega) (by omega)];omega
 ·show _<=n+2*((k:Int)-1-i64.wrap ((m:Int)-1));rw[aK (by omega) (by omega)];omega
 show(i64.wrap ((m:Int)-1)).toNat<(m:Int).toNat;rw[aK (by omega) (by omega)];omega
def zpM(hb:Bt code)(h:Cu code n (c0,at_,dJ))(hn:n<=3000000000000000)(hg:Gw gr)(hk:k<=1000):Rn (F0 c0 at_ dJ gr (k:Int)) (λz=>z.1.length<=k+1/\Cu code (n+4*k+20) z.2):=by
 unfold F0;refine az (zAX hb h (by omega) hg (by omega)) λz ⟨z1,_,z3⟩=>?_
 refine az (j5 hb z3 (by omega)) λp ⟨_,_,_,_,p5⟩=>?_
 refine az (ψ:=λv=>Sum.elim (λx=>x.2.length<=k+1/\Cu code (n+4*k+20) x.1) (λy=>y.1.length<=k+1/\Cu code (n+4*k+20) y.2) v) ?_ ?_
 ·refine aZ (λ_=>aI (by omega) (am ⟨by simp[z1],p5.mono (by omega)⟩)) λ_=>aZ (λ_=>aZ (λg=>?_) λ_=>am ⟨by dsimp only;omega,p5.mono (by omega)⟩) λ_=>aZ (λ_=>aZ (λg=>?_) λ_=>am ⟨by dsimp only;omega,p5.mono (by omega)⟩) λ_=>am ⟨by dsimp only;omega,p5.mono (by omega)⟩
  ·have g:0<(k:Int):=by simpa using g
   exact aI (by omega) (am ⟨by simp[z1];omega,p5.mono (by omega)⟩)
  have g:0<(k:Int):=by simpa using g
  refine az (j5 hb p5 (by omega)) λq ⟨q1,q2,q3,_,q5⟩=>?_
  refine az (pm hb q5 (by omega) (by simp)) λw ⟨_,w2⟩=>?_
  obtain⟨j,hj⟩:=fZ q1
  have hlt:j<z.1.length:=by
   rcases dQ 1 k with h|h
   ·have:=q3 (by omega);omega
   ·have:=q2 (by omega);omega
  rw[hj];exact bG hlt (am ⟨by show(z.1.set _ _).length<=_;rw[L7];omega,w2.mono (by omega)⟩)
 rintro(x|y) hx
 ·exact am hx
 exact am hx
def pI(s:ByteArray):List Int:=s.data.toList.map λb=>(b.toNat:Int)
def CZ(s:ByteArray):(pI s).length=s.size:=by
 show(s.data.toList.map _).length=s.data.size;rw[HJ,xI]
def zxp(s:ByteArray):∀x∈pI s,0<=x/\x<=255:=by
 intro x hx;obtain⟨b,_,rfl⟩:=jU.1 hx;have:=b.toNat_lt;omega
def zDq(h:k<s.size):xX s (k:Int)=J ((pI s)[k]'(by rw[CZ];exact h)):=by
 have h2:k<s.data.size:=h;simp[xX,pI,h];rfl
def zxf(s:ByteArray)(l:List Int)(hs:s.size<=1000000)(hl:l.length<=1000000000000):LP s l=J ((s.size:Int)::pI s++l):=by
 unfold LP;refine bH (az (ψ:=λx=>x=(s.size:Int)::pI s) (ll s.size (λn p=>n<=s.size/\p=((s.size:Int)::(pI s).take n,(n:Int))) ⟨by omega,by simp⟩ ?_ ?_) ?_)
 ·rintro n p hn ⟨_,rfl⟩;have UR:n<(pI s).length:=by rw[CZ];exact hn
  have hb:=zxp s _ (fm UR);refine aZ (λ_=>?_) λh=>absurd h (by simp;omega)
  refine ag (zDq hn) (aI ?_ (am ⟨by omega,?_⟩))
  ·simp only[d5,nO,CZ];omega
  show((s.size:Int)::(pI s).take n++[_],_)=_;rw[aK (by omega) (by omega),aK (by omega) (by omega),uJ,a1y UR];rfl
 ·rintro p ⟨_,rfl⟩;refine aZ (λh=>absurd h (by simp)) λ_=>am ?_
  show(s.size:Int)::(pI s).take s.size=_;rw[L5 (by rw[CZ];omega)]
 rintro _ rfl;refine aI ?_ (am rfl);simp only[d5,CZ];omega
def zwC(s:ByteArray)(l:List Int)(hs:s.size<=1000000)(hl:l.length<=1000000000000):PH s l=J ((s.size:Int)::pI s++l):=zxf s l hs hl
def cI(x:Int):Bool:=decide (0<=x)&&decide (x<=4611686018427387903)
def jq :cI x=Z↔0<=x/\x<=4611686018427387903:=by simp[cI]
def zqe(x:Int):KU x=J (cI x):=by
 unfold KU;rw[tG];rfl
def zwn(x:Int):Kb x=J (cI x):=by
 unfold Kb;rw[sW];rfl
def zA1(s:ByteArray):(pI s).all cI=Z:=by
 rw[bm];intro x hx;have:=zxp s x hx;exact jq.2 ⟨by omega,by omega⟩
def BL(c s k:Int):Int:=(c*s+k+1)%2147483647
def tQ(p:Int×Int)(x:Int):Int×Int:=(BL 48271 (BL 48271 p.1 (x%2147483648)) (x/2147483648),BL 69621 (BL 69621 p.2 (x%2147483648)) (x/2147483648))
def Hv(l:List Int):Int:=let p:=(((l.length:Int)::l).foldl tQ (1,2));p.1*2147483648+p.2
def G7(c s k:Int):0<=BL c s k/\BL c s k<=2147483646:=by unfold BL;omega
def zK{c s k:Int}(hc:c=48271\/c=69621)(hs:0<=s/\s<=2147483646)(hk:0<=k/\k<=2147483648):(i64.wrap ((i64.wrap ((i64.wrap (c*s))+k))+1)).tmod 2147483647=BL c s k:=by
 rcases hc with rfl|rfl
 ·rw[aK (n:=48271*s) (by omega) (by omega),aK (n:=48271*s+k) (by omega) (by omega),aK (by omega) (by omega),jx (by omega)];rfl
 rw[aK (n:=69621*s) (by omega) (by omega),aK (n:=69621*s+k) (by omega) (by omega),aK (by omega) (by omega),jx (by omega)];rfl
def Pp(p:Int×Int):Prop:=(0<=p.1/\p.1<=2147483646)/\(0<=p.2/\p.2<=2147483646)
def zBD(p:Int×Int)(x:Int):Pp (tQ p x):=⟨G7 _ _ _,G7 _ _ _⟩
theorem GS:∀(l:List Int) (p:Int×Int),Pp p->Pp (l.foldl tQ p)
 |[],_,h=>h
 |x::l,p,_=>GS l _ (zBD p x)
def zxP(l:List Int):cI (Hv l)=Z:=by
 obtain⟨h1,h2⟩:=GS ((l.length:Int)::l) (1,2) ⟨by decide,by decide⟩;refine jq.2 ?_;unfold Hv;dsimp only;omega
def Yi{p:Int×Int}(hp:Pp p)(hx:cI x=Z):FI p.1 p.2 x=J (tQ p x):=by
 obtain⟨h1,h2⟩:=hp;have hx:=jq.1 hx;have e1:x.tmod 2147483648=x%2147483648:=jx hx.1
 have e2:i64.wrap (x.tdiv 2147483648)=x/2147483648:=by
  rw[V8 hx.1,aK (by omega) (by omega)]
 have b1:0<=x%2147483648/\x%2147483648<=2147483648:=by omega
 have b2:0<=x/2147483648/\x/2147483648<=2147483648:=by omega
 have h0:ix [x%2147483648,x/2147483648] 0=J (x%2147483648):=rfl;have ki:ix [x%2147483648,x/2147483648] 1=J (x/2147483648):=rfl;unfold FI;rw[e1,e2,aS,PT];simp only[d5,iz,show decide ((0:Int)<((0+1+1:Nat):Int))=Z from rfl,e9,h0,aS,zK (.inl rfl) h1 b1,zK (.inr rfl) h2 b1];rw[PT];simp only[show i64.wrap (0+1)=1 from rfl,show decide ((1:Int)<((0+1+1:Nat):Int))=Z from rfl,e9,ki,aS,zK (.inl rfl) (G7 _ _ _) b2,zK (.inr rfl) (G7 _ _ _) b2];rw[PT];simp only[show i64.wrap (1+1)=2 from rfl,show decide ((2:Int)<((0+1+1:Nat):Int))=aa from rfl,qH,my,aS];rfl
def Ze(h:l.all cI=Z)(hk:k<l.length):cI l[k]=Z:=bm.1 h _ (fm hk)
def zAK(hl:l.length<=1000000000000)(hd:l.all cI=Z):LQ l=J (Hv l):=by
 unfold LQ;have e0:=Yi (p:=(1,2)) (x:=(l.length:Int)) ⟨by decide,by decide⟩ (jq.2 ⟨by omega,by omega⟩);refine bH (ag e0 (az (ψ:=λp=>p=((l.length:Int)::l).foldl tQ (1,2)) (eo (λn p=>p=((l.length:Int)::l.take n).foldl tQ (1,2)) rfl ?_ ?_) ?_))
 ·rintro n p hn rfl;refine bG hn (ag (Yi (GS _ _ ⟨by decide,by decide⟩) (Ze hd hn)) (am ?_));show tQ _ _=_;rw[<-a1y hn,<-uJ,HO];rfl
 ·rintro p rfl;show(((l.length:Int)::l.take l.length).foldl tQ (1,2))=_;rw[gw]
 rintro p rfl;obtain⟨h1,h2⟩:=GS ((l.length:Int)::l) (1,2) ⟨by decide,by decide⟩;refine am ?_;rw[aK (n:=_*2147483648) (by omega) (by omega),aK (by omega) (by omega)];rfl
def zyS(hx:cI x=Z):i64.wrap (BitVec.ofInt IntKind.i64.bits x&&&BitVec.ofInt IntKind.i64.bits 2147483647).toNat=x%2147483648:=by
 have hx:=jq.1 hx;obtain⟨n,rfl⟩:=fZ hx.1
 have h1:(BitVec.ofInt IntKind.i64.bits ((n:Nat):Int)&&&BitVec.ofInt IntKind.i64.bits 2147483647).toNat=n%2147483648:=by
  rw[a1q]
  have a1:(BitVec.ofInt IntKind.i64.bits (n:Int)).toNat=n:=by
   rw[BitVec.toNat_ofInt];have:IntKind.i64.bits=64:=rfl;rw[this];omega
  have a2:(BitVec.ofInt IntKind.i64.bits 2147483647).toNat=2^31-1:=by decide
  rw[a1,a2,Nat.and_two_pow_sub_one_eq_mod]
 rw[h1,aK (by omega) (by omega)];omega
def zC2(hl:l.length<=1000000000000)(hd:l.all cI=Z):Kh l=J (Hv l):=by
 unfold Kh
 have lv:((l.length:Int)::l).all cI=Z:=by
  rw[zD,hd,B2];exact jq.2 ⟨by omega,by omega⟩
 refine bH (aI (by simp only[d5,iz];omega) (ag rfl (az (ψ:=λp=>p=((l.length:Int)::l).foldl tQ (1,2)) (eo (λn p=>p=(((l.length:Int)::l).take n).foldl tQ (1,2)) rfl ?_ ?_) ?_)))
 ·rintro n p hn rfl;have ok:=GS ((((l.length:Int)::l)).take n) (1,2) ⟨by decide,by decide⟩;have dg:=Ze lv hn;have b:=jq.1 dg;have ef:(((l.length:Int)::l)[n]).fdiv 2147483648=((l.length:Int)::l)[n]/2147483648:=a1r _ (by omega);have J9:n<((l.length:Int)::l).length:=hn;refine bG hn (am ?_);show(_,_)=_;simp only[a1j]
  rw[zyS dg,ef,zK (.inl rfl) ok.1 (by omega),zK (.inr rfl) ok.2 (by omega),zK (.inl rfl) (G7 _ _ _) (by omega),zK (.inr rfl) (G7 _ _ _) (by omega),
   <-a1y J9,HO]
  rfl
 ·rintro p rfl;show((((l.length:Int)::l).take ([(l.length:Int)]++l).length).foldl tQ (1,2))=_;rw[a1j,gw]
 rintro p rfl;obtain⟨h1,h2⟩:=GS ((l.length:Int)::l) (1,2) ⟨by decide,by decide⟩;refine am ?_;rw[aK (n:=_*2147483648) (by omega) (by omega),aK (by omega) (by omega)];rfl
def tw(s:ByteArray)(l:List Int):Int:=Hv ((s.size:Int)::pI s++l)
def To(s:ByteArray)(l:List Int):cI (tw s l)=Z:=zxP _
def qU(s:ByteArray)(l:List Int):Bool:=decide (s.size<=40)&&decide (1+s.size+l.length<=400)&&l.all cI
def Yv(hs:s.size<=1000000):((s.size:Int)::pI s++l).all cI=l.all cI:=by
 rw[uJ,zD,kQ,zA1,jq.2 ⟨by omega,by omega⟩,ig,ig]
def Xr(hs:s.size<=1000000)(hl:l.length<=100000000000)(hd:l.all cI=Z):Fh s l=J (tw s l):=by
 unfold Fh;rw[zxf s l hs (by omega),aS,zAK (by simp[CZ];omega) (by rw[Yv hs];exact hd)];rfl
def ztL(l:List Int):Kd l=J (decide (l.length<=400)&&l.all cI):=by
 unfold Kd
 have h1:Hm l=J (l.all cI):=P9 (f:=Cw) λx _=>by
  unfold Cw;rw[zqe];rfl
 rw[h1];by_cases h:l.length<=400
 ·rw[aD (by simp;omega)];simp[h]
 rw[aB (by simp;omega)];simp[h]
def zwI(l:List Int):I4 l=J (if(decide (l.length<=400)&&l.all cI)=Z then(Hv l,Z)else(0,aa)):=by
 unfold I4;rw[ztL,aS];cases h:(decide (l.length<=400)&&l.all cI)with
 |true=>
  simp only[bK,eO]at h;rw[zC2 (by omega) h.2];rfl
 |false=>rfl
def Xg(s:ByteArray)(l:List Int):DO s l=J (if qU s l=Z then(tw s l,Z)else(0,aa)):=by
 unfold DO;by_cases h1:s.size<=40
 ·by_cases h2:l.length<=400
  ·rw[aB (by simp;omega),aS,aB (by simp;omega),zwC s l (by omega) (by omega),aS,zwI,Yv (by omega)];have e:((s.size:Int)::pI s++l).length=1+s.size+l.length:=by simp[CZ];omega
   rw[e];have e2:qU s l=(decide (1+s.size+l.length<=400)&&l.all cI):=by simp[qU,h1]
   rw[e2];cases decide (1+s.size+l.length<=400)<;>cases l.all cI<;>rfl
  rw[aB (by simp;omega),aS,aD (by simp;omega)]
  have:qU s l=aa:=by
   have:¬1+s.size+l.length<=400:=by omega
   simp[qU,this]
  rw[this];rfl
 rw[aD (by simp;omega),aS,aD rfl];have:qU s l=aa:=by simp[qU,h1]
 rw[this];rfl
theorem Yd{p:Nat}(hp:Pr p){b:Nat}(h1:1<=b)(h2:b<p):∀e:Nat,b^e%p≠0
 |0=>by
  have:=hp.1;rw[Wb,oA (by omega)];omega
 |e+1=>λh=>by
  have hb:((b^e:Nat):Int)%(p:Int)=0\/(b:Int)%(p:Int)=0:=FQ hp (by
   rw[<-Eu,<-Nat.pow_succ,<-pN,h];rfl)
  rcases hb with h3|h3
  ·exact Yd hp h1 h2 e (by rw[<-pN]at h3;omega)
  ·rw[<-pN,oA h2]at h3;omega
def Ab(gr:an)(s:ByteArray)(k c:Int):Int:=1+tw s [gr.P,gr.Q,gr.G,k,c]%(gr.P-1)
def k9(gr:an)(s:ByteArray)(k c:Int):Int:=(((Ab gr s k c).toNat^((gr.P-1)/gr.Q).toNat%gr.P.toNat:Nat):Int)
def TQ(k:ap gr)(s:ByteArray)(i c:Int):1<=Ab gr s i c/\Ab gr s i c<=gr.P-1:=by
 have hp:=k.p;have h1:=oC (tw s [gr.P,gr.Q,gr.G,i,c]) (show gr.P-1≠0 by omega);have h2:=tj (tw s [gr.P,gr.Q,gr.G,i,c]) (show 0<gr.P-1 by omega);unfold Ab;omega
def SY(k:ap gr)(s:ByteArray)(i c:Int):1<=k9 gr s i c/\k9 gr s i c<=gr.P-1:=by
 have hp:=k.p;have hx:=TQ k s i c;have h1:=Yd k.pp (b:=(Ab gr s i c).toNat) (by omega) (by omega) ((gr.P-1)/gr.Q).toNat;have h2:=nb ((Ab gr s i c).toNat^((gr.P-1)/gr.Q).toNat) (show 0<gr.P.toNat by omega);unfold k9;omega
def ZH(k:ap gr)(s:ByteArray)(i c:Int):
 n6 (i64.wrap (1+((tw s [gr.P,gr.Q,gr.G,i,c]).tmod (i64.wrap (gr.P-1))))) (i64.wrap ((i64.wrap (gr.P-1)).tdiv gr.Q)) gr.P=J (k9 gr s i c)/\
 l6 (i64.wrap (1+((tw s [gr.P,gr.Q,gr.G,i,c]).tmod (i64.wrap (gr.P-1))))) (i64.wrap ((i64.wrap (gr.P-1)).tdiv gr.Q)) gr.P=J (k9 gr s i c):=by
 have hp:=k.p;have hq:=k.q;have hd:=jq.1 (To s [gr.P,gr.Q,gr.G,i,c]);have hx:=TQ k s i c;have e1:i64.wrap (gr.P-1)=gr.P-1:=aK (by omega) (by omega)
 have e2:i64.wrap (1+((tw s [gr.P,gr.Q,gr.G,i,c]).tmod (gr.P-1)))=Ab gr s i c:=by
  rw[jx hd.1];unfold Ab at hx⊢;exact aK (by omega) (by omega)
 have h3:(gr.P-1)/gr.Q<=gr.P-1:=Int.ediv_le_self _ (by omega);have h4:0<=(gr.P-1)/gr.Q:=Int.ediv_nonneg (by omega) (by omega)
 have e3:i64.wrap ((gr.P-1).tdiv gr.Q)=(gr.P-1)/gr.Q:=by
  rw[V8 (by omega),aK (by omega) (by omega)]
 rw[e1,e2,e3];exact qy (by omega) (by omega) (by omega) (by omega) h4 (by omega)
def zu6(k:ap gr){c:Int}(hi:cI i=Z)(hc:0<=c/\c<=1000):[gr.P,gr.Q,gr.G,i,c].all cI=Z:=by
 have hp:=k.p;have hq:=k.q;have hg:=k.g;simp only[zD,L9,B2,bK];exact⟨jq.2 (by omega),jq.2 (by omega),jq.2 (by omega),hi,jq.2 (by omega)⟩
def oD(gr:an)(s:ByteArray)(i y:Int):Prop:=(∃c:Nat,c<1000/\y=k9 gr s i c/\k9 gr s i c≠1/\∀j:Nat,j<c->k9 gr s i j=1)\/(y=0/\∀j:Nat,j<1000->k9 gr s i j=1)
def Ib(k:ap gr)(h1:oD gr s i x)(h2:oD gr s i y):x=y:=by
 rcases h1 with⟨c,hc,rfl,h3,h4⟩|⟨rfl,h4⟩<;>rcases h2 with⟨d,hd,rfl,h5,h6⟩|⟨rfl,h6⟩
 ·rcases Nat.lt_trichotomy c d with h|h|h
  ·exact absurd (h6 c h) h3
  ·rw[h]
  exact absurd (h4 d h) h5
 ·exact absurd (h6 c hc) h3
 ·exact absurd (h4 d hd) h5
 rfl
def zBM(k:ap gr)(h1:oD gr s i x):0<=x/\x<=gr.P-1:=by
 have hp:=k.p;rcases h1 with⟨c,hc,rfl,h3,h4⟩|⟨rfl,h4⟩
 ·have:=SY k s i c;omega
 omega
def zwr(k:ap gr)(hs:s.size<=40)(hi:cI i=Z):Rn (Bv gr s i) (oD gr s i):=by
 have hp:=k.p;have hq:=k.q;unfold Bv
 refine az (ψ:=λx=>(x=.inl ()/\∀j:Nat,j<1000->k9 gr s i j=1)\/∃c:Nat,c<1000/\x=.inr (k9 gr s i c)/\k9 gr s i c≠1/\∀j:Nat,j<c->k9 gr s i j=1)
  (ll 1000 (λn p=>p=(n:Int)/\n<=1000/\∀j:Nat,j<n->k9 gr s i j=1) ⟨rfl,by omega,λj hj=>by omega⟩ ?_ ?_) ?_
 ·rintro n p hn ⟨rfl,_,hI⟩;refine aZ (λ_=>?_) λh=>absurd h (by simp;omega)
  refine ag (Xr (by omega) (by simp) (zu6 k hi (by omega))) (aI (by rw[aK (by omega) (by omega)];omega) (aI (by omega) (ag (ZH k s i n).2 (aZ (λh=>am (.inr ⟨n,hn,rfl,by simpa using h,hI⟩)) λh=>am ⟨by rw[aK (by omega) (by omega)];rfl,hn,λj hj=>?_⟩))));rcases dQ j n with h1|h1
  ·exact hI j h1
  have:j=n:=by omega
  subst this;simpa using h
 ·rintro p ⟨rfl,_,hI⟩;refine aZ (λh=>absurd h (by simp)) λ_=>am (.inl ⟨rfl,hI⟩)
 rintro x (⟨rfl,h⟩|⟨c,hc,rfl,h⟩)
 ·exact am (.inr ⟨rfl,h⟩)
 exact am (.inl ⟨c,hc,rfl,h⟩)
def zzi(k:ap gr)(hs:s.size<=40)(hi:cI i=Z):Rn (xZ gr s i) (λx=>oD gr s i x.1/\x.2=decide (0<x.1)):=by
 have hp:=k.p;have hq:=k.q;unfold xZ
 refine az (ψ:=λx=>(x=.inl ()/\∀j:Nat,j<1000->k9 gr s i j=1)\/∃c:Nat,c<1000/\x=.inr (k9 gr s i c,Z)/\k9 gr s i c≠1/\∀j:Nat,j<c->k9 gr s i j=1)
  (ll 1000 (λn p=>p=(n:Int)/\n<=1000/\∀j:Nat,j<n->k9 gr s i j=1) ⟨rfl,by omega,λj hj=>by omega⟩ ?_ ?_) ?_
 ·rintro n p hn ⟨rfl,_,hI⟩;refine aZ (λ_=>?_) λh=>absurd h (by simp;omega)
  have hl:qU s [gr.P,gr.Q,gr.G,i,(n:Int)]=Z:=by
   have:=zu6 k (i:=i) (c:=n) hi (by omega);simp only[qU,this,B2,d5,iz,bK,eO];omega
  have eh:DO s [gr.P,gr.Q,gr.G,i,(n:Int)]=J (tw s [gr.P,gr.Q,gr.G,i,(n:Int)],Z):=by rw[Xg,aD hl]
  refine ag eh (bw rfl (aI (by rw[aK (by omega) (by omega)];omega) (aI (by omega) (ag (ZH k s i n).1 (aZ (λh=>am (.inr ⟨n,hn,rfl,by simpa using h,hI⟩)) λh=>am ⟨by rw[aK (by omega) (by omega)];rfl,hn,λj hj=>?_⟩)))));rcases dQ j n with h1|h1
  ·exact hI j h1
  have:j=n:=by omega
  subst this;simpa using h
 ·rintro p ⟨rfl,_,hI⟩;refine aZ (λh=>absurd h (by simp)) λ_=>am (.inl ⟨rfl,hI⟩)
 rintro x (⟨rfl,h⟩|⟨c,hc,rfl,h⟩)
 ·exact am ⟨.inr ⟨rfl,h⟩,rfl⟩
 have:=SY k s i c;exact am ⟨.inl ⟨c,hc,rfl,h⟩,by symm;simp;omega⟩
def Fx(k:ap gr)(hs:s.size<=40)(hi:cI i=Z):∃y,Bv gr s i=J y/\xZ gr s i=J (y,decide (0<y))/\oD gr s i y:=by
 obtain⟨y,h1,h2⟩:=zwr k hs hi;obtain⟨⟨z,t⟩,h3,h4,h5⟩:=zzi k hs hi;refine⟨y,h1,?_,h2⟩;simp only at h4 h5;have:z=y:=Ib k h4 h2;subst this;rw[h3,h5]
def zuZ{α:Type}{R:Nat->α->Prop}{l:List α}{n:Nat}{z:α}(hl:l.length=n)(h:∀j (h:j<l.length),R j l[j])(hz:R n z):∀j (h:j<(l++[z]).length),R j (l++[z])[j]:=by
 intro j hj;rw[List.getElem_append];split
 ·exact h j _
 have hj:j<n+1:=by simpa[hl]using hj
 have e:j=n:=by omega
 subst e;simpa[hl]using hz
def Hq(gr:an)(n:Nat)(l:List Int):Prop:=l.length=n/\∀j (h:j<l.length),oD gr ⟨#[104,115]⟩ j l[j]
def zBL(k:ap gr){n:Nat}(hn:n<=24):∃b t,p8 gr (n:Int)=J (b,t)/\kO gr (n:Int)=J (b,t)/\
 (t=Z->oD gr ⟨#[104]⟩ 0 b.H/\0<b.H/\Hq gr n b.Hs/\∀x∈b.Hs,0<x):=by
 have hp:=k.p;obtain⟨y,hy1,FN,Ge⟩:=Fx k (s:=⟨#[104]⟩) (by decide) (i:=0) rfl;have d7:wP gr=Z:=MD.2 k;have D:∀m:Nat,m<24->∃z,Bv gr ⟨#[104,115]⟩ m=J z/\xZ gr ⟨#[104,115]⟩ m=J (z,decide (0<z))/\oD gr ⟨#[104,115]⟩ m z:=λm hm=>Fx k (by decide) (jq.2 ⟨by omega,by omega⟩)
 have S:Rn (I9 gr ⟨#[104,115]⟩ (n:Int)) (λx=>(x.2=Z/\Hq gr n x.1/\∀z∈x.1,0<z)\/(x=([],aa)/\∃m:Nat,m<n/\oD gr ⟨#[104,115]⟩ m 0)):=by
  unfold I9;refine az (ψ:=λb=>b=aa) ?_ ?_
  ·refine ag (Ja gr) (bw (by rw[d7];rfl) (bw rfl (ag (sW _ _ _) (am ?_))));simp;omega
  ·rintro _ rfl;refine bw rfl (az (ψ:=λx=>(∃l,x=.inl l/\Hq gr n l/\∀z∈l,0<z)\/(x=.inr ([],aa)/\∃m:Nat,m<n/\oD gr ⟨#[104,115]⟩ m 0)) (ll n (λm p=>p.2=(m:Int)/\m<=n/\Hq gr m p.1/\∀z∈p.1,0<z) ⟨rfl,by omega,⟨rfl,λj hj=>by simp at hj⟩,λz hz=>by simp at hz⟩ ?_ ?_) ?_)
   ·rintro m ⟨l,c⟩ hm ⟨h1,_,hD,rn⟩;simp only at h1 hD rn;subst h1;obtain⟨z,z1,z2,z3⟩:=D m (by omega);have zb:=zBM k z3;refine aZ (λ_=>?_) λh=>absurd h (by simp;omega)
    refine ag z1 (aZ (λh=>am (.inr ⟨rfl,m,hm,?_⟩)) λh=>aI ?_ (am ⟨?_,hm,⟨by simp[hD.1],zuZ hD.1 hD.2 z3⟩,λw hw=>?_⟩))
    ·have:z=0:=by simpa using h
     rw[<-this];exact z3
    ·have:=hD.1;simp only;omega
    ·show i64.wrap _=_;rw[aK (by omega) (by omega)];rfl
    ·rcases kj.1 hw with h1|h1
     ·exact rn w h1
     ·have:w=z:=by simpa using h1
      subst this;have:¬w=0:=by simpa using h
      omega
   ·rintro⟨l,_⟩ ⟨rfl,_,hD⟩;exact aZ (λh=>absurd h (by simp)) λ_=>am (.inl ⟨l,rfl,hD⟩)
   ·rintro x (⟨l,rfl,h⟩|⟨rfl,h⟩)
    ·exact am (.inl ⟨rfl,h⟩)
    ·exact am (.inr ⟨rfl,h⟩)
 have I:Rn (dP (σ:=Int×List Int×Bool×Int) (β:=Int×List Int×Bool) (λgL=>
 if decide (gL.2.2.2<(n:Int))=Z then(
 (xZ gr (⟨#[104,115]⟩:ByteArray) gL.2.2.2).bind λkd=>
 ((if gL.2.2.1=Z then(
 J kd.2)else(
 J aa):Option Bool).bind λri=>
 gd ((gL.2.1.length+1)*8<=140737488355328/\gL.2.1.length+1<=4611686018427387904)<|
 J (.go (gL.1,gL.2.1++[kd.1],ri,i64.wrap (gL.2.2.2+1)))))else(
 J (.out (gL.1,gL.2.1,gL.2.2.1)))) (y,[],Z,0)) (λx=>x.1=y/\Hq gr n x.2.1/\x.2.2=x.2.1.all (λz=>decide (0<z))):=by
  refine ll n (λm p=>p.1=y/\p.2.2.2=(m:Int)/\m<=n/\Hq gr m p.2.1/\p.2.2.1=p.2.1.all (λz=>decide (0<z))) ⟨rfl,rfl,by omega,⟨rfl,λj hj=>by simp at hj⟩,rfl⟩ ?_ ?_
  ·rintro m ⟨w,l,t,c⟩ hm ⟨h1,h2,_,hD,h3⟩;simp only at h1 h2 hD h3;subst h1 h2 h3;obtain⟨z,z1,z2,z3⟩:=D m (by omega);refine aZ (λ_=>?_) λh=>absurd h (by simp;omega)
   refine ag z2 (az (ψ:=λb=>b=(l.all (λz=>decide (0<z))&&decide (0<z))) (aZ (λh=>am ?_) λh=>am ?_) ?_)
   ·simp only at h;rw[h];rfl
   ·simp only at h;rw[h];rfl
   ·rintro _ rfl;refine aI (by have:=hD.1;dsimp only;omega) (am ⟨rfl,?_,hm,⟨by simp[hD.1],zuZ hD.1 hD.2 z3⟩,?_⟩)
    ·show i64.wrap ((m:Int)+1)=_;rw[aK (by omega) (by omega)];rfl
    ·show _=(l++[z]).all _;simp
  ·rintro⟨w,l,t,c⟩ ⟨h1,h2,_,hD,h3⟩;simp only at h1 h2 hD h3;subst h1 h2 h3;exact aZ (λh=>absurd h (by simp)) λ_=>am ⟨rfl,hD,rfl⟩
 obtain⟨⟨b,l,t⟩,i1,i2,i3,i4⟩:=I;simp only at i2 i3 i4;subst i2;obtain⟨⟨l2,t2⟩,s1,s2⟩:=S
 have E:t2=t/\(t=Z->l2=l/\∀z∈l,0<z):=by
  rcases s2 with⟨h1,h2,h3⟩|⟨h1,m,hm,h3⟩
  ·simp only at h1 h2 h3;have e:l2=l:=List.ext_getElem (h2.1.trans i3.1.symm) λj a c=>Ib k (h2.2 j a) (i3.2 j c)
   subst e;have:l2.all (λz=>decide (0<z))=Z:=by simpa using h3
   rw[this]at i4;exact⟨by rw[h1,i4],λ_=>⟨rfl,h3⟩⟩
  ·cases h1;have kR:m<l.length:=by rw[i3.1];exact hm
   have:l[m]=0:=Ib k (i3.2 m kR) h3
   have hf:l.all (λz=>decide (0<z))=aa:=by
    rw[zE];exact⟨l[m],fm kR,by simp[this]⟩
   rw[hf]at i4;exact⟨i4.symm,λh=>by rw[i4]at h;cases h⟩
 have S0:p8 gr (n:Int)=J (if(decide (0<b)&&t2)=Z then(⟨b,l2⟩,Z)else(⟨0,[]⟩,aa)):=by
  have hD:LB gr ⟨#[104]⟩ 0=J (b,decide (0<b)):=by
   unfold LB;rw[Ja,d7];simp only[aS,xK,qH,my];rw[aB (show¬(decide (40<(((⟨#[104]⟩:ByteArray).size:Nat):Int))=Z)by decide),zwn,aS,aS,aB (by decide),hy1,aS]
  unfold p8;rw[Ja,d7];simp only[aS,xK,qH,my];rw[sW,aS,aS,aB (by simp;omega),hD,aS,s1,aS];cases decide (0<b)<;>cases t2<;>rfl
 have I0:kO gr (n:Int)=J (if(decide (0<b)&&t)=Z then(⟨b,l⟩,Z)else(⟨0,[]⟩,aa)):=by
  unfold kO;rw[FN,aS,i1,aS];cases decide (0<b)<;>cases t<;>rfl
 obtain⟨rfl,E2⟩:=E;cases hb:(decide (0<b)&&t2)with
 |false=>
  rw[hb]at S0 I0;exact⟨_,_,S0,I0,λh=>by cases h⟩
 |true=>
  rw[hb]at S0 I0;simp only[bK,eO]at hb;obtain⟨rfl,rn⟩:=E2 hb.2;exact⟨_,_,S0,I0,λ_=>⟨Ge,hb.1,i3,rn⟩⟩
def zCZ{α β γ:Type}{l:List α}{f:α->β}{body:Int->List β->Option (fO (List β) γ)}{stop:List β->γ}(a0:List β)(hs:∀k (h:k<l.length) (s:List β),s.length=a0.length+k->body (k:Int) s=J (.go (s++[f l[k]]))):
 aU body stop l.length 0 a0=J (stop (a0++l.map f)):=by
 refine bH (eo (λk s=>s=a0++(l.take k).map f/\k<=l.length) ⟨by simp,by omega⟩ ?_ ?_)
 ·rintro k s hk ⟨rfl,_⟩;refine⟨_,hs k hk _ (by simp;omega),?_,hk⟩;rw[jd hk,mz,ie];rfl
 rintro s ⟨rfl,_⟩;simp
def zC4{γ:Type}{m:Nat}(p:Nat->Bool)(c d:γ){body:Int->Unit->Option (fO Unit (Unit ⊕ γ))}(h:∀k,k<m->body (k:Int) ()=J (if p k=Z then .go ()else .out (.inr c))):
 (aU body (λ_=>.inl ()) m 0 ()).bind (Sum.elim (λ_=>J d) J)=J (if(List.range m).all p=Z then d else c):=by
 rcases JI (body:=body) m p (λ_=>c) h with⟨e,h1⟩|⟨k,h1,h2,h3,e⟩
 ·have:(List.range m).all p=Z:=by
   rw[bm];intro x hx;exact h1 x (kP.1 hx)
  rw[e,this];rfl
 have:(List.range m).all p=aa:=by
  rw[zE];exact⟨k,kP.2 h1,by simp[h2]⟩
 rw[e,this];rfl
def dh(a b x:Int):Bool:=decide (a<=x)&&decide (x<=b)
def Yn :dh a b x=Z↔a<=x/\x<=b:=by simp[dh]
def UD(a b:Bool):(if a=Z then J b else J aa)=J (a&&b):=by cases a<;>rfl
def zBV(hl:l.length<=1000000000000):MC l=J (oE l):=Za zvm l hl
def Pl(h:l.length<=1048576):DL l=J l:=eV (by omega)
def zBK(h:l.length<=1048576):vh l=J l:=eV (by omega)
def E6{σ:Type}(f:Nat->σ->σ):Nat->σ->σ
 |0,s=>s
 |n+1,s=>f n (E6 f n s)
theorem Nv{σ:Type}{f:Nat->σ->σ}{I:Nat->σ->Prop}{s0:σ}(h0:I 0 s0){m:Nat}(h:∀k s,k<m->I k s->I (k+1) (f k s)):∀k,k<=m->I k (E6 f k s0)
 |0,_=>h0
 |k+1,hk=>h k _ (by omega) (Nv h0 h k (by omega))
def zDB{σ β:Type}{body:Int->σ->Option (fO σ β)}{stop:σ->β}{m:Nat}{s0:σ}(f:Nat->σ->σ)(I:Nat->σ->Prop)(h0:I 0 s0)(hi:∀k s,k<m->I k s->I (k+1) (f k s))(hs:∀k s,k<m->I k s->body (k:Int) s=J (.go (f k s))):
 aU body stop m 0 s0=J (stop (E6 f m s0)):=by
 refine bH (eo (λk s=>s=E6 f k s0/\k<=m) ⟨rfl,by omega⟩ ?_ ?_)
 ·rintro k s hk ⟨rfl,_⟩;exact⟨_,hs k _ hk (Nv h0 hi k (by omega)),rfl,hk⟩
 rintro s ⟨rfl,_⟩;rfl
def QH{α:Type}{L:List (List α)}{i:Nat}(h:i<L.length):(L.take (i+1)).flatten=(L.take i).flatten++L[i]:=by
 rw[jd h,VW];simp
def X9{α:Type}(L:List (List α))(i:Nat):(L.take i).flatten.length<=L.flatten.length:=by
 have e:L.flatten=(L.take i).flatten++(L.drop i).flatten:=by rw[<-VW,EA]
 rw[e,bT];omega
def Gu(L:List (List Int))(h:L.flatten.length<=1000000000000):pW L=J L.flatten:=by
 unfold pW;refine bH (az (ψ:=λn=>n=(L.flatten.length:Int)) (eo (λi s=>s=((L.take i).flatten.length:Int)) rfl ?_ ?_) ?_)
 ·rintro i s hi rfl;have e:=gF List.length (QH hi);rw[bT]at e;have hl:=X9 L (i+1);refine bG hi ?_;rw[aK (by omega) (by omega)];refine bw (by simp only[xL];omega) (am ?_);show _=_;omega
 ·rintro s rfl;rw[gw]
 rintro n rfl;refine aI (by omega) (az (ψ:=λr=>r=L.flatten) (eo (λi s=>s=(L.take i).flatten) rfl ?_ ?_) λr hr=>am hr)
 ·rintro i s hi rfl;have e:=gF List.length (QH hi);rw[bT]at e;have hl:=X9 L (i+1);refine bG hi (aI (by omega) (am ?_));show _=_;rw[QH hi]
 rintro s rfl;rw[gw]
def chG(gr:an)(s:ByteArray)(l:List Int):Int:=tw s ([gr.P,gr.Q,gr.G]++l)%gr.Q
def mF(k:ap gr)(s:ByteArray)(l:List Int):0<=chG gr s l/\chG gr s l<gr.Q:=by
 have:=k.q;exact⟨oC _ (by omega),tj _ (by omega)⟩
def Y5(k:ap gr) :([gr.P,gr.Q,gr.G]++l).all cI=l.all cI:=by
 have hp:=k.p;have hq:=k.q;have hg:=k.g;rw[kQ]
 have:[gr.P,gr.Q,gr.G].all cI=Z:=by
  simp only[zD,L9,B2,bK];exact⟨jq.2 (by omega),jq.2 (by omega),jq.2 (by omega)⟩
 rw[this,ig]
def MW(k:ap gr)(hs:s.size<=1000000)(hl:l.length<=10000000000)(hd:l.all cI=Z):qc gr s l=J (chG gr s l):=by
 have hq:=k.q;have hb:=jq.1 (To s ([gr.P,gr.Q,gr.G]++l));unfold qc;rw[eV (by simp only[d5,iz];omega),Xr hs (by simp only[bT,d5,iz];omega) (by rw[Y5 k];exact hd),aS,eV (by omega),jx hb.1];rfl
def Mi(k:ap gr)(s:ByteArray)(hl:l.length<=10000000000):m7 gr s l=J (if qU s ([gr.P,gr.Q,gr.G]++l)=Z then(chG gr s l,Z)else(0,aa)):=by
 have hq:=k.q;have hb:=jq.1 (To s ([gr.P,gr.Q,gr.G]++l));unfold m7;rw[eV (by simp only[d5,iz];omega),Xg,aS];cases qU s ([gr.P,gr.Q,gr.G]++l)with
 |false=>rfl
 |true=>
  simp only[e9,xK,qH,my];rw[eV (by omega),jx hb.1];rfl
def NC(k:ap gr)(hs:s.size<=40)(hl:4+s.size+l.length<=400)(hd:l.all cI=Z):qU s ([gr.P,gr.Q,gr.G]++l)=Z:=by
 unfold qU;rw[Y5 k,hd,B2,bK,eO,eO];simp only[bT,d5,iz];omega
def pA(k:ap gr)(h:l.all (aM gr)=Z):l.all cI=Z:=by
 have hp:=k.p;rw[bm]at h⊢;intro x hx;have:=rE (h x hx);exact jq.2 (by omega)
def zaQ(gr:an):List Int->List Int->Int->Int
 |x::l,e::m,o=>zaQ gr l m (o*ay gr x e%gr.P)
 |_,_,o=>o
theorem Pq(gr:an):∀(l m:List Int) (x e o:Int),l.length=m.length->zaQ gr (l++[x]) (m++[e]) o=zaQ gr l m o*ay gr x e%gr.P
 |[],[],x,e,o,_=>rfl
 |y::l,f::m,x,e,o,h=>Pq gr l m x e _ (by simpa using h)
theorem QL(gr:an):∀(l m:List Int) (o:Int),zaQ gr l (m.take l.length) o=zaQ gr l m o
 |[],m,o=>by cases m<;>rfl
 |y::l,[],o=>rfl
 |y::l,f::m,o=>QL gr l m _
theorem Un{gr:an}(h:0<gr.P):∀(l m:List Int) (o:Int),0<=o/\o<gr.P->0<=zaQ gr l m o/\zaQ gr l m o<gr.P
 |x::l,e::m,o,_=>Un h l m _ ⟨oC _ (by omega),tj _ h⟩
 |[],_,o,ho=>ho
 |_::_,[],o,ho=>ho
def JO(k:ap gr)(hx:0<=x/\x<gr.P)(hy:0<=y):aQ gr [x,y]=x*y%gr.P:=by
 have hp:=k.p;simp only[aQ,Qc,List.foldl_nil,Wp];rw[qM hx.1 hx.2]
def pe(k:ap gr)(hl:∀x∈l,0<=x/\x<=2000000000)(hm:l.length<=m.length):lR gr l m=J (zaQ gr l m 1):=by
 have hp:=k.p;unfold lR;refine bH (az (ψ:=λb=>b=zaQ gr l m 1) (eo (λi s=>s=zaQ gr (l.take i) (m.take i) 1) rfl ?_ ?_) λb hb=>am hb)
 ·rintro i s hi rfl;have bd:=Un (gr:=gr) (by omega) (l.take i) (m.take i) 1 (by omega);have hx:=hl l[i] (fm hi);have pb:=BQ k l[i] (m[i]'(by omega));refine bG hi (bG (show i<m.length by omega) (ag (zC0 k hx.1 hx.2 _) (aI (by omega) (am ?_))));show _=zaQ gr (l.take (i+1)) (m.take (i+1)) 1;rw[jd hi,jd (show i<m.length by omega),Pq _ _ _ _ _ _ (by simp;omega)];have b1:=tn bd.1 pb.1;have b2:zaQ gr (l.take i) (m.take i) 1*ay gr l[i] (m[i]'(by omega))<=2000000000*2000000000:=xN (by omega) (by omega) pb.1 (by omega);rw[aK (by omega) (by omega),jx b1]
 rintro s rfl;rw[gw,QL]
def oY(k:ap gr)(hl:∀x∈l,0<=x/\x<=2000000000)(hm:l.length<=m.length):mf gr l m=J (zaQ gr l m 1):=by
 have hp:=k.p;unfold mf;refine bH (az (ψ:=λb=>b=zaQ gr l m 1) (eo (λi s=>s=zaQ gr (l.take i) (m.take i) 1) rfl ?_ ?_) λb hb=>am hb)
 ·rintro i s hi rfl;have bd:=Un (gr:=gr) (by omega) (l.take i) (m.take i) 1 (by omega);have hx:=hl l[i] (fm hi);have pb:=BQ k l[i] (m[i]'(by omega));refine bG hi (bG (show i<m.length by omega) (ag (G3 k hx.1 hx.2 _).1 (ag (BA k ?_) (am ?_))))
  ·intro y hy;simp only[f6,jy,jz]at hy;rcases hy with rfl|rfl<;>omega
  show _=zaQ gr (l.take (i+1)) (m.take (i+1)) 1;rw[jd hi,jd (show i<m.length by omega),Pq _ _ _ _ _ _ (by simp;omega),JO k bd pb.1]
 rintro s rfl;rw[gw,QL]
structure a0c (gr:an) (bs:List (List Int)):Prop where
 n:1<=bs.length/\bs.length<=8
 m:1<=(bs.headD []).length/\(bs.headD []).length<=8
 r:∀r∈bs,r.length=(bs.headD []).length/\r.all (aM gr)=Z
def a0c.AJ(k:ap gr){bs:List (List Int)}(h:a0c gr bs):bs.flatten.all cI=Z:=by
 rw[bm];intro x hx;obtain⟨r,hr,hx⟩:=LZ.1 hx;exact bm.1 (pA k (h.r r hr).2) x hx
def zAP(k:ap gr)(h:l.all (aM gr)=Z):∀x∈l,0<=x/\x<=2000000000:=λx hx=>by
 have hp:=k.p;have:=rE (bm.1 h x hx);omega
def om(k:ap gr):aM gr gr.G=Z:=by
 have hg:=k.g;simp only[aM,bK,eO];exact⟨by omega,k.o⟩
def dq(l:List Int):List Int:=(l.length:Int)::l
def ja(p:cb):List Int:=dq p.aE++dq p.aW++dq p.aG
def HT(h:l.length<=10000000):xO l=J (dq l):=by
 unfold xO;rw[eV (by simp;omega)];rfl
def e7(l:List Int):Bool:=decide ((l.length:Int)<=400)&&l.all cI
def Ix(l:List Int):zU l=J (e7 l):=by
 unfold zU
 have h1:Hm l=J (l.all cI):=P9 (f:=Cw) λx _=>by
  unfold Cw;rw[zqe];rfl
 rw[h1,aS,UD];rfl
def MM(l:List Int):Bs l=J (if e7 l=Z then(l,Z)else([],aa)):=by
 unfold Bs;rw[Ix];cases e7 l<;>rfl
def zrR{p:cb}(h1:p.aE.length<=1048576)(h2:p.aW.length<=1048576)(h3:p.aG.length<=1048576):Im p=J (if e7 (ja p)=Z then(ja p,Z)else([],aa)):=by
 have e:[dq p.aE,dq p.aW,dq p.aG].flatten=ja p:=by simp[ja]
 unfold Im;rw[HT (by omega),aS,HT (by omega),aS,HT (by omega),aS,Gu _ (by rw[e];simp[ja,dq];omega),aS,e,MM];cases e7 (ja p)<;>rfl
def zCA{β γ:Type}{n:Nat}{f:Nat->β}{body:Int->List β->Option (fO (List β) γ)}{stop:List β->γ}(hs:∀k (s:List β),k<n->s.length=k->body (k:Int) s=J (.go (s++[f k]))):
 aU body stop n 0 []=J (stop ((List.range n).map f)):=by
 refine bH (eo (λk s=>s=(List.range k).map f) rfl ?_ ?_)
 ·rintro k s hk rfl;refine⟨_,hs k _ hk (by simp),?_⟩;show _=_;rw[nc,mz];rfl
 rintro s rfl;rfl
def zFS{α:Type}(f:α->Int)(L:List α)(T:Nat):List α:=(List.range T).flatMap λi=>L.filter λe=>f e==((i+1:Nat):Int)
def Mz(k:ap gr)(ha:0<=a):ay gr gr.G a=((gr.G.toNat^a.toNat%gr.P.toNat:Nat):Int):=by
 have hq:=k.q;obtain⟨n,rfl⟩:=fZ ha;obtain⟨q,hQ⟩:=fZ (show 0<=gr.Q by omega);unfold ay;have ho:=k.o;rw[hQ]at ho⊢;rw[dL]at ho;rw[<-pN,dL,dL,Le ho]
def zy0(k:ap gr)(ha:0<=a)(hb:0<=b):aQ gr [ay gr gr.G a,ay gr gr.G b]=ay gr gr.G (a+b):=by
 have hp:=k.p;obtain⟨P,hP⟩:=fZ (show 0<=gr.P by omega);have hx:=BQ k gr.G a;rw[JO k (by omega) (BQ k gr.G b).1,Mz k ha,Mz k hb,Mz k (by omega),hP];rw[<-Eu,<-pN,dL,<-uL,<-Qp,Int.toNat_add ha hb]
def zxx(k:ap gr):ay gr gr.G 0=1:=by
 have hp:=k.p;rw[Mz k (B1 0)];show((1%gr.P.toNat:Nat):Int)=1;rw[oA (by omega)];rfl
def zvB(x:Int)(h:a%gr.Q=b%gr.Q):ay gr x a=ay gr x b:=by
 unfold ay;rw[h]
def zBd :Ky l l=J Z:=by
 unfold Ky;refine bH (bw (by simp) (az (ψ:=λv=>v=.inl ()) (eo (λ_ _=>True) trivial ?_ λs _=>rfl) ?_))
 ·rintro k s hk _;exact bG hk (bG hk (bw (by simp) (am trivial)))
 rintro _ rfl;exact am rfl
structure Gb (gr:an):Prop where
 p:1<=gr.P/\gr.P<=2000000000
 q:1<=gr.Q/\gr.Q<=2000000000
 g:0<=gr.G/\gr.G<=2000000000
def Nz(p:cb):Prop:=p.aE.length<=1001/\p.aW.length<=1001/\p.aG.length<=1001
def YY{p:cb}(hb:Bt code)(h:Cu code n (c0,at_,dJ))(hn:n<=3000000000000000)(k:Gw gr)(hp:p.aE.length<=1000/\p.aW.length<=1000/\p.aG.length<=1000):
 Rn (Gd c0 at_ dJ gr p) (λz=>Nz z.1/\Cu code (n+12) z.2):=by
 unfold Gd;rw[Pl (l:=p.aE) (by omega),Pl (l:=p.aW) (by omega),Pl (l:=p.aG) (by omega)];simp only[aS];refine az (j5 hb h (by omega)) λz1 ⟨_,_,_,_,y1⟩=>?_
 have sp:Nz p:=⟨by omega,by omega,by omega⟩
 have pk:∀l:List Int,0<l.length->Rn (gW z1.2.1 z1.2.2.1 z1.2.2.2 (l.length:Int)) (λz=>(∃i:Nat,z.1=(i:Int)/\i<l.length)/\Cu code (n+4) z.2):=λl hl=>by
  obtain⟨v,v1,w0,w1,w2,_,w3⟩:=j5 (m:=(l.length:Int)) hb y1 (by omega);obtain⟨i,hi⟩:=fZ w0;refine⟨v,v1,⟨i,hi,?_⟩,w3.mono (by omega)⟩;rcases Int.lt_or_le 1 (l.length:Int)with g|g
  ·have:=w2 g;omega
  ·have:=w1 g;omega
 refine az (ψ:=λx=>match x with| .inl v=>Nz ⟨v.2.1,v.2.2.1,v.2.2.2⟩/\Cu code (n+12) v.1| .inr v=>Nz v.1/\Cu code (n+12) v.2) ?_ ?_
 ·refine aZ (λ_=>aZ (λg=>?_) λ_=>am ⟨sp,y1.mono (by omega)⟩) λ_=>?_
  ·have g:0<p.aG.length:=by simpa using g
   refine az (pk _ g) λz2 ⟨⟨i,e,hi⟩,y2⟩=>?_
   refine az (Yg hb y2 (by omega) k) λz3 ⟨_,_,y3⟩=>?_
   rw[e];exact bG hi (am ⟨⟨by show p.aE.length<=1001;omega,by show p.aW.length<=1001;omega,by show(p.aG.set _ _).length<=1001;simp;omega⟩,y3.mono (by omega)⟩)
  refine aZ (λ_=>aZ (λg=>?_) λ_=>am ⟨sp,y1.mono (by omega)⟩) λ_=>?_
  ·have g:0<p.aE.length:=by simpa using g
   refine az (pk _ g) λz2 ⟨⟨i,e,hi⟩,y2⟩=>?_
   refine az (Lv hb y2 (by omega) k) λz3 ⟨_,_,y3⟩=>?_
   rw[e];exact bG hi (am ⟨⟨by show(p.aE.set _ _).length<=1001;simp;omega,by show p.aW.length<=1001;omega,by show p.aG.length<=1001;omega⟩,y3.mono (by omega)⟩)
  refine aZ (λ_=>aZ (λg=>?_) λ_=>am ⟨sp,y1.mono (by omega)⟩) λ_=>?_
  ·have g:0<p.aW.length:=by simpa using g
   refine az (pk _ g) λz2 ⟨⟨i,e,hi⟩,y2⟩=>?_
   refine az (Yg hb y2 (by omega) k) λz3 ⟨_,_,y3⟩=>?_
   rw[e];exact bG hi (am ⟨⟨by show p.aE.length<=1001;omega,by show(p.aW.set _ _).length<=1001;simp;omega,by show p.aG.length<=1001;omega⟩,y3.mono (by omega)⟩)
  refine aZ (λ_=>aI (by omega) (am ⟨⟨by show p.aE.length<=1001;omega,by show p.aW.length<=1001;omega,by show(p.aG++[0]).length<=1001;simp;omega⟩,y1.mono (by omega)⟩)) λ_=>?_
  exact aZ (λ_=>am ⟨⟨by simp,by simp,by simp⟩,y1.mono (by omega)⟩) λ_=>am ⟨sp,y1.mono (by omega)⟩
 intro x hx;cases x with
 |inl v=>exact am hx
 |inr v=>exact am hx
def Gb.w(k:Gb gr):Gw gr:=by
 have a:=k.p;have b:=k.q;have c:=k.g;exact⟨by omega,by omega,by omega⟩
theorem zxl:∀{l v:List Int},l.Nodup->(∀x∈l,x∈v)->l.length<=v.length
 |[],v,_,_=>by simp
 |x::l,v,hn,hs=>by
  obtain⟨h1,h2⟩:=Wj.1 hn;have hx:=hs x (by simp);have:=zxl (l:=l) (v:=v.erase x) h2 λy hy=>(a5D (show y≠x from λe=>h1 (e▸hy))).2 (hs y (oB _ hy))
  rw[a5E hx]at this;have:=List.length_pos_of_mem hx;rw[d5];omega
def zvf :dx gr x=Z↔0<=x/\x<gr.Q:=by
 unfold dx;simp only[bK,eO];omega
def Fa(k:ap gr)(h:∀x∈l,aM gr x=Z):∀x∈l,0<=x/\x<=2000000000:=zAP k (bm.2 h)
def ml(k:ap gr)(v:Int):fa gr v=J (v%gr.Q):=by
 have hp:=k.p;have hq:=k.q;unfold fa;rw[Uw (by omega) (by omega)];rfl
def bZ{α:Type}{l:List α}{d:α}{i:Nat}(h:i<l.length):l.getD i d=l[i]:=by
 rw[nP,cJ h];rfl
def zzK{m:Nat}(hb:Bt code)(h:Cu code n (c0,at_,dJ))(hn:n<=8000000000000000)(hm:1<=m):Rn (gW c0 at_ dJ (m:Int)) (λz=>(∃i:Nat,z.1=(i:Int)/\i<m)/\Cu code (n+2) z.2):=by
 obtain⟨z,h1,h2,h3,h4,_,h5⟩:=j5 (m:=(m:Int)) hb h hn;obtain⟨i,hi⟩:=fZ h2;refine⟨z,h1,⟨i,hi,?_⟩,h5⟩;rcases dQ 1 m with h6|h6
 ·have:=h4 (by omega);omega
 have:=h3 (by omega);omega
def lp(k:Nat)(p:cb):Prop:=p.aE.length<=k/\p.aW.length<=k/\p.aG.length<=k
def R9(x:Int):Prop:=0<=x/\x<=2000000000
def d4(k:ap gr)(h:aM gr x=Z):R9 x:=by
 have:=rE h;have:=k.p;exact⟨by omega,by omega⟩
def bL(k:ap gr)(x e:Int):R9 (ay gr x e):=by
 have:=BQ k x e;have:=k.p;exact⟨by omega,by omega⟩
def Q9(hx:R9 x)(hy:R9 y):∀z∈[x,y],0<=z/\z<=2000000000:=by
 intro z hz;simp only[f6,jy,jz]at hz;rcases hz with rfl|rfl
 ·exact hx
 exact hy
def FK(k:ap gr)(h:∀x∈l,0<=x/\x<=2000000000):R9 (aQ gr l):=by
 have:=zAT k h;have:=k.p;exact⟨by omega,by omega⟩
def n0(k:ap gr)(hx:R9 x)(hy:R9 y):R9 (aQ gr [x,y]):=FK k (Q9 hx hy)
def zAF(h:∀x∈l,R9 x):l.all cI=Z:=bm.2 λx hx=>jq.2 ⟨(h x hx).1,by have:=(h x hx).2;omega⟩
def j8(k:ap gr)(hx:R9 x)(hy:R9 y):er gr [x,y]=J (aQ gr [x,y]):=BA k (Q9 hx hy)
def iV(k:ap gr)(hx:R9 x)(hy:R9 y):ej gr [x,y]=J (aQ gr [x,y]):=K1 k (Q9 hx hy)
def fA(k:ap gr)(hx:R9 x)(e:Int):cU gr x e=J (ay gr x e):=(G3 k hx.1 hx.2 e).1
def fo(k:ap gr)(hx:R9 x)(e:Int):cH gr x e=J (ay gr x e):=(G3 k hx.1 hx.2 e).2
def fU(k:ap gr):R9 gr.G:=d4 k (om k)
def Py(k:ap gr){n:Nat}(h0:n<gr.P.toNat)(h:n^gr.Q.toNat%gr.P.toNat=1):aM gr (n:Int)=Z:=by
 have hp:=k.p;have hq:=k.q
 have h1:1<=n:=by
  rcases V0 n with h2|h2
  ·rw[h2,Nat.zero_pow (by omega),Nat.zero_mod]at h;omega
  ·exact h2
 simp only[aM,bK,eO];exact⟨⟨by omega,by omega⟩,by rw[dL];exact h⟩
def kT(k:ap gr)(hx:aM gr x=Z)(e:Int):aM gr (ay gr x e)=Z:=by
 have hp:=k.p;refine Py k (nb _ (by omega)) ?_;rw[<-qL,<-pO,xJ,pO,qL,(F5 hx).2.2,HP,oA (by omega)]
def ru(k:ap gr)(hx:aM gr x=Z)(hy:aM gr y=Z):aM gr (aQ gr [x,y])=Z:=by
 have hp:=k.p;have bx:=rE hx;have by':=rE hy;rw[JO k ⟨by omega,by omega⟩ (by omega)];obtain⟨a,rfl⟩:=fZ (show 0<=x by omega);obtain⟨b,rfl⟩:=fZ (show 0<=y by omega);obtain⟨p,hP⟩:=fZ (show 0<=gr.P by omega);have h1:=(F5 hx).2.2;have h2:=(F5 hy).2.2;rw[dL]at h1 h2;have e:((a:Int)*(b:Int))%gr.P=((a*b%gr.P.toNat:Nat):Int):=by rw[hP,dL,pN,Eu]
 rw[e];refine Py k (nb _ (by omega)) ?_;rw[<-qL,Nat.mul_pow,uL,h1,h2,oA (by omega)]
def VR(k:ap gr):aM gr 1=Z:=by
 have hp:=k.p;exact Py (n:=1) k (by omega) (by rw[HP,oA (by omega)])
def Zl{p:Int}(h:a%p=b%p):(a-b)%p=0:=by rw[ti,h,Int.sub_self,Int.zero_emod]
def oX(l:List Int):Int:=l.foldr (· * ·) 1
def zzU(h:l.Perm m):oX l=oX m:=by
 induction h with
 |nil=>rfl
 |cons x _ ih=>show x*oX _=x*oX _;rw[ih]
 |swap x y l=>show y*(x*oX l)=x*(y*oX l);rw[<-Ma,<-Ma,a1z y x]
 |trans _ _ h1 h2=>rw[h1,h2]
theorem zu8:∀{l m:List Int},l.Nodup->(∀x∈l,x∈m)->m.length<=l.length->l.Perm m
 |[],m,_,_,h=>by rw[V4.1 (show m.length=0 by simpa using h)]
 |x::l,m,hn,hs,h=>by
  obtain⟨h1,h2⟩:=Wj.1 hn;have hx:=hs x (by simp);have hl:(m.erase x).length=m.length-1:=a5E hx
  have:=zu8 (l:=l) (m:=m.erase x) h2 (λy hy=>by
   have FN:=hs y (oB _ hy)
   exact(a5D (λe=>h1 (by rw[<-e];exact hy))).2 FN) (by rw[d5]at h;omega)
  exact(this.cons x).trans (List.perm_cons_erase hx).symm
theorem zuW{p a:Int}:∀l:List Int,oX (l.map λi=>(a*i)%p)%p=(a^l.length*oX l)%p
 |[]=>by simp[oX]
 |x::l=>by
  have ih:=zuW (p:=p) (a:=a) l;show((a*x)%p*oX (l.map λi=>(a*i)%p))%p=(a^(l.length+1)*(x*oX l))%p;rw[ng,eZ,ih,<-ng];congr 1;rw[a1w];grind
theorem zxt{p:Nat}(hp:Pr p)(h2:2<=p):∀{l:List Int},(∀x∈l,x%(p:Int)≠0)->oX l%(p:Int)≠0
 |[],_=>by show(1:Int)%(p:Int)≠0;rw[qM (by omega) (by omega)];omega
 |x::l,h=>λe=>by
  rcases FQ hp (a:=x) (b:=oX l) e with e|e
  ·exact h x (by simp) e
  ·exact zxt hp h2 (λy hy=>h y (oB _ hy)) e
def zDp(hp:Pr p)(h2:2<=p){a:Nat}(ha:1<=a)(hap:a<p):a^(p-1)%p=1:=by
 let L:List Int:=(List.range (p-1)).map λ(i:Nat)=>(i:Int)+1
 have hL:∀x,x∈L↔1<=x/\x<=(p:Int)-1:=by
  intro x;simp only[L,jU,kP];constructor
  ·rintro⟨i,hi,rfl⟩;omega
  ·rintro⟨h1,h2⟩;exact⟨(x-1).toNat,by omega,by omega⟩
 have hN:L.Nodup:=List.Pairwise.map _ (λa b (h:a≠b)=>by omega) List.nodup_range
 have inj:∀x∈L,∀y∈L,((a:Int)*x)%p=((a:Int)*y)%p->x=y:=by
  intro x hx y hy e;have hx:=(hL x).1 hx;have hy:=(hL y).1 hy
  have e2:((a:Int)*(x-y))%(p:Int)=0:=by
   rw[Int.mul_sub];exact Zl e
  rcases FQ hp e2 with e3|e3
  ·rw[qM (by omega) (by omega)]at e3;omega
  ·obtain⟨c,hc⟩:=Wl e3
   have:c=0:=by
    rcases Int.lt_trichotomy c 0 with h|h|h
    ·have:(p:Int)*c<=(p:Int)*(-1):=Wo (by omega) (by omega);omega
    ·exact h
    ·have:(p:Int)*1<=(p:Int)*c:=Wo (by omega) (by omega);omega
   rw[this,Int.mul_zero]at hc;omega
 have hM:(L.map λi=>((a:Int)*i)%(p:Int)).Perm L:=by
  refine zu8 ?_ ?_ (by simp)
  ·refine Wm.2 (a1x ?_ hN);intro x y hx hy hne e;exact hne (inj x hx y hy e)
  ·intro z hz;obtain⟨x,hx,rfl⟩:=jU.1 hz;refine(hL _).2 ?_;have h1:=oC ((a:Int)*x) (show(p:Int)≠0 by omega);have h3:=tj ((a:Int)*x) (show(0:Int)<p by omega)
   have:((a:Int)*x)%(p:Int)≠0:=λe=>by
    have hx:=(hL x).1 hx;rcases FQ hp e with e|e<;>rw[qM (by omega) (by omega)]at e<;>omega
   omega
 have h4:=zuW (p:=(p:Int)) (a:=(a:Int)) L;rw[zzU hM]at h4
 have hne:oX L%(p:Int)≠0:=zxt hp h2 λx hx=>by
  have hx:=(hL x).1 hx;rw[qM (by omega) (by omega)];omega
 have hlen:L.length=p-1:=by simp[L]
 rw[hlen]at h4
 have e5:(((a:Int)^(p-1)-1)*oX L)%(p:Int)=0:=by
  rw[Int.sub_mul,Wp];exact Zl h4.symm
 rcases FQ hp e5 with e|e
 ·obtain⟨c,hc⟩:=Wl e
  have e6:(a:Int)^(p-1)%(p:Int)=1:=by
   rw[show(a:Int)^(p-1)=1+(p:Int)*c by omega,HQ,qM (by omega) (by omega)]
  have:((a^(p-1)%p:Nat):Int)=1:=by rw[pN,Wn];exact e6
  omega
 exact absurd e hne
def zvs(k:ap gr)(h:oD gr s i y)(h0:0<y):aM gr y=Z:=by
 have hp:=k.p;have hq:=k.q;rcases h with⟨c,_,hy,_,_⟩|⟨hy,_⟩
 ·rw[hy];have hx:=TQ k s i c;refine Py k (nb _ (by omega)) ?_;rw[<-qL,<-pO]
  have e:((gr.P-1)/gr.Q).toNat*gr.Q.toNat=gr.P.toNat-1:=by
   obtain⟨P,hP⟩:=fZ (show 0<=gr.P-1 by omega);obtain⟨Q,hQ⟩:=fZ (show 0<=gr.Q by omega);have hd:=k.d;have hPn:gr.P.toNat-1=P:=by omega
   rw[hPn,hQ,dL]at hd;rw[hP,hQ,hPn,dL,<-Int.natCast_ediv,dL];exact Nat.div_mul_cancel (Wh hd)
  rw[e];exact zDp k.pp (by omega) (by omega) (by omega)
 omega
def AX(gr:an)(key:Int)(c:aq)(r:Int):aq:=⟨aQ gr [c.A,ay gr gr.G r],aQ gr [c.B,aQ gr [1,ay gr key r]]⟩
def zDn(k:ap gr)(hk:aM gr key=Z)(hc:ce gr c=Z)(r:Int):ce gr (AX gr key c r)=Z:=by
 simp only[ce,bK]at hc⊢;exact⟨ru k hc.1 (kT k (om k) r),ru k hc.2 (ru k (VR k) (kT k hk r))⟩
def WI(k:ap gr)(hx:0<=x/\x<gr.P):ej gr [1,x]=J x:=by
 have hp:=k.p;rw[iV k (x:=1) (y:=x) ⟨by omega,by omega⟩ ⟨by omega,by omega⟩,JO k ⟨by omega,by omega⟩ (by omega),Wp,qM hx.1 hx.2]
def zEG(k:ap gr)(hk:aM gr key=Z)(hc:ce gr c=Z)(r:Int):Hx gr key c r=J (AX gr key c r):=by
 have oZ:=hc;simp only[ce,bK]at oZ;unfold Hx;rw[(Zg k hk (VR k) r).1,aS];unfold Pu;rw[j8 k (d4 k oZ.1) (bL k _ _),aS,j8 k (d4 k oZ.2) (n0 k ⟨by omega,by omega⟩ (bL k _ _))];rfl
def zEr(k:ap gr)(hk:aM gr key=Z)(hc:ce gr c=Z)(r:Int):FX gr key c r=J (AX gr key c r):=by
 have oZ:=hc;simp only[ce,bK]at oZ;have hp:=k.p;have b1:=rE oZ.1;have b2:=rE oZ.2;unfold FX;rw[(Zg k hk (VR k) r).2,aS];unfold Mf;simp only[d5,iz,aU];have e0:∀{a b:aq},ix [a,b] 0=J a:=λ{a b}=>rfl
 have e1:∀{a b:aq},ix [a,b] (0+1)=J b:=λ{a b}=>rfl
 simp only[e0,e1,aS,WI k (x:=c.A) ⟨by omega,by omega⟩,WI k (x:=c.B) ⟨by omega,by omega⟩,iV k (d4 k oZ.1) (bL k _ _),iV k (d4 k oZ.2) (n0 k (x:=1) ⟨by omega,by omega⟩ (bL k _ _))];rfl
def uR(k:ap gr)(key:Int)(l:List aq):qw gr key l=J (aM gr key&&(dh 1 12 l.length&&l.all (ce gr))):=by
 unfold qw Jr;rw[Ja,MD.2 k,aS,aD rfl,zDR k];simp only[aS];cases aM gr key
 ·rfl
 simp only[aD,sW,aS,ig];show Option.bind (if dh 1 12 l.length=Z then _ else _) _=_;by_cases h:dh 1 12 l.length=Z
 ·rw[aD h,WC k,h];have h2:l.length<=24:=by simp only[dh,bK,eO]at h;omega
  simp[h2]
 rw[aB h];simp only[Bool.not_eq_true]at h;rw[h];rfl
def GZ(k:¬ap gr)(key:Int)(l:List aq):qw gr key l=J aa:=by
 unfold qw Jr;rw[Ja,o5 k,aS,aB (by simp)];rfl
def zp(k:ap gr)(l:List aq):Al gr l=J (dh 1 12 l.length&&l.all (ce gr)):=by
 unfold Al;rw[tG,aS];show Option.bind (if dh 1 12 l.length=Z then _ else _) _=_;by_cases h:dh 1 12 l.length=Z
 ·rw[aD h,ztN k,h];have h2:l.length<=24:=by simp only[dh,bK,eO]at h;omega
  simp[h2]
 rw[aB h];simp only[Bool.not_eq_true]at h;rw[h];rfl
noncomputable def d8(l:List Int):Bool:=l.all (dh 0 ((l.length:Int)-1))&&oE l
def Td(l:List Int)(m:Nat)(hm:m<=1000):Hy l (m:Int)=J (decide (l.length=m)&&d8 l):=by
 unfold Hy;by_cases h:l.length=m
 ·subst h;rw[aK (n:=(l.length:Int)-1) (by omega) (by omega),SI,zxq l (by omega)];simp only[a1A,e9,aS,decide_true,ig];show Option.bind (if l.all (dh 0 ((l.length:Int)-1))=Z then _ else _) _=_;unfold d8;cases l.all (dh 0 ((l.length:Int)-1))<;>rfl
 have h2:((l.length:Int)==(m:Int))=aa:=by simp;omega
 simp[h2,h]
def zzb(l:List Int):Ln l=J (decide (l.length<=24)&&d8 l):=by
 unfold Ln;by_cases h:l.length<=24
 ·have h2:decide ((l.length:Int)<=24)=Z:=by simp;omega
  rw[h2,aD rfl]
  have e:IA l l=J (l.all (dh 0 ((l.length:Int)-1))):=by
   unfold IA Mo Ps;refine P9 (p:=dh 0 ((l.length:Int)-1)) (f:=λx=>Ly x l) λx _=>?_
   unfold Ly NH;rw[aK (n:=(l.length:Int)-1) (by omega) (by omega),tG];rfl
  rw[e,zxW l (by omega)];unfold d8;cases l.all (dh 0 ((l.length:Int)-1))<;>simp[h]
 have h2:decide ((l.length:Int)<=24)=aa:=by simp;omega
 simp[h2,h]
def AO(k:ap gr){n:Nat}(hn:n<=24)(perm rs:List Int):B6 gr perm rs (n:Int)=J (decide (perm.length=n)&&d8 perm&&(decide (rs.length=n)&&rs.all (dx gr))):=by
 have hq:=k.q;have hp:=k.p;unfold B6;rw[zzb,ze (by omega) (by omega)];have e1:((perm.length:Int)==(n:Int))=decide (perm.length=n):=by by_cases h:perm.length=n<;>simp[h];omega
 have e2:((rs.length:Int)==(n:Int))=decide (rs.length=n):=by by_cases h:rs.length=n<;>simp[h];omega
 rw[e1,e2];by_cases h1:perm.length=n
 ·have Cb:decide (perm.length<=24)=Z:=by simp;omega
  rw[Cb];simp only[h1,decide_true,ig];cases d8 perm<;>by_cases h3:rs.length=n<;>simp[h3]
 simp only[h1,decide_false,a1i];cases (decide (perm.length<=24)&&d8 perm)<;>simp
def UZ(h:d8 l=Z){j:Int}(hj:0<=j/\j<l.length):j∈l:=by
 simp only[d8,bK,oE,eO,bm,dh]at h;refine Qq λhn=>?_
 have:=zxl (l:=j::l) (v:=(List.range l.length).map λ(i:Nat)=>(i:Int)) (Wj.2 ⟨hn,h.2⟩) (λx hx=>by
  simp only[jU,kP];rcases f6.1 hx with rfl|hx
  ·exact⟨x.toNat,by omega,by omega⟩
  ·have:=h.1 x hx;exact⟨x.toNat,by omega,by omega⟩)
 simp at this;omega
structure nD (gr:an) (key:Int) (l:List aq) (perm rs:List Int):Prop where
 key:aM gr key=Z
 n:1<=l.length/\l.length<=12
 c:∀x∈l,ce gr x=Z
 pl:perm.length=l.length
 pr:∀x∈perm,0<=x/\x<l.length
 pb:d8 perm=Z
 rl:rs.length=l.length
 re:rs.all (dx gr)=Z
def zEJ{l:List aq}:((aM gr key&&(dh 1 12 l.length&&l.all (ce gr)))&&(decide (perm.length=l.length)&&d8 perm&&(decide (rs.length=l.length)&&rs.all (dx gr))))=Z↔nD gr key l perm rs:=by
 constructor
 ·intro h;simp only[bK,eO,dh]at h;obtain⟨⟨h1,⟨h2,h3⟩,h4⟩,⟨h5,h6⟩,h7,h8⟩:=h;refine⟨h1,by omega,bm.1 h4,h5,λx hx=>?_,h6,h7,h8⟩;simp only[d8,bK]at h6;have:=bm.1 h6.1 x hx;simp only[dh,bK,eO]at this;omega
 intro h;simp only[bK,eO,dh];have:=h.n;exact⟨⟨h.key,⟨by omega,by omega⟩,bm.2 h.c⟩,⟨h.pl,h.pb⟩,h.rl,h.re⟩
def zaS(gr:an)(key:Int)(l:List aq)(perm rs:List Int):List aq:=(List.range perm.length).map λi=>AX gr key (l.getD (perm.getD i 0).toNat ⟨0,0⟩) (rs.getD i 0)
def ztq(k:ap gr){l:List aq}(m:nD gr key l perm rs)(E:aq->Int->Option aq)(hE:∀c r,ce gr c=Z->E c r=J (AX gr key c r)):aU (σ:=List aq) (λi5 s4=>
 (ix perm i5).bind λaN=>
 (ix l aN).bind λcC=>
 (ix rs i5).bind λfQ=>
 (E cC fQ).bind λdK=>
 gd ((s4.length+1)*16<=140737488355328/\s4.length+1<=4611686018427387904)<|
 J (.go (s4++[dK]))) (λs4=>s4) perm.length 0 []=J (zaS gr key l perm rs):=by
 have hn:=m.n;have dR:=m.pl;have fF:=m.rl;refine zCA (f:=λi=>AX gr key (l.getD (perm.getD i 0).toNat ⟨0,0⟩) (rs.getD i 0)) λi s hi hs=>?_
 have hx:=m.pr _ (fm hi);obtain⟨j,hj⟩:=fZ hx.1;have cE:j<l.length:=by omega
 rw[jO hi,aS,hj,jO cE,aS,jO (show i<rs.length by omega),aS,hE _ _ (m.c _ (fm cE)),aS,eV (by omega),bZ hi,hj,dL,bZ cE,bZ (show i<rs.length by omega)]
def Ui(k:ap gr){l:List aq}(m:nD gr key l perm rs):CC gr key l perm rs=J (zaS gr key l perm rs):=by
 unfold CC;rw[ztq k m (Hx gr key) λc r hc=>zEG k m.key hc r];rfl
def QB(k:ap gr){l:List aq}(m:nD gr key l perm rs):Em gr key l perm rs=J (zaS gr key l perm rs):=by
 unfold Em;rw[ztq k m (FX gr key) λc r hc=>zEr k m.key hc r];rfl
def k8(gr:an)(key:Int)(l:List aq)(perm rs:List Int):(zaS gr key l perm rs).length=perm.length:=by simp[zaS]
def v4(k:ap gr){l:List aq}(m:nD gr key l perm rs):∀c∈zaS gr key l perm rs,ce gr c=Z:=by
 intro c hc;obtain⟨i,hi,rfl⟩:=jU.1 hc;have hi:=kP.1 hi;refine zDn k m.key ?_ _;have hx:=m.pr _ (fm hi);rw[bZ hi,bZ (show(perm[i]).toNat<l.length by omega)];exact m.c _ (fm _)
structure sD (gr:an) (n:Nat) (b:cA):Prop where
 h:aM gr b.H=Z
 l:b.Hs.length=n
 s:∀x∈b.Hs,aM gr x=Z
def TU(k:ap gr){n:Nat}(hn:n<=24):∃b t,p8 gr (n:Int)=J (b,t)/\kO gr (n:Int)=J (b,t)/\(t=Z->sD gr n b):=by
 obtain⟨b,t,h1,h2,h3⟩:=zBL k hn;refine⟨b,t,h1,h2,λht=>?_⟩;obtain⟨c1,c2,c3,c4⟩:=h3 ht;refine⟨zvs k c1 c2,c3.1,λx hx=>?_⟩;obtain⟨j,hj,rfl⟩:=Qe hx;exact zvs k (c3.2 j hj) (c4 _ hx)
def tK(gr:an)(Hs perm ss:List Int)(i:Nat)(s:List Int):List Int:=s.set (perm.getD i 0).toNat (aQ gr [ay gr gr.G (ss.getD (perm.getD i 0).toNat 0),Hs.getD i 0])
def zeG(gr:an)(Hs perm ss:List Int):List Int:=E6 (tK gr Hs perm ss) perm.length (List.replicate perm.length 0)
def XG(k:ap gr){Hs:List Int}(hp:∀x∈perm,0<=x/\x<perm.length)(hs:ss.length=perm.length)(hH:Hs.length=perm.length)(hb:∀x∈Hs,aM gr x=Z)(P:Int->Int->Option Int)(M:List Int->Option Int)(hP:∀x e,R9 x->P x e=J (ay gr x e))(hM:∀x y,R9 x->R9 y->M [x,y]=J (aQ gr [x,y])):aU (σ:=(List Int)) (λmS du=>
 (ix perm mS).bind λfR=>
 (ix ss fR).bind λgi=>
 (ix Hs mS).bind λjo=>
 (P gr.G gi).bind λeX=>
 (M [eX,jo]).bind λfy=>
 (ix du fR).bind λnk=>
 J (.go (du.set fR.toNat fy))) (λdu=>du) perm.length 0 (List.replicate perm.length 0)=J (zeG gr Hs perm ss):=by
 refine zDB (tK gr Hs perm ss) (λ_ s=>s.length=perm.length) (by simp) (λi s _ h=>by simp[tK,h]) λi s hi h=>?_
 have hx:=hp _ (fm hi);obtain⟨j,hj⟩:=fZ hx.1;have cE:j<perm.length:=by omega
 have hc:=hb _ (fm (show i<Hs.length by omega));rw[jO hi,aS,hj,jO (show j<ss.length by omega),aS,jO (show i<Hs.length by omega),aS,hP _ _ (fU k),aS,hM _ _ (bL k _ _) (d4 k hc),aS,jO (show j<s.length by omega),aS];unfold tK;rw[bZ hi,hj,dL,bZ (show j<ss.length by omega),bZ (show i<Hs.length by omega)]
def zCE(k:ap gr){b:cA}(hp:∀x∈perm,0<=x/\x<perm.length)(hl:perm.length<=1000)(hs:ss.length=perm.length)(hb:sD gr perm.length b):Kf gr b perm ss=J (zeG gr b.Hs perm ss):=by
 unfold Kf;rw[eV (by omega),aS,XG k hp hs hb.l hb.s (cU gr) (er gr) (λx e hx=>fA k hx e) λx y hx hy=>j8 k hx hy];rfl
def zDu(k:ap gr){b:cA}(hp:∀x∈perm,0<=x/\x<perm.length)(hl:perm.length<=1000)(hs:ss.length=perm.length)(hb:sD gr perm.length b):Lm gr b perm ss=J (zeG gr b.Hs perm ss):=by
 unfold Lm;rw[eV (by omega),aS,XG k hp hs hb.l hb.s (cH gr) (ej gr) (λx e hx=>fo k hx e) λx y hx hy=>iV k hx hy];rfl
def zA7(k:ap gr){Hs:List Int}(hp:d8 perm=Z)(hH:Hs.length=perm.length)(hb:∀x∈Hs,aM gr x=Z):(zeG gr Hs perm ss).length=perm.length/\∀x∈zeG gr Hs perm ss,aM gr x=Z:=by
 have h:=Nv (f:=tK gr Hs perm ss) (I:=λm s=>s.length=perm.length/\∀i (hi:i<m) (fP:i<perm.length),aM gr (s.getD (perm[i]).toNat 0)=Z) (s0:=List.replicate perm.length 0) (m:=perm.length) ⟨by simp,λi hi=>by omega⟩ (λm s hm ⟨h1,h2⟩=>by
  refine⟨by simp[tK,h1],λi hi fP=>?_⟩;unfold tK;rw[bZ hm];by_cases e:(perm[m]).toNat=(perm[i]).toNat
  ·by_cases hlt:(perm[i]).toNat<s.length
   ·rw[e,nP,a5F hlt,xG];refine ru k (kT k (om k) _) ?_;rw[bZ (show m<Hs.length by omega)];exact hb _ (fm _)
   ·have hx:=bm.1 (bK _ _▸hp:perm.all _=Z/\oE perm=Z).1 _ (fm fP);simp only[dh,bK,eO]at hx;omega
  ·rw[nP,a5G e,<-nP];rcases dQ i m with h|h
   ·exact h2 i h fP
   ·have:i=m:=by omega
    subst this;exact absurd rfl e) perm.length (cB _)
 refine⟨h.1,λx hx=>?_⟩;obtain⟨j,hj,rfl⟩:=Qe hx;have EN:j<(zeG gr Hs perm ss).length:=hj;have hl:(zeG gr Hs perm ss).length=perm.length:=h.1;have hm:=UZ hp (j:=(j:Int)) ⟨by omega,by omega⟩;obtain⟨i,hi,he⟩:=Qe hm;have:=h.2 i hi hi;rw[he,dL]at this;have e:(E6 (tK gr Hs perm ss) perm.length (List.replicate perm.length 0)).getD j 0=(zeG gr Hs perm ss)[j]:=bZ EN
 rwa [e]at this
def hN(gr:an)(h:Int)(es ts:List Int):Nat->Int
 |0=>h
 |i+1=>aQ gr [ay gr gr.G (ts.getD i 0),ay gr (hN gr h es ts i) (es.getD i 0)]
theorem N1(k:ap gr)(hh:R9 h)(es ts:List Int):∀i,R9 (hN gr h es ts i)
 |0=>hh
 |i+1=>n0 k (bL k _ _) (bL k _ _)
theorem Ud{gr:an}(k:ap gr){h:Int}(hh:aM gr h=Z)(es ts:List Int):∀i,aM gr (hN gr h es ts i)=Z
 |0=>hh
 |i+1=>ru k (kT k (om k) _) (kT k (Ud k hh es ts i) _)
def zcr(gr:an)(h:Int)(es ts:List Int):List Int:=(List.range es.length).map λi=>hN gr h es ts (i+1)
def zDa(k:ap gr)(hh:R9 h){es ts:List Int}(hl:es.length<=1000)(ht:ts.length=es.length):Ii gr h es ts=J (zcr gr h es ts):=by
 unfold Ii;refine bH (az (ψ:=(· =zcr gr h es ts)) (eo (λi s=>s=(hN gr h es ts i,(List.range i).map λi=>hN gr h es ts (i+1))) rfl ?_ ?_) λx hx=>am hx)
 ·rintro i s hi rfl;refine bG hi (bG (show i<ts.length by omega) (ag (fA k (fU k) _) (ag (fA k (N1 k hh es ts i) _) (ag (j8 k (bL k _ _) (bL k _ _)) (aI (by simp;omega) (am ?_))))));show _=_;rw[nc,mz];simp only[jT,qI,hN,bZ hi,bZ (show i<ts.length by omega)]
 rintro s rfl;rfl
def zC7(k:ap gr){b:cA}(hh:R9 b.H){es ts:List Int}(hl:es.length<=1000)(ht:ts.length=es.length):JJ gr b es ts=J (zcr gr b.H es ts):=by
 unfold JJ;refine bH (az (ψ:=(· =zcr gr b.H es ts)) (eo (λi s=>s=((List.range i).map λi=>hN gr b.H es ts (i+1),hN gr b.H es ts i)) rfl ?_ ?_) λx hx=>am hx)
 ·rintro i s hi rfl;refine bG hi (bG (show i<ts.length by omega) (ag (fo k (fU k) _) (ag (fo k (N1 k hh es ts i) _) (ag (iV k (bL k _ _) (bL k _ _)) (aI (by simp;omega) (am ?_))))));show _=_;rw[nc,mz];simp only[jT,qI,hN,bZ hi,bZ (show i<ts.length by omega)]
 rintro s rfl;rfl
def o4(l:List aq):List Int:=l.flatMap λc=>[c.A,c.B]
def zdX(key:Int)(l out:List aq)(m:List Int):List Int:=key::(o4 l++(o4 out++m))
def Ki(l:List aq):(o4 l).length=2*l.length:=by
 induction l with
 |nil=>rfl
 |cons c l ih=>show([c.A,c.B]++o4 l).length=_;simp[ih];omega
def zA5(l:List aq)(c:aq):o4 (l++[c])=o4 l++[c.A,c.B]:=by simp[o4]
def zCG(l m:List aq):o4 (l++m)=o4 l++o4 m:=by simp[o4]
def Qu{l:List aq}(h0:List Int)(hl:l.length<=100000)(hh:h0.length<=1000000):aU (σ:=List Int) (λi5 s4=>
 (ix l i5).bind λaN=>
 gd ((s4.length+2)*8<=140737488355328/\s4.length+2<=4611686018427387904)<|
 J (.go (s4++[aN.A,aN.B]))) (λs4=>s4) l.length 0 h0=J (h0++o4 l):=by
 refine bH (eo (λi s=>s=h0++o4 (l.take i)) (by simp[o4]) ?_ ?_)
 ·rintro i s hi rfl;refine bG hi (aI ?_ (am ?_))
  ·rw[bT,Ki,nO];omega
  show _=_;rw[jd hi,zA5,ie]
 rintro s rfl;rw[gw]
def Gp{l:List aq}(h1:l.length<=1000)(h2:out.length<=1000)(h3:m.length<=1000000):qY key l out m=J (zdX key l out m):=by
 unfold qY M1;rw[eV (by omega),aS,eV (by omega),aS,Qu [key] (by simp;omega) (by simp),aS,eV (by simp[Ki];omega)];simp[zdX,zCG]
def Aq{l:List aq}(h1:l.length<=1000)(h2:out.length<=1000)(h3:m.length<=1000000):sC key l out m=J (zdX key l out m):=by
 unfold sC;rw[Qu [key] (by omega) (by simp),aS,Qu _ (by omega) (by simp[Ki];omega),aS,eV (by simp[Ki];omega)];simp[zdX]
def GO{l:List aq}:(zdX key l out m).length=1+2*l.length+2*out.length+m.length:=by
 simp[zdX,Ki];omega
def ET(k:ap gr)(hk:aM gr key=Z){l:List aq}(h1:∀c∈l,ce gr c=Z)(h2:∀c∈out,ce gr c=Z)(h3:m.all cI=Z):(zdX key l out m).all cI=Z:=by
 have A:∀l:List aq,(∀c∈l,ce gr c=Z)->(o4 l).all cI=Z:=λl h=>by
  refine pA k (bm.2 λx hx=>?_);obtain⟨c,hc,hx⟩:=a1g.1 hx;have:=h c hc;simp only[ce,bK]at this;simp only[f6,jy,jz]at hx;rcases hx with rfl|rfl
  ·exact this.1
  ·exact this.2
 have hd:cI key=Z:=by have:=pA k (l:=[key]) (by simp[hk]);simpa using this
 simp only[zdX,zD,kQ,hd,A l h1,A out h2,h3,V1]
abbrev Lb:ByteArray:=⟨#[109,105,120,32,99,111,108,117,109,110,115]⟩
abbrev B5:ByteArray:=⟨#[109,105,120,32,112,114,111,111,102]⟩
def ziC(gr:an)(s:ByteArray)(l:List Int)(n:Nat):List Int:=(List.range n).map λ(i:Nat)=>chG gr s (l++[(i:Int)])
def ztP(hd:l.all cI=Z){i:Nat}(hi:i<=1000000):(l++[(i:Int)]).all cI=Z:=by
 have:cI (i:Int)=Z:=jq.2 ⟨by omega,by omega⟩;simp[hd,this]
def YM(k:ap gr)(hs:s.size<=40)(hl:l.length<=300)(hd:l.all cI=Z){n:Nat}(h1:1<=n)(hn:n<=1000):A0 gr s l (n:Int)=J (ziC gr s l n,Z):=by
 unfold A0;rw[aB (show¬((n:Int)<1)by omega)];refine bH (az (ψ:=(· =.inl (ziC gr s l n))) (ll n (λi t=>t=((List.range i).map λ(i:Nat)=>chG gr s (l++[(i:Int)]),(i:Int))) rfl ?_ ?_) ?_)
 ·rintro i t hi rfl;refine gk (by simp;omega) (ag (a:=l) ?_ (aI (by omega) (ag (Mi k s (by simp;omega)) ?_)))
  ·unfold vh;rw[eV (by omega)]
  rw[aD (NC k hs (by simp;omega) (ztP hd (by omega)))];refine bw rfl (aI (by simp;omega) (am ?_));show _=_;rw[nc,mz,aK (by omega) (by omega)];rfl
 ·rintro t rfl;exact bw (by simp) (am rfl)
 rintro t rfl;refine aI (by omega) (aI (by simp[ziC]) (am ?_));rw[dL,L5 (by simp[ziC])]
def zyC(k:ap gr)(hs:s.size<=40)(hl:l.length<=300)(hd:l.all cI=Z){n:Nat}(hn:n<=1000):FJ gr s l (n:Int)=J (ziC gr s l n):=by
 unfold FJ;refine bH (az (ψ:=(· =ziC gr s l n)) (ll n (λi t=>t=((List.range i).map λ(i:Nat)=>chG gr s (l++[(i:Int)]),(i:Int))) rfl ?_ ?_) λx hx=>am hx)
 ·rintro i t hi rfl;refine gk (by simp;omega) (ag (Pl (by omega)) (aI (by omega) (ag (MW k (by omega) (by simp;omega) (ztP hd (by omega))) (aI (by simp;omega) (am ?_)))));show _=_;rw[nc,mz,aK (by omega) (by omega)];rfl
 rintro t rfl;exact bw (by simp) (am rfl)
def Yx(k:ap gr)(s:ByteArray)(l:List Int)(n:Nat):(ziC gr s l n).length=n/\∀x∈ziC gr s l n,0<=x/\x<gr.Q:=by
 refine⟨by simp[ziC],λx hx=>?_⟩;obtain⟨i,_,rfl⟩:=jU.1 hx;exact mF k s _
def E9(q x:Int):Prop:=0<=x/\x<q
def BS(h:l.all (dx gr)=Z):∀x∈l,E9 gr.Q x:=λx hx=>zvf.1 (bm.1 h x hx)
def iY{z t:Int}(hq:q<=2000000000)(ha:E9 q a)(hz:E9 q z)(ht:E9 q t):i64.wrap (a+i64.wrap (z*t))=a+z*t/\(i64.wrap (a+i64.wrap (z*t))).tmod q=(a+z*t)%q:=by
 obtain⟨a1,a2⟩:=ha;obtain⟨z1,z2⟩:=hz;obtain⟨t1,t2⟩:=ht;have h1:0<=z*t:=tn z1 t1;have h2:z*t<=2000000000*2000000000:=xN (by omega) (by omega) t1 (by omega);rw[aK (n:=z*t) (by omega) (by omega),aK (n:=a+z*t) (by omega) (by omega)];exact⟨rfl,jx (by omega)⟩
def gB(hq:0<q)(x:Int):E9 q (x%q):=⟨oC _ (by omega),tj _ hq⟩
def dtN(q:Int)(l m:List Int):Nat->Int
 |0=>0
 |i+1=>(dtN q l m i+l.getD i 0*m.getD i 0)%q
theorem AV(hq:0<q)(l m:List Int):∀i,E9 q (dtN q l m i)
 |0=>⟨by show(0:Int)<=0;omega,hq⟩
 |i+1=>gB hq _
def iZ{α:Type}{l:List α}{P:α->Prop}(h:∀x∈l,P x){i:Nat}(hi:i<l.length):P l[i]:=h _ (fm hi)
def QM(hq:0<q/\q<=2000000000)(hl:∀x∈l,E9 q x)(hm:∀x∈m,E9 q x)(hn:m.length=l.length):xe l m q=J (dtN q l m l.length):=by
 unfold xe;refine bH (az (ψ:=(· =dtN q l m l.length)) (eo (λi s=>s=dtN q l m i) rfl ?_ λs h=>h) λx hx=>am hx);rintro i s hi rfl;have ha:=AV hq.1 l m i;have h1:=iZ hl hi;have h2:=iZ hm (show i<m.length by omega);refine bG hi (bG (show i<m.length by omega) (aI (by omega) (aI (by omega) (am ?_))));show _=(dtN q l m i+l.getD i 0*m.getD i 0)%q;rw[bZ hi,bZ (show i<m.length by omega)];have e:=iY hq.2 ⟨B1 0,hq.1⟩ h1 h2;rw[L6,L6]at e
 have e2:i64.wrap (l[i]*m[i])=l[i]*m[i]:=by
  have h3:0<=l[i]*m[i]:=tn h1.1 h2.1;have h4:l[i]*m[i]<=2000000000*2000000000:=xN (by have:=h1.2;omega) (by have:=h2.2;omega) h2.1 (by omega);exact aK (by omega) (by omega)
 rw[e2,jx (tn h1.1 h2.1)];have h5:=gB hq.1 (l[i]*m[i]);rw[aK (by have:=ha.1;have:=h5.1;omega) (by have:=ha.2;have:=h5.2;omega),jx (by have:=ha.1;have:=h5.1;omega)];rw[pP,eZ,<-pP]
def Sf(hq:0<q/\q<=2000000000)(hl:∀x∈l,E9 q x)(hm:∀x∈m,E9 q x)(hn:m.length=l.length):uO l m q=J (dtN q l m l.length):=by
 unfold uO;refine bH (az (ψ:=(· =dtN q l m l.length)) (eo (λi s=>s=dtN q l m i) rfl ?_ λs h=>h) λx hx=>am hx);rintro i s hi rfl;refine bG hi (bG (show i<m.length by omega) (aI (by omega) (am ?_)));show _=(dtN q l m i+l.getD i 0*m.getD i 0)%q;rw[bZ hi,bZ (show i<m.length by omega)];exact(iY hq.2 (AV hq.1 l m i) (iZ hl hi) (iZ hm (show i<m.length by omega))).2
def smN(q:Int)(l:List Int):Nat->Int
 |0=>0
 |i+1=>(smN q l i+l.getD i 0)%q
theorem Nq(hq:0<q)(l:List Int):∀i,E9 q (smN q l i)
 |0=>⟨by show(0:Int)<=0;omega,hq⟩
 |i+1=>gB hq _
def zyc(hq:0<q/\q<=2000000000)(hl:∀x∈l,E9 q x):Fs l q=J (smN q l l.length)/\GV l q=J (smN q l l.length):=by
 refine⟨?_,?_⟩
 ·unfold Fs;refine bH (az (ψ:=(· =smN q l l.length)) (eo (λi s=>s=smN q l i) rfl ?_ λs h=>h) λx hx=>am hx);rintro i s hi rfl;have ha:=Nq hq.1 l i;have h1:=iZ hl hi;refine bG hi (aI (by omega) (am ?_));show _=(smN q l i+l.getD i 0)%q;rw[bZ hi,aK (by have:=ha.1;have:=h1.1;omega) (by have:=ha.2;have:=h1.2;omega),jx (by have:=ha.1;have:=h1.1;omega)]
 unfold GV;refine bH (az (ψ:=(· =smN q l l.length)) (eo (λi s=>s=smN q l i) rfl ?_ λs h=>h) λx hx=>am hx);rintro i s hi rfl;have ha:=Nq hq.1 l i;have h1:=iZ hl hi;refine bG hi (aI (by omega) (am ?_));show _=(smN q l i+l.getD i 0)%q;rw[bZ hi,aK (by have:=ha.1;have:=h1.1;omega) (by have:=ha.2;have:=h1.2;omega),jx (by have:=ha.1;have:=h1.1;omega)]
def yN(q:Int)(own t:List Int):Nat->Int
 |0=>0
 |i+1=>(t.getD i 0+own.getD i 0*yN q own t i)%q
theorem PC(hq:0<q)(own t:List Int):∀i,E9 q (yN q own t i)
 |0=>⟨by show(0:Int)<=0;omega,hq⟩
 |i+1=>gB hq _
def qD(e perm:List Int):List Int:=perm.map λj=>e.getD j.toNat 0
def zNl{e:List Int}(hp:∀x∈perm,0<=x/\x<e.length)(hl:perm.length<=1000):Gc e perm=J (qD e perm):=by
 unfold Gc;rw[zCZ (l:=perm) (f:=λj=>e.getD j.toNat 0) []]
 ·rw[na];rfl
 intro i hi s hs;have hx:=iZ hp hi;obtain⟨j,hj⟩:=fZ hx.1;rw[jO hi,aS,hj,jO (show j<e.length by omega),aS,eV (by simp at hs;omega),dL,bZ (show j<e.length by omega)]
def sdV(l:List aq):List Int×List Int:=(l.map (·.A),l.map (·.B))
def sN{l:List aq}(hl:l.length<=1000):vd l=J (sdV l)/\xv l=J (sdV l):=by
 have h:aU (σ:=(List Int)×List Int) (λi5 s4=>
  (ix l i5).bind λaN=>
  gd ((s4.1.length+1)*8<=140737488355328/\s4.1.length+1<=4611686018427387904)<|
  gd ((s4.2.length+1)*8<=140737488355328/\s4.2.length+1<=4611686018427387904)<|
  J (.go (s4.1++[aN.A],s4.2++[aN.B]))) (λs4=>(s4.1,s4.2)) (l.length) 0 ([],[])=J (sdV l):=by
  refine bH (eo (λi s=>s=sdV (l.take i)) rfl ?_ ?_)
  ·rintro i s hi rfl;refine bG hi (aI (by simp[sdV];omega) (aI (by simp[sdV];omega) (am ?_)));show _=_;rw[jd hi];simp only[sdV,mz,jT,qI]
  ·rintro s rfl;rw[gw]
 unfold vd xv;rw[h];exact⟨rfl,rfl⟩
def r7(k:ap gr){l:List aq}(h:∀c∈l,ce gr c=Z):(∀x∈(sdV l).1,0<=x/\x<=2000000000)/\∀x∈(sdV l).2,0<=x/\x<=2000000000:=by
 refine⟨λx hx=>?_,λx hx=>?_⟩<;>obtain⟨c,hc,rfl⟩:=jU.1 hx<;>obtain⟨b1,b2,b3,b4⟩:=zAI k (h c hc)
 ·exact⟨b1,b2⟩
 exact⟨b3,b4⟩
theorem zAt{gr:an}(k:ap gr):∀(l m:List Int) (o:Int),0<=o/\o<gr.P->R9 (zaQ gr l m o)
 |[],_,o,h=>by have:=k.p;unfold zaQ;exact⟨h.1,by omega⟩
 |_::_,[],o,h=>by have:=k.p;unfold zaQ;exact⟨h.1,by omega⟩
 |x::l,e::m,o,h=>by
  have:=k.p;unfold zaQ;exact zAt k l m _ ⟨oC _ (by omega),tj _ (by omega)⟩
def fY(k:ap gr)(l m:List Int):R9 (zaQ gr l m 1):=zAt k l m 1 (by have:=k.p;exact⟨by omega,by omega⟩)
def mI{a r:List Int}{n:Nat}(h:a.length=n):jg (a++r) (n:Int)=J (a,r):=by
 unfold jg;rw[dL,eV (by omega),eV (by simp;omega),eV (by omega),eV (by simp;omega)];simp[h,L5]
def zAR{a:List Int}{n:Nat}(h:a.length=n):jg a (n:Int)=J (a,[]):=by
 have:=mI (r:=[]) h
 rwa [rR]at this
def Ay(x:Int)(r:List Int):su (x::r)=J (x,r):=by
 unfold su;have h:=mI (a:=[x]) (r:=r) (n:=1) rfl;show(jg ([x]++r) ((1:Nat):Int)).bind _=_;rw[h];rfl
structure Ws (gr:an) (n:Nat) (s t w x:List Int) (a b d f:Int):Prop where
 s:s.length=n/\∀z∈s,E9 gr.Q z
 t:t.length=n/\∀z∈t,E9 gr.Q z
 w:w.length=n/\∀z∈w,E9 gr.Q z
 x:x.length=n/\∀z∈x,E9 gr.Q z
 a:E9 gr.Q a
 b:E9 gr.Q b
 d:E9 gr.Q d
 f:E9 gr.Q f
def Yo{n:Nat}{aJ:List Int}(hl:aJ.length=4*n+4)(he:aJ.all (dx gr)=Z):∃s t w x a b d f,aJ=s++(t++(a::b::d::f::(w++x)))/\Ws gr n s t w x a b d f:=by
 have h:=BS he;obtain⟨s,r,rfl,hs⟩:∃s r,aJ=s++r/\s.length=n:=⟨aJ.take n,aJ.drop n,(EA n aJ).symm,by simp;omega⟩
 obtain⟨t,r,rfl,ht⟩:∃t r',r=t++r'/\t.length=n:=⟨r.take n,r.drop n,(EA n r).symm,by simp at hl⊢;omega⟩
 simp only[bT]at hl
 match r,hl with
 |a::b::d::f::r,hl=>
  obtain⟨w,x,rfl,hw⟩:∃w x,r=w++x/\w.length=n:=⟨r.take n,r.drop n,(EA n r).symm,by simp at hl⊢;omega⟩
  simp only[d5,bT]at hl;refine⟨s,t,w,x,a,b,d,f,rfl,⟨hs,λz hz=>h z ?_⟩,⟨ht,λz hz=>h z ?_⟩,⟨hw,λz hz=>h z ?_⟩,⟨by omega,λz hz=>h z ?_⟩,h a ?_,h b ?_,h d ?_,h f ?_⟩<;>simp_all
 |[],hl=>simp at hl;omega
 |[_],hl=>simp at hl;omega
 |[_,_],hl=>simp at hl;omega
 |[_,_,_],hl=>simp at hl;omega
section
attribute [local irreducible] chG ziC zeG zaS zdX zcr zaQ dtN smN yN
def pmL(gr:an)(key:Int)(B:cA)(l:List aq)(perm rs s:List Int):List Int:=zdX key l (zaS gr key l perm rs) (zeG gr B.Hs perm s)
def pmE(gr:an)(key:Int)(B:cA)(l:List aq)(perm rs s:List Int):List Int:=ziC gr Lb (pmL gr key B l perm rs s) l.length
def pmO(gr:an)(key:Int)(B:cA)(l:List aq)(perm rs s:List Int):List Int:=qD (pmE gr key B l perm rs s) perm
def zka(gr:an)(h:Int)(own t w x:List Int)(i:Nat):Int:=aQ gr [ay gr gr.G (w.getD i 0),ay gr (hN gr h own t i) (x.getD i 0)]
def yX(gr:an)(key:Int)(Hs:List Int)(out:List aq)(x:List Int)(a b d f:Int):List Int:=[ay gr gr.G a,aQ gr [ay gr gr.G b,zaQ gr Hs x 1],ay gr gr.G d,aQ gr [ay gr gr.G (i64.wrap (0-f)),zaQ gr (sdV out).1 x 1],aQ gr [ay gr key (i64.wrap (0-f)),zaQ gr (sdV out).2 x 1]]
def pmC(gr:an)(key:Int)(B:cA)(l:List aq)(perm rs s t w x:List Int)(a b d f:Int):List Int:=yX gr key B.Hs (zaS gr key l perm rs) x a b d f++(List.range l.length).map (zka gr B.H (pmO gr key B l perm rs s) t w x)
def pmZ(gr:an)(key:Int)(B:cA)(l:List aq)(perm rs s t w x:List Int)(a b d f:Int):Int:=chG gr B5 (pmL gr key B l perm rs s++zcr gr B.H (pmO gr key B l perm rs s) t++pmC gr key B l perm rs s t w x a b d f)
def rsF(q z:Int)(w t:List Int)(i:Nat):Int:=(w.getD i 0+z*t.getD i 0)%q
def xd(gr:an)(z:Int)(n:Nat)(e own rs s t w x:List Int)(a b d f:Int):List Int:=[(a+z*smN gr.Q s n)%gr.Q,(b+z*dtN gr.Q s e n)%gr.Q,(d+z*yN gr.Q own t n)%gr.Q,(f+z*dtN gr.Q rs own n)%gr.Q]++(List.range n).map (rsF gr.Q z w t)++(List.range n).map (rsF gr.Q z x own)
def kC(gr:an)(key:Int)(B:cA)(l:List aq)(perm rs s t w x:List Int)(a b d f:Int):cM:=
 ⟨zeG gr B.Hs perm s,zcr gr B.H (pmO gr key B l perm rs s) t,⟨pmC gr key B l perm rs s t w x a b d f,[pmZ gr key B l perm rs s t w x a b d f],xd gr (pmZ gr key B l perm rs s t w x a b d f) l.length (pmE gr key B l perm rs s) (pmO gr key B l perm rs s) rs s t w x a b d f⟩⟩
structure dT (gr:an) (key:Int) (B:cA) (l:List aq) (perm rs s t w x:List Int) (a b d f:Int):Prop where
 m:nD gr key l perm rs
 bs:sD gr l.length B
 c:Ws gr l.length s t w x a b d f
section
variable {gr:an}{key:Int}{B:cA}{l:List aq}{perm rs s t w x:List Int}{a b d f:Int}
def dT.Nk(P:dT gr key B l perm rs s t w x a b d f):∀z∈perm,0<=z/\z<perm.length:=λz hz=>by have:=P.m.pr z hz;have:=P.m.pl;omega
def dT.bl(P:dT gr key B l perm rs s t w x a b d f):sD gr perm.length B:=by rw[P.m.pl];exact P.bs
def dT.f8(k:ap gr)(P:dT gr key B l perm rs s t w x a b d f):(zeG gr B.Hs perm s).length=l.length/\∀z∈zeG gr B.Hs perm s,aM gr z=Z:=by
 have h:=zA7 k (ss:=s) P.m.pb (by rw[P.m.pl];exact P.bs.l) P.bs.s;exact⟨by rw[h.1,P.m.pl],h.2⟩
def dT.len(k:ap gr)(P:dT gr key B l perm rs s t w x a b d f):(pmL gr key B l perm rs s).length=1+5*l.length:=by
 have h1:=(P.f8 k).1;have h2:=P.m.pl;unfold pmL;rw[GO,k8,h1];omega
def dT.AJ(k:ap gr)(P:dT gr key B l perm rs s t w x a b d f):(pmL gr key B l perm rs s).all cI=Z:=
 ET k P.m.key P.m.c (v4 k P.m) (pA k (bm.2 (P.f8 k).2))
def dT.e(k:ap gr)(P:dT gr key B l perm rs s t w x a b d f):(pmE gr key B l perm rs s).length=l.length/\∀z∈pmE gr key B l perm rs s,E9 gr.Q z:=Yx k _ _ _
def dT.o(k:ap gr)(P:dT gr key B l perm rs s t w x a b d f):(pmO gr key B l perm rs s).length=l.length/\∀z∈pmO gr key B l perm rs s,E9 gr.Q z:=by
 obtain⟨h1,h2⟩:=P.e k;refine⟨by rw[<-P.m.pl];simp[pmO,qD],λz hz=>?_⟩;obtain⟨j,hj,rfl⟩:=jU.1 hz;have:=P.m.pr j hj;rw[bZ (show j.toNat<_ by omega)];exact h2 _ (fm _)
def dT.mP(k:ap gr)(P:dT gr key B l perm rs s t w x a b d f):(zcr gr B.H (pmO gr key B l perm rs s) t).length=l.length/\∀z∈zcr gr B.H (pmO gr key B l perm rs s) t,aM gr z=Z:=by
 unfold zcr;refine⟨by simp[(P.o k).1],λz hz=>?_⟩;obtain⟨j,hj,rfl⟩:=jU.1 hz;exact Ud k P.bs.h _ _ _
def zCC{h:Int}{es ts:List Int}{i:Nat}(hi:i<es.length):ix ([h]++zcr gr h es ts) (i:Int)=J (hN gr h es ts i):=by
 unfold zcr;cases i with
 |zero=>rfl
 |succ i=>exact Ij (by simp[show i<es.length by omega])
def dT.px(k:ap gr)(P:dT gr key B l perm rs s t w x a b d f):(pmC gr key B l perm rs s t w x a b d f).length=l.length+5/\∀z∈pmC gr key B l perm rs s t w x a b d f,R9 z:=by
 have hh:=d4 k P.bs.h;refine⟨by simp[pmC,yX],λz hz=>?_⟩;rcases kj.1 hz with h|h
 ·simp only[yX,f6,jy,jz]at h;rcases h with rfl|rfl|rfl|rfl|rfl
  ·exact bL k _ _
  ·exact n0 k (bL k _ _) (fY k _ _)
  ·exact bL k _ _
  ·exact n0 k (bL k _ _) (fY k _ _)
  exact n0 k (bL k _ _) (fY k _ _)
 obtain⟨i,_,rfl⟩:=jU.1 h;exact n0 k (bL k _ _) (bL k _ _)
def dT.Ff(k:ap gr)(P:dT gr key B l perm rs s t w x a b d f):(pmL gr key B l perm rs s++zcr gr B.H (pmO gr key B l perm rs s) t++pmC gr key B l perm rs s t w x a b d f).length=6+7*l.length/\(pmL gr key B l perm rs s++zcr gr B.H (pmO gr key B l perm rs s) t++pmC gr key B l perm rs s t w x a b d f).all cI=Z:=by
 have h1:=P.len k;have h2:=(P.mP k).1;have h3:=(P.px k).1;refine⟨by rw[bT,bT,h1,h2,h3];omega,?_⟩;rw[kQ,kQ,P.AJ k,pA k (bm.2 (P.mP k).2),zAF (P.px k).2];rfl
def Uu(P:dT gr key B l perm rs s t w x a b d f)(k:ap gr):qY key l (zaS gr key l perm rs) (zeG gr B.Hs perm s)=J (pmL gr key B l perm rs s)/\sC key l (zaS gr key l perm rs) (zeG gr B.Hs perm s)=J (pmL gr key B l perm rs s):=by
 have hn:=P.m.n;have dR:=P.m.pl;exact⟨Gp (by omega) (by rw[k8];omega) (by rw[(P.f8 k).1];omega),Aq (by omega) (by rw[k8];omega) (by rw[(P.f8 k).1];omega)⟩
def zx7(P:dT gr key B l perm rs s t w x a b d f)(k:ap gr):A0 gr Lb (pmL gr key B l perm rs s) (l.length:Int)=J (pmE gr key B l perm rs s,Z)/\FJ gr Lb (pmL gr key B l perm rs s) (l.length:Int)=J (pmE gr key B l perm rs s):=by
 have hn:=P.m.n;exact⟨YM k (by decide) (by rw[P.len k];omega) (P.AJ k) (by omega) (by omega),zyC k (by decide) (by rw[P.len k];omega) (P.AJ k) (by omega)⟩
def zHC(P:dT gr key B l perm rs s t w x a b d f)(k:ap gr):Gc (pmE gr key B l perm rs s) perm=J (pmO gr key B l perm rs s):=by
 have hn:=P.m.n;have dR:=P.m.pl;have h:=(P.e k).1;exact zNl (e:=pmE gr key B l perm rs s) (λz hz=>by have:=P.m.pr z hz;omega) (by omega)
def zC5(P:dT gr key B l perm rs s t w x a b d f)(k:ap gr):pW [pmL gr key B l perm rs s,zcr gr B.H (pmO gr key B l perm rs s) t,pmC gr key B l perm rs s t w x a b d f]=J (pmL gr key B l perm rs s++zcr gr B.H (pmO gr key B l perm rs s) t++pmC gr key B l perm rs s t w x a b d f):=by
 have hfl:[pmL gr key B l perm rs s,zcr gr B.H (pmO gr key B l perm rs s) t,pmC gr key B l perm rs s t w x a b d f].flatten=pmL gr key B l perm rs s++zcr gr B.H (pmO gr key B l perm rs s) t++pmC gr key B l perm rs s t w x a b d f:=by simp
 have h:=P.Ff k;have hn:=P.m.n;rw[Gu _ (by rw[hfl];omega),hfl]
def zxE(P:dT gr key B l perm rs s t w x a b d f)(k:ap gr):m7 gr B5 (pmL gr key B l perm rs s++zcr gr B.H (pmO gr key B l perm rs s) t++pmC gr key B l perm rs s t w x a b d f)=J (pmZ gr key B l perm rs s t w x a b d f,Z)/\qc gr B5 (pmL gr key B l perm rs s++zcr gr B.H (pmO gr key B l perm rs s) t++pmC gr key B l perm rs s t w x a b d f)=J (pmZ gr key B l perm rs s t w x a b d f):=by
 have h:=P.Ff k;have hn:=P.m.n;refine⟨?_,MW k (by decide) (by omega) h.2⟩;rw[Mi k _ (by omega),aD (NC k (by decide) (by rw[show B5.size=9 from rfl];omega) h.2)];rfl
def dT.z(P:dT gr key B l perm rs s t w x a b d f)(k:ap gr):E9 gr.Q (pmZ gr key B l perm rs s t w x a b d f):=mF k _ _
theorem XV:yX gr key B.Hs (zaS gr key l perm rs) x a b d f++(List.range l.length).map (zka gr B.H (pmO gr key B l perm rs s) t w x)=pmC gr key B l perm rs s t w x a b d f:=rfl
end
variable{n:Nat}
def zDZ{gr:an}(k:ap gr){own t:List Int}(ho:own.length=n)(ht:t.length=n)(wz:∀z∈own,E9 gr.Q z)(hte:∀z∈t,E9 gr.Q z):aU (σ:=Int) (λrD eE=>
 (ix t rD).bind λBM=>
 (ix own rD).bind λfR=>
 (fa gr (i64.wrap (BM+(i64.wrap (fR*eE))))).bind λfL=>
 J (.go fL)) (λeE=>eE) n 0 0=J (yN gr.Q own t n):=by
 have hp:=k.p;have hq:=k.q;refine bH (eo (λi y=>y=yN gr.Q own t i) (by unfold yN;rfl) ?_ λy h=>h);rintro i y hi rfl;refine bG (show i<t.length by omega) (bG (show i<own.length by omega) (ag (ml k _) (am ?_)));rw[(iY (q:=gr.Q) (by omega) (iZ hte (by omega)) (iZ wz (by omega)) (PC (by omega) _ _ _)).1];show _=yN gr.Q own t (i+1);conv=>rhs;unfold yN
 rw[bZ (show i<t.length by omega),bZ (show i<own.length by omega)]
def zxH{gr:an}(k:ap gr){h:Int}(hh:R9 h){own t w x A D E c5:List Int}(ho:own.length=n)(hw:w.length=n)(hx:x.length=n)(h5:c5.length=5)(hn:n<=100):aU (σ:=(List Int)×List Int×List Int×List Int×List Int) (λSk rq=>
 (ix w Sk).bind λGm=>
 (ix ([h]++zcr gr h own t) Sk).bind λx69=>
 (ix x Sk).bind λOz=>
 (cU gr gr.G Gm).bind λxC=>
 (cU gr x69 Oz).bind λoj=>
 (er gr [xC,oj]).bind λqe=>
 gd ((rq.2.2.1.length+1)*8<=140737488355328/\rq.2.2.1.length+1<=4611686018427387904)<|
 J (.go (rq.1,rq.2.1,rq.2.2.1++[qe],rq.2.2.2.1,rq.2.2.2.2))) (λrq=>(rq.1,rq.2.1,rq.2.2.1,rq.2.2.2.1,rq.2.2.2.2)) n 0 (A,zcr gr h own t,c5,D,E)=J (A,zcr gr h own t,c5++(List.range n).map (zka gr h own t w x),D,E):=by
 refine bH (eo (λi y=>y=(A,zcr gr h own t,c5++(List.range i).map (zka gr h own t w x),D,E)) (by simp) ?_ (by rintro y rfl;rfl));rintro i y hi rfl;refine bG (show i<w.length by omega) (ag (zCC (by omega)) (bG (show i<x.length by omega) (ag (fA k (fU k) _) (ag (fA k (N1 k hh _ _ _) _) (ag (j8 k (bL k _ _) (bL k _ _)) (aI (by simp;omega) (am ?_)))))));show _=_;rw[nc,mz,<-ie];simp only[jT,qI,zka,bZ (show i<w.length by omega),bZ (show i<x.length by omega)]
def zyt{gr:an}(k:ap gr){h:Int}(hh:R9 h){own t w x A D E c5:List Int}(ho:own.length=n)(hw:w.length=n)(hx:x.length=n)(h5:c5.length=5)(hn:n<=100):aU (σ:=(List Int)×List Int×List Int×List Int×List Int×Int) (λvn eJ=>
 (ix w vn).bind λN8=>
 (ix x vn).bind λq9=>
 (cH gr gr.G N8).bind λyP=>
 (cH gr eJ.2.2.2.2.2 q9).bind λyk=>
 (ej gr [yP,yk]).bind λDm=>
 gd ((eJ.2.2.1.length+1)*8<=140737488355328/\eJ.2.2.1.length+1<=4611686018427387904)<|
 (ix eJ.2.1 vn).bind λql=>
 J (.go (eJ.1,eJ.2.1,eJ.2.2.1++[Dm],eJ.2.2.2.1,eJ.2.2.2.2.1,ql))) (λeJ=>(eJ.1,eJ.2.1,eJ.2.2.1,eJ.2.2.2.1,eJ.2.2.2.2.1)) n 0 (A,zcr gr h own t,c5,D,E,h)=J (A,zcr gr h own t,c5++(List.range n).map (zka gr h own t w x),D,E):=by
 have gX:(zcr gr h own t).length=n:=by simp[zcr,ho]
 refine bH (eo (λi y=>y=(A,zcr gr h own t,c5++(List.range i).map (zka gr h own t w x),D,E,hN gr h own t i)) (by simp[hN]) ?_ (by rintro y rfl;rfl));rintro i y hi rfl;have oZ:(zcr gr h own t)[i]'(by omega)=hN gr h own t (i+1):=by simp[zcr]
 refine bG (show i<w.length by omega) (bG (show i<x.length by omega) (ag (fo k (fU k) _) (ag (fo k (N1 k hh _ _ _) _) (ag (iV k (bL k _ _) (bL k _ _)) (aI (by simp;omega) (bG (l:=zcr gr h own t) (show i<_ by omega) (am ?_)))))));show _=_;rw[oZ,nc,mz,<-ie];simp only[jT,qI,zka,bZ (show i<w.length by omega),bZ (show i<x.length by omega)]
def zsT{gr:an}(k:ap gr){z:Int}(hz:E9 gr.Q z){w t A B C D R:List Int}(hw:w.length=n/\∀z∈w,E9 gr.Q z)(ht:t.length=n/\∀z∈t,E9 gr.Q z)(hR:R.length<=1000)(hn:n<=100):aU (σ:=(List Int)×List Int×List Int×List Int×List Int) (λa0H qR=>
 (ix w a0H).bind λa4P=>
 (ix t a0H).bind λN6=>
 (fa gr (i64.wrap (a4P+(i64.wrap (z*N6))))).bind λMn=>
 gd ((qR.2.2.2.2.length+1)*8<=140737488355328/\qR.2.2.2.2.length+1<=4611686018427387904)<|
 J (.go (qR.1,qR.2.1,qR.2.2.1,qR.2.2.2.1,qR.2.2.2.2++[Mn]))) (λqR=>(qR.1,qR.2.1,qR.2.2.1,qR.2.2.2.1,qR.2.2.2.2)) n 0 (A,B,C,D,R)=J (A,B,C,D,R++(List.range n).map (rsF gr.Q z w t)):=by
 have hp:=k.p;have hq:=k.q;refine bH (eo (λi y=>y=(A,B,C,D,R++(List.range i).map (rsF gr.Q z w t))) (by simp) ?_ (by rintro y rfl;rfl));rintro i y hi rfl;refine bG (show i<w.length by omega) (bG (show i<t.length by omega) (ag (ml k _) (aI (by simp;omega) (am ?_))));rw[(iY (q:=gr.Q) (by omega) (iZ (i:=i) hw.2 (by omega)) hz (iZ (i:=i) ht.2 (by omega))).1];show _=_;rw[nc,mz,<-ie];simp only[jT,qI,rsF,bZ (show i<w.length by omega),bZ (show i<t.length by omega)]
def zsV{gr:an}(k:ap gr){z:Int}(hz:E9 gr.Q z){w t A B C D R:List Int}(hw:w.length=n/\∀z∈w,E9 gr.Q z)(ht:t.length=n/\∀z∈t,E9 gr.Q z)(hR:R.length<=1000)(hn:n<=100):aU (σ:=(List Int)×List Int×List Int×List Int×List Int) (λBk fw=>
 (ix w Bk).bind λyS=>
 (ix t Bk).bind λyu=>
 gd (gr.Q≠0)<|
 gd ((fw.2.2.2.2.length+1)*8<=140737488355328/\fw.2.2.2.2.length+1<=4611686018427387904)<|
 J (.go (fw.1,fw.2.1,fw.2.2.1,fw.2.2.2.1,fw.2.2.2.2++[(i64.wrap (yS+(i64.wrap (z*yu)))).tmod gr.Q]))) (λfw=>(fw.1,fw.2.1,fw.2.2.1,fw.2.2.2.1,fw.2.2.2.2)) n 0 (A,B,C,D,R)=J (A,B,C,D,R++(List.range n).map (rsF gr.Q z w t)):=by
 have hp:=k.p;have hq:=k.q;refine bH (eo (λi y=>y=(A,B,C,D,R++(List.range i).map (rsF gr.Q z w t))) (by simp) ?_ (by rintro y rfl;rfl));rintro i y hi rfl;refine bG (show i<w.length by omega) (bG (show i<t.length by omega) (aI (by omega) (aI (by simp;omega) (am ?_))));rw[(iY (q:=gr.Q) (by omega) (iZ (i:=i) hw.2 (by omega)) hz (iZ (i:=i) ht.2 (by omega))).2];show _=_;rw[nc,mz,<-ie];simp only[jT,qI,rsF,bZ (show i<w.length by omega),bZ (show i<t.length by omega)]
def zy8{gr:an}(k:ap gr){e t perm own:List Int}(hp:perm.length=n)(ht:t.length=n/\∀z∈t,E9 gr.Q z)(hb:∀z∈perm,0<=z/\z<e.length)(wz:∀z∈e,E9 gr.Q z)(ho:own=qD e perm)(hn:n<=100):aU (σ:=(List Int)×Int) (λzF cL=>
 (ix perm zF).bind λlT=>
 (ix e lT).bind λpo=>
 gd ((cL.1.length+1)*8<=140737488355328/\cL.1.length+1<=4611686018427387904)<|
 (ix t zF).bind λfI=>
 gd (gr.Q≠0)<|
 J (.go (cL.1++[po],(i64.wrap (fI+(i64.wrap (po*cL.2)))).tmod gr.Q))) (λcL=>(cL.1,cL.2)) perm.length 0 ([],0)=J (own,yN gr.Q own t n):=by
 have hP:=k.p;have hq:=k.q;have hol:own.length=n:=by rw[ho];simp[qD,hp]
 refine bH (eo (λi y=>y=(own.take i,yN gr.Q own t i)) (by unfold yN;rfl) ?_ ?_)
 ·rintro i y hi rfl;have lI:=iZ hb hi;obtain⟨j,hj⟩:=fZ lI.1;have cE:j<e.length:=by omega
  have RJ:own[i]'(by omega)=e[j]:=by
   simp only[ho,qD,List.getElem_map,hj,dL];exact bZ cE
  refine bG hi ?_;rw[hj];refine bG cE (aI (by simp;omega) (bG (show i<t.length by omega) (aI (by omega) (am ?_))));rw[(iY (q:=gr.Q) (by omega) (iZ (i:=i) ht.2 (by omega)) (iZ (i:=j) wz cE) (PC (by omega) _ _ _)).2];show _=(own.take (i+1),yN gr.Q own t (i+1));conv=>rhs;unfold yN
  rw[bZ (show i<t.length by omega),bZ (show i<own.length by omega),jd (show i<own.length by omega),RJ]
 rintro y rfl;rw[L5 (by omega),hp]
attribute [local irreducible] pmL pmE pmO pmC pmZ zka rsF sdV hN
section
variable {gr:an}{key:Int}{B:cA}{l:List aq}{perm rs s t w x:List Int}{a b d f:Int}
def m8(l:List aq):(sdV l).1.length=l.length/\(sdV l).2.length=l.length:=by unfold sdV;simp
set_option maxHeartbeats 4000000 in
def Zz(k:ap gr)(P:dT gr key B l perm rs s t w x a b d f):FE gr B key l perm rs (s++(t++(a::b::d::f::(w++x))))=J (kC gr key B l perm rs s t w x a b d f,Z):=by
 have hp:=k.p;have hq:=k.q;have cQ:0<gr.Q/\gr.Q<=2000000000:=by omega
 have hn:=P.m.n;have dR:=P.m.pl;have fF:=P.m.rl;have hk:=d4 k P.m.key;have hH:=d4 k P.bs.h;have Hh:=v4 k P.m;have kR:(zaS gr key l perm rs).length=l.length:=by rw[k8,P.m.pl]
 have gy:=r7 k Hh;have fk:=m8 (zaS gr key l perm rs);rw[kR]at fk;obtain⟨hol,wz⟩:=P.o k;obtain⟨sM,zJ⟩:=P.e k;have hz:=P.z k;have Oe:=P.c.x.1;have Oi:=P.c.w.1;have Re:=P.c.t.1;have AQ:=P.c.s.1;have hB:=Fa k P.bs.s;have Rv:=P.bs.l;have c1:=Ui k P.m;have c2:=zCE (ss:=s) k P.Nk (by omega) (by omega) P.bl;have c3:=(Uu P k).1;have c4:=(zx7 P k).1;have c5:=zHC P k;have c6:=zDa k hH (es:=pmO gr key B l perm rs s) (ts:=t) (by omega) (by omega);have c7:=zDZ k hol Re wz P.c.t.2;have c8:=(sN (l:=zaS gr key l perm rs) (by omega)).1;have c9:=zC5 P k;have zd:=(zxE P k).1;have sG:=zxH (A:=zeG gr B.Hs perm s) (D:=[]) (E:=[]) (t:=t) k hH hol Oi Oe (show(yX gr key B.Hs (zaS gr key l perm rs) x a b d f).length=5 from rfl) (by omega);rw[XV]at sG;have p1:=oY (m:=x) k hB (by omega);have p2:=oY (m:=x) k gy.1 (by omega);have p3:=oY (m:=x) k gy.2 (by omega);have d1:=((zyc cQ P.c.s.2).1.trans (by rw[AQ]):Fs s gr.Q=J (smN gr.Q s l.length))
 have d2:=((QM cQ (m:=pmE gr key B l perm rs s) P.c.s.2 zJ (by omega)).trans (by rw[AQ]):xe s (pmE gr key B l perm rs s) gr.Q=J (dtN gr.Q s (pmE gr key B l perm rs s) l.length))
 have d3:=((QM cQ (l:=rs) (m:=pmO gr key B l perm rs s) (BS P.m.re) wz (by omega)).trans (by rw[P.m.rl]):xe rs (pmO gr key B l perm rs s) gr.Q=J (dtN gr.Q rs (pmO gr key B l perm rs s) l.length))
 have UY:=Nq cQ.1 s l.length;have xg:=AV cQ.1 s (pmE gr key B l perm rs s) l.length;have lv:=AV cQ.1 rs (pmO gr key B l perm rs s) l.length;have hy:=PC cQ.1 (pmO gr key B l perm rs s) t l.length;have hcn:(zcr gr B.H (pmO gr key B l perm rs s) t).length=l.length:=(P.mP k).1;have x1:=(ml k _).trans (gF (λv=>J (v%gr.Q)) (iY (by omega) P.c.a hz UY).1);have x2:=(ml k _).trans (gF (λv=>J (v%gr.Q)) (iY (by omega) P.c.b hz xg).1);have x3:=(ml k _).trans (gF (λv=>J (v%gr.Q)) (iY (by omega) P.c.d hz hy).1);have x4:=(ml k _).trans (gF (λv=>J (v%gr.Q)) (iY (by omega) P.c.f hz lv).1);have r1:=λR hR=>zsT (A:=zeG gr B.Hs perm s) (B:=zcr gr B.H (pmO gr key B l perm rs s) t) (C:=pmC gr key B l perm rs s t w x a b d f) (D:=[pmZ gr key B l perm rs s t w x a b d f]) (R:=R) k hz P.c.w P.c.t hR (by omega)
 have r2:=λR hR=>zsT (A:=zeG gr B.Hs perm s) (B:=zcr gr B.H (pmO gr key B l perm rs s) t) (C:=pmC gr key B l perm rs s t w x a b d f) (D:=[pmZ gr key B l perm rs s t w x a b d f]) (R:=R) k hz P.c.x ⟨hol,wz⟩ hR (by omega)
 clear fk gy Hh hB;unfold FE;refine bH (ag (mI AQ) (ag (mI Re) (ag (Ay _ _) (ag (Ay _ _) (ag (Ay _ _) (ag (Ay _ _) (ag (mI Oi) (ag (zAR Oe) ?_))))))));dsimp only;refine ag c1 (ag c2 (ag c3 (ag c4 (bw rfl (ag c5 (ag c6 (ag c7 (ag c8 ?_))))))));refine ag (fA k (fU k) _) (ag (fA k (fU k) _) (ag p1 (ag (j8 k (bL k _ _) (fY k _ _)) (ag (fA k (fU k) _) (ag (fA k (fU k) _) (ag p2 (ag (j8 k (bL k _ _) (fY k _ _)) (ag (fA k hk _) (ag p3 (ag (j8 k (bL k _ _) (fY k _ _)) (aI ?_ (ag rfl (ag sG (ag c9 (ag zd (bw rfl ?_))))))))))))))))
 ·simp only[d5,iz];omega
 refine ag d1 (ag x1 (ag d2 (ag x2 (ag x3 (ag d3 (ag x4 (ag (r1 _ ?_) (ag (r2 _ ?_) (am ?_)))))))))
 ·simp
 ·simp;omega
 unfold kC xd;rfl
end
end
section
attribute [local irreducible] chG ziC zeG zaS zdX zcr zaQ dtN smN yN
section
variable {gr:an}{key:Int}{B:cA}{l:List aq}{perm rs s t w x:List Int}{a b d f:Int}
def cT{m:Nat}(h:m<=1000000){z:Int}(e:z=(m:Int)):i64.wrap z=(m:Int):=by rw[e];exact aK (by omega) (by omega)
def zDP(k:ap gr)(P:dT gr key B l perm rs s t w x a b d f):Bw gr key l (zaS gr key l perm rs) (zeG gr B.Hs perm s)=J (pmE gr key B l perm rs s):=by
 unfold Bw;exact bH (ag (Uu P k).2 (ag (zx7 P k).2 (am rfl)))
def zCv(k:ap gr)(P:dT gr key B l perm rs s t w x a b d f){ch rr:List Int}:AY gr key l (zaS gr key l perm rs) ⟨zeG gr B.Hs perm s,zcr gr B.H (pmO gr key B l perm rs s) t,⟨pmC gr key B l perm rs s t w x a b d f,ch,rr⟩⟩=J (pmZ gr key B l perm rs s t w x a b d f):=by
 have hn:=P.m.n;have h1:=P.len k;have h2:=(P.mP k).1;have h3:=(P.px k).1;unfold AY;dsimp only;exact bH (ag (Uu P k).2 (aI (by rw[h1,h2];omega) (aI (by rw[bT,h1,h2,h3];omega) (ag (zxE P k).2 (am rfl)))))
theorem zDX:pmO gr key B l perm rs s=qD (pmE gr key B l perm rs s) perm:=rfl
attribute [local irreducible] pmL pmE pmO pmC pmZ zka rsF sdV hN
set_option maxHeartbeats 4000000 in
def zFu(k:ap gr)(P:dT gr key B l perm rs s t w x a b d f):F6 gr key B l perm rs (s++(t++(a::b::d::f::(w++x))))=J (kC gr key B l perm rs s t w x a b d f):=by
 have hp:=k.p;have hq:=k.q;have cQ:0<gr.Q/\gr.Q<=2000000000:=by omega
 have hn:=P.m.n;have dR:=P.m.pl;have fF:=P.m.rl;have hk:=d4 k P.m.key;have hH:=d4 k P.bs.h;have Hh:=v4 k P.m;have kR:(zaS gr key l perm rs).length=l.length:=by rw[k8,P.m.pl]
 have gy:=r7 k Hh;have fk:=m8 (zaS gr key l perm rs);rw[kR]at fk;obtain⟨hol,wz⟩:=P.o k;obtain⟨sM,zJ⟩:=P.e k;have hz:=P.z k;have Oe:=P.c.x.1;have Oi:=P.c.w.1;have Re:=P.c.t.1;have AQ:=P.c.s.1;have hB:=Fa k P.bs.s;have Rv:=P.bs.l;have c1:=QB k P.m;have c2:=zDu (ss:=s) k P.Nk (by omega) (by omega) P.bl;have c3:=zDP k P;have c6:=zC7 k hH (es:=pmO gr key B l perm rs s) (ts:=t) (by omega) (by omega);have c7:=zy8 (e:=pmE gr key B l perm rs s) (own:=pmO gr key B l perm rs s) k dR P.c.t (λz hz=>by have:=P.m.pr z hz;omega) zJ zDX (by omega);have c8:=(sN (l:=zaS gr key l perm rs) (by omega)).2;have c9:=zCv k P (ch:=[]) (rr:=[]);have sG:=zyt (A:=zeG gr B.Hs perm s) (D:=[]) (E:=[]) (t:=t) k hH hol Oi Oe (show(yX gr key B.Hs (zaS gr key l perm rs) x a b d f).length=5 from rfl) (by omega);rw[XV]at sG;have p1:=pe (m:=x) k hB (by omega);have p2:=pe (m:=x) k gy.1 (by omega);have p3:=pe (m:=x) k gy.2 (by omega);have d1:=((zyc cQ P.c.s.2).2.trans (by rw[AQ]):GV s gr.Q=J (smN gr.Q s l.length))
 have d2:=((Sf cQ (m:=pmE gr key B l perm rs s) P.c.s.2 zJ (by omega)).trans (by rw[AQ]):uO s (pmE gr key B l perm rs s) gr.Q=J (dtN gr.Q s (pmE gr key B l perm rs s) l.length))
 have d3:=((Sf cQ (l:=rs) (m:=pmO gr key B l perm rs s) (BS P.m.re) wz (by omega)).trans (by rw[P.m.rl]):uO rs (pmO gr key B l perm rs s) gr.Q=J (dtN gr.Q rs (pmO gr key B l perm rs s) l.length))
 have UY:=Nq cQ.1 s l.length;have xg:=AV cQ.1 s (pmE gr key B l perm rs s) l.length;have lv:=AV cQ.1 rs (pmO gr key B l perm rs s) l.length;have hy:=PC cQ.1 (pmO gr key B l perm rs s) t l.length;have x1:=(iY (by omega) P.c.a hz UY).2;have x2:=(iY (by omega) P.c.b hz xg).2;have x3:=(iY (by omega) P.c.d hz hy).2;have x4:=(iY (by omega) P.c.f hz lv).2;have r1:=λR hR=>zsV (A:=zeG gr B.Hs perm s) (B:=zcr gr B.H (pmO gr key B l perm rs s) t) (C:=pmC gr key B l perm rs s t w x a b d f) (D:=[pmZ gr key B l perm rs s t w x a b d f]) (R:=R) k hz P.c.w P.c.t hR (by omega)
 have r2:=λR hR=>zsV (A:=zeG gr B.Hs perm s) (B:=zcr gr B.H (pmO gr key B l perm rs s) t) (C:=pmC gr key B l perm rs s t w x a b d f) (D:=[pmZ gr key B l perm rs s t w x a b d f]) (R:=R) k hz P.c.x ⟨hol,wz⟩ hR (by omega)
 have hQ:gr.Q≠0:=by omega
 clear fk gy Hh hB;have w2:i64.wrap (2*(l.length:Int))=((2*l.length:Nat):Int):=cT (by omega) (by omega);have w21:i64.wrap (((2*l.length:Nat):Int)+1)=((2*l.length+1:Nat):Int):=cT (by omega) (by omega);have w22:i64.wrap (((2*l.length:Nat):Int)+2)=((2*l.length+2:Nat):Int):=cT (by omega) (by omega);have w23:i64.wrap (((2*l.length:Nat):Int)+3)=((2*l.length+3:Nat):Int):=cT (by omega) (by omega);have w24:i64.wrap (((2*l.length:Nat):Int)+4)=((2*l.length+4:Nat):Int):=cT (by omega) (by omega);have w3:i64.wrap (3*(l.length:Int))=((3*l.length:Nat):Int):=cT (by omega) (by omega);have w34:i64.wrap (((3*l.length:Nat):Int)+4)=((3*l.length+4:Nat):Int):=cT (by omega) (by omega);generalize hc:s++(t++(a::b::d::f::(w++x)))=aJ;have a5g:aJ.length=4*l.length+4:=by rw[<-hc];simp;omega
 have hs:(aJ.take l.length).drop 0=s:=by rw[<-hc,<-AQ];simp
 have ht:(aJ.take (2*l.length)).drop l.length=t:=by
  rw[<-hc,<-ie,a1B (by simp;omega),Qr AQ]
 have hw:(aJ.take (3*l.length+4)).drop (2*l.length+4)=w:=by
  have e:aJ=(s++(t++[a,b,d,f]))++(w++x):=by rw[<-hc];simp
  rw[e,<-ie,a1B (by simp;omega),Qr (by simp;omega)]
 have hx:(aJ.take aJ.length).drop (3*l.length+4)=x:=by
  have e:aJ=(s++(t++([a,b,d,f]++w)))++x:=by rw[<-hc];simp
  rw[gw,e,Qr (by simp;omega)]
 have uk:∀(i:Nat) (y:Int),i<4->[a,b,d,f][i]? =J y->ix aJ ((2*l.length+i:Nat):Int)=J y:=λi y hi hy=>by
  have e:aJ=(s++t)++([a,b,d,f]++(w++x)):=by rw[<-hc];simp
  refine Ij ?_;have h0:(s++t).length=2*l.length:=by simp;omega
  rw[e,gj (by omega),h0,Wq,fM (by simpa using hi),hy]
 unfold F6;simp only[w2,w21,w22,w23,w24,w3,w34,dL,hs,ht,hw,hx];refine bH (ag c1 (aI (by omega) (aI (by omega) (aI (by omega) (aI (by omega) (aI (by omega) (ag (uk 0 a (by omega) rfl) (ag (uk 1 b (by omega) rfl) (ag (uk 2 d (by omega) rfl) (ag (uk 3 f (by omega) rfl) (aI (by omega) (aI (by omega) (aI (by omega) (aI (by omega) (aI (by omega) ?_)))))))))))))));refine ag c2 (ag c3 (ag c7 (ag c6 (ag c8 ?_))));refine ag (fo k (fU k) _) (ag (fo k (fU k) _) (ag p1 (ag (iV k (bL k _ _) (fY k _ _)) (ag (fo k (fU k) _) (ag (fo k (fU k) _) (ag p2 (ag (iV k (bL k _ _) (fY k _ _)) (ag (fo k hk _) (ag p3 (ag (iV k (bL k _ _) (fY k _ _)) (ag sG (ag c9 ?_))))))))))));refine aI hQ (ag d1 (aI hQ (ag d2 (aI hQ (ag d3 (aI hQ ?_))))));dsimp only;rw[x1,x2,x3,x4];refine ag (r1 _ ?_) (ag (r2 _ ?_) (am ?_))
 ·simp
 ·simp;omega
 unfold kC xd;rfl
end
end
abbrev rZ:cM:=⟨[],[],⟨[],[],[]⟩⟩
def fH(gr:an)(key:Int)(l:List aq):Bool:=aM gr key&&(dh 1 12 l.length&&l.all (ce gr))
noncomputable def kH(gr:an)(n:Nat)(perm rs:List Int):Bool:=decide (perm.length=n)&&d8 perm&&(decide (rs.length=n)&&rs.all (dx gr))
def wh{gr:an}(k:ap gr)(key:Int)(l:List aq){B:cA}{tb:Bool}(hB:kO gr (l.length:Int)=J (B,tb)):ux gr key l=J (if fH gr key l=Z then(B,tb)else(⟨0,[]⟩,aa)):=by
 unfold ux;rw[zsC,MD.2 k,Mv k,zp k,hB];unfold fH;cases aM gr key<;>cases (dh 1 12 l.length&&l.all (ce gr))<;>rfl
def NS{gr:an}(k:¬ap gr)(key:Int)(l:List aq):ux gr key l=J (⟨0,[]⟩,aa):=by
 unfold ux;rw[zsC,o5 k];rfl
def P0{gr:an}{key:Int}{l:List aq}{perm rs:List Int}:(fH gr key l&&kH gr l.length perm rs)=Z↔nD gr key l perm rs:=zEJ
structure X2 (gr:an) (key:Int) (l:List aq) (perm rs aJ:List Int) (p:cM):Prop where
 k:ap gr
 x:∃(B:cA) (s t w x:List Int) (a b d f:Int),aJ=s++(t++(a::b::d::f::(w++x)))/\dT gr key B l perm rs s t w x a b d f/\p=kC gr key B l perm rs s t w x a b d f/\kO gr (l.length:Int)=J (B,Z)
def zMd(gr:an)(key:Int){l:List aq}(hl:l.length<=20)(perm rs aJ:List Int):∃p t,qq gr key l perm rs aJ=J (p,t)/\vx gr key l perm rs aJ=J (p,t)/\(t=aa->p=rZ)/\(t=Z->X2 gr key l perm rs aJ p):=by
 have w4:i64.wrap (i64.wrap (4*(l.length:Int))+4)=((4*l.length+4:Nat):Int):=by
  rw[aK (n:=4*(l.length:Int)) (by omega) (by omega)];exact cT (by omega) (by omega)
 by_cases k:ap gr
 ·have hq:=k.q;have hp:=k.p;obtain⟨B,tb,b1,b2,b3⟩:=TU k (n:=l.length) (by omega);have e2:((rs.length:Int) !=(l.length:Int))= !decide (rs.length=l.length):=by by_cases h:rs.length=l.length<;>simp[h];omega
  have e3:((aJ.length:Int) !=((4*l.length+4:Nat):Int))= !decide (aJ.length=4*l.length+4):=by by_cases h:aJ.length=4*l.length+4<;>simp[h];omega
  cases h1:fH gr key l
  ·refine⟨rZ,aa,?_,?_,λ_=>rfl,λh=>by cases h⟩
   ·unfold qq;rw[wh k key l b2,h1];rfl
   unfold vx;rw[uR k,show(aM gr key&&(dh 1 12 l.length&&l.all (ce gr)))=fH gr key l from rfl,h1];rfl
  cases h2:kH gr l.length perm rs
  ·refine⟨rZ,aa,?_,?_,λ_=>rfl,λh=>by cases h⟩
   ·unfold qq;rw[wh k key l b2,h1,AO k (by omega),show(decide (perm.length=l.length)&&d8 perm&&(decide (rs.length=l.length)&&rs.all (dx gr)))=kH gr l.length perm rs from rfl,h2];cases tb<;>rfl
   unfold vx;rw[uR k,show(aM gr key&&(dh 1 12 l.length&&l.all (ce gr)))=fH gr key l from rfl,h1,Td perm l.length (by omega),AF (by omega) (by omega),e2];unfold kH at h2;cases h3:(decide (perm.length=l.length)&&d8 perm)
   ·simp
   cases h4:decide (rs.length=l.length)
   ·simp
   rw[h3,h4]at h2;have h2:rs.all (dx gr)=aa:=by simpa using h2
   simp[h2]
  have m:=P0.1 (show(fH gr key l&&kH gr l.length perm rs)=Z by rw[h1,h2];rfl)
  have I:∀cc,v3 gr aJ=J cc->qq gr key l perm rs aJ=if(tb&&(decide (aJ.length=4*l.length+4)&&cc))=Z then(FE gr B key l perm rs aJ).bind (λz=>J (z.1,z.2))else J (rZ,aa):=by
   intro cc QX;unfold qq;rw[wh k key l b2,h1,AO k (by omega),show(decide (perm.length=l.length)&&d8 perm&&(decide (rs.length=l.length)&&rs.all (dx gr)))=kH gr l.length perm rs from rfl,h2,w4,e3,QX];cases tb<;>cases decide (aJ.length=4*l.length+4)<;>cases cc<;>rfl
  have S:∀cc,sO gr aJ=J cc->vx gr key l perm rs aJ=if(tb&&(decide (aJ.length=4*l.length+4)&&cc))=Z then(F6 gr key B l perm rs aJ).bind (λz=>J (z,Z))else J (rZ,aa):=by
   intro cc QX;unfold vx;have h4:decide (rs.length=l.length)=Z:=by simp[m.rl]
   have h5:(decide (perm.length=l.length)&&d8 perm)=Z:=by simp[m.pl,m.pb]
   rw[uR k,show(aM gr key&&(dh 1 12 l.length&&l.all (ce gr)))=fH gr key l from rfl,h1,Td perm l.length (by omega),AF (l:=rs) (by omega) (by omega),e2,h4,h5,m.re,w4,e3,QX,b1];cases tb<;>cases decide (aJ.length=4*l.length+4)<;>cases cc<;>rfl
  have I2:=I _ (ze (by omega) (by omega) aJ);have S2:=S _ (AF (by omega) (by omega) aJ);by_cases hc:(tb&&(decide (aJ.length=4*l.length+4)&&aJ.all (dx gr)))=Z
  ·rw[aD hc]at I2 S2;simp only[bK,eO]at hc;obtain⟨ht,GM,oZ⟩:=hc;subst ht;obtain⟨s,t,w,x,a,b,d,f,rfl,hC⟩:=Yo GM oZ;have P:dT gr key B l perm rs s t w x a b d f:=⟨m,b3 rfl,hC⟩
   rw[Zz k P]at I2;rw[zFu k P]at S2;refine⟨kC gr key B l perm rs s t w x a b d f,Z,I2,S2,λh=>(by cases h),λ_=>⟨k,B,s,t,w,x,a,b,d,f,rfl,P,rfl,b2⟩⟩
  rw[aB hc]at I2 S2;refine⟨rZ,aa,I2,S2,λ_=>rfl,λh=>by cases h⟩
 refine⟨rZ,aa,?_,?_,λ_=>rfl,λh=>by cases h⟩
 ·unfold qq;rw[NS k];rfl
 unfold vx;rw[GZ k];rfl
def zCo{gr:an}{key:Int}{l:List aq}(hl:l.length<=20){perm rs aJ:List Int}{p:cM}(h:X2 gr key l perm rs aJ p):p.cy.length<=1000/\p.aH.length<=1000/\p.Pi.aE.length<=1000/\p.Pi.aW.length<=1000/\p.Pi.aG.length<=1000:=by
 obtain⟨k,B,s,t,w,x,a,b,d,f,_,P,rfl,_⟩:=h;have h1:=(P.f8 k).1;have h2:=(P.mP k).1;have h3:=(P.px k).1;refine⟨?_,?_,?_,by simp[kC],by simp[kC,xd];omega⟩
 ·show(zeG gr B.Hs perm s).length<=_;omega
 ·show(zcr gr B.H (pmO gr key B l perm rs s) t).length<=_;omega
 show(pmC gr key B l perm rs s t w x a b d f).length<=_;omega
def o7(gr:an)(n:Nat)(p:cM):Bool:=decide (p.cy.length=n)&&(decide (p.aH.length=n)&&(decide (p.Pi.aE.length=n+5)&&(decide (p.Pi.aW.length=1)&&(decide (p.Pi.aG.length=2*n+4)&&(p.cy.all (aM gr)&&(p.aH.all (aM gr)&&(p.Pi.aE.all (aM gr)&&p.Pi.aG.all (dx gr))))))))
def iS(a b:Nat):((a:Int)==(b:Int))=decide (a=b):=by by_cases h:a=b<;>simp[h];omega
def zHy{gr:an}(k:ap gr){n:Nat}(hn:n<=1000)(p:cM):I6 gr p (n:Int)=J (o7 gr n p):=by
 have hq:=k.q;have hp:=k.p;have e1:i64.wrap ((n:Int)+5)=((n+5:Nat):Int):=cT (by omega) (by omega)
 have e2:i64.wrap (i64.wrap (2*(n:Int))+4)=((2*n+4:Nat):Int):=by
  rw[aK (n:=2*(n:Int)) (by omega) (by omega)];exact cT (by omega) (by omega)
 unfold I6;have e3:((p.Pi.aW.length:Int)==1)=decide (p.Pi.aW.length=1):=iS _ 1;rw[e1,e2,iS,iS,iS,iS,e3,C6 k,C6 k,C6 k,ze (by omega) (by omega)];unfold o7;generalize decide (p.cy.length=n)=a1;generalize decide (p.aH.length=n)=a2;generalize decide (p.Pi.aE.length=n+5)=a3;generalize decide (p.Pi.aW.length=1)=a4;generalize decide (p.Pi.aG.length=2*n+4)=a5;generalize p.cy.all (aM gr)=a6;generalize p.aH.all (aM gr)=a7;generalize p.Pi.aE.all (aM gr)=a8;generalize p.Pi.aG.all (dx gr)=a9;cases a1<;>cases a2<;>cases a3<;>cases a4<;>cases a5<;>cases a6<;>cases a7<;>cases a8<;>rfl
def zFI{gr:an}(k:ap gr){n:Nat}(hn:n<=1000)(p:cM):Jd gr (n:Int) p=J (o7 gr n p):=by
 have hq:=k.q;have hp:=k.p;have e1:i64.wrap ((n:Int)+5)=((n+5:Nat):Int):=cT (by omega) (by omega)
 have e2:i64.wrap (i64.wrap (2*(n:Int))+4)=((2*n+4:Nat):Int):=by
  rw[aK (n:=2*(n:Int)) (by omega) (by omega)];exact cT (by omega) (by omega)
 unfold Jd;have e3:((p.Pi.aW.length:Int)==1)=decide (p.Pi.aW.length=1):=iS _ 1;rw[e1,e2,iS,iS,iS,iS,e3,zu k,zu k,zu k,AF (by omega) (by omega)];unfold o7;generalize decide (p.cy.length=n)=a1;generalize decide (p.aH.length=n)=a2;generalize decide (p.Pi.aE.length=n+5)=a3;generalize decide (p.Pi.aW.length=1)=a4;generalize decide (p.Pi.aG.length=2*n+4)=a5;generalize p.cy.all (aM gr)=a6;generalize p.aH.all (aM gr)=a7;generalize p.Pi.aE.all (aM gr)=a8;generalize p.Pi.aG.all (dx gr)=a9;cases a1<;>cases a2<;>cases a3<;>cases a4<;>cases a5<;>cases a6<;>cases a7<;>cases a8<;>rfl
def alN(q:Int)(e:List Int):Nat->Int
 |0=>1
 |i+1=>(alN q e i*e.getD i 0)%q
theorem Ou{q:Int}(hq:1<q)(e:List Int):∀i,E9 q (alN q e i)
 |0=>⟨by show(0:Int)<=1;omega,hq⟩
 |i+1=>gB (by omega) _
def xE{q a b:Int}(hq:q<=2000000000)(ha:E9 q a)(hb:E9 q b):i64.wrap (a*b)=a*b/\(i64.wrap (a*b)).tmod q=(a*b)%q:=by
 have h1:0<=a*b:=tn ha.1 hb.1;have h2:a*b<=2000000000*2000000000:=xN (by have:=ha.2;omega) (by have:=hb.2;omega) hb.1 (by omega);rw[aK (n:=a*b) (by omega) (by omega)];exact⟨rfl,jx h1⟩
def zyV{gr:an}(k:ap gr){e:List Int}(he:∀z∈e,E9 gr.Q z):aU (σ:=Int) (λf7 bR=>
 (ix e f7).bind λgi=>
 (fa gr (i64.wrap (bR*gi))).bind λnB=>
 J (.go nB)) (λbR=>bR) e.length 0 1=J (alN gr.Q e e.length):=by
 have hp:=k.p;have hq:=k.q;refine bH (eo (λi y=>y=alN gr.Q e i) rfl ?_ λy h=>h);rintro i y hi rfl;refine bG hi (ag (ml k _) (am ?_));rw[(xE (q:=gr.Q) (by omega) (Ou (by omega) _ _) (iZ he hi)).1];show _=(alN gr.Q e i*e.getD i 0)%gr.Q;rw[bZ hi]
def zyU{gr:an}(k:ap gr){e:List Int}(he:∀z∈e,E9 gr.Q z):aU (σ:=Int) (λi16 qX=>
 (ix e i16).bind λFg=>
 gd (gr.Q≠0)<|
 J (.go ((i64.wrap (qX*Fg)).tmod gr.Q))) (λqX=>qX) e.length 0 1=J (alN gr.Q e e.length):=by
 have hp:=k.p;have hq:=k.q;refine bH (eo (λi y=>y=alN gr.Q e i) rfl ?_ λy h=>h);rintro i y hi rfl;refine bG hi (aI (by omega) (am ?_));rw[(xE (q:=gr.Q) (by omega) (Ou (by omega) _ _) (iZ he hi)).2];show _=(alN gr.Q e i*e.getD i 0)%gr.Q;rw[bZ hi]
def Zx{gr:an}(k:ap gr){x:Int}(h:aM gr x=Z){s:Int}(hs:0<=s):ay gr (ay gr x s) (-1)=ay gr x (0-s):=by
 have hq:=k.q;have e1:(-1:Int)%gr.Q=(gr.Q-1)%gr.Q:=by rw[show gr.Q-1=-1+gr.Q by omega,We]
 have h1:ay gr (ay gr x s) (-1)=ay gr (ay gr x s) (gr.Q-1):=zvB _ e1;rw[h1,zt3 k h hs (by omega)];refine zvB _ ?_;rw[show s*(gr.Q-1)=(0-s)+gr.Q*s by grind,HQ]
def bef(h:Int)(ch:List Int)(i:Nat):Int:=([h]++ch).getD i 0
def Fl{gr:an}(k:ap gr){h:Int}(hh:aM gr h=Z){ch:List Int}(hc:∀z∈ch,aM gr z=Z)(i:Nat)(hi:i<=ch.length):ix ([h]++ch) (i:Int)=J (bef h ch i)/\R9 (bef h ch i):=by
 have hl:i<([h]++ch).length:=by simp;omega
 unfold bef;rw[jO hl,bZ hl];refine⟨rfl,d4 k ?_⟩;rcases kj.1 (fm hl)with h1|h1
 ·rw[gP]at h1;rw[h1];exact hh
 exact hc _ h1
section
attribute [local irreducible] chG ziC zdX zaQ alN sdV
def wvL(key:Int)(l out:List aq)(p:cM):List Int:=zdX key l out p.cy
def wvE(gr:an)(key:Int)(l out:List aq)(p:cM):List Int:=ziC gr Lb (wvL key l out p) l.length
def wvZ(gr:an)(key:Int)(l out:List aq)(p:cM):Int:=chG gr B5 (wvL key l out p++p.aH++p.Pi.aE)
def JG(gr:an)(B:cA)(l:List aq)(e f8:List Int)(last al:Int):List Int:=[aQ gr [aQ gr f8,ay gr (aQ gr B.Hs) (-1)],zaQ gr f8 e 1,aQ gr [last,ay gr B.H (0-al)],zaQ gr (sdV l).1 e 1,zaQ gr (sdV l).2 e 1]
def Gq(gr:an)(key:Int)(B:cA)(out:List aq)(x r:List Int):List Int:=[ay gr gr.G (r.getD 0 0),aQ gr [ay gr gr.G (r.getD 1 0),zaQ gr B.Hs x 1],ay gr gr.G (r.getD 2 0),aQ gr [ay gr gr.G (i64.wrap (0-r.getD 3 0)),zaQ gr (sdV out).1 x 1],aQ gr [ay gr key (i64.wrap (0-r.getD 3 0)),zaQ gr (sdV out).2 x 1]]
def zjy(gr:an)(h:Int)(ch x r:List Int)(i:Nat):Int:=aQ gr [ay gr gr.G (r.getD (4+i) 0),ay gr (bef h ch i) (x.getD i 0)]
def hlB(gr:an)(z c b d:Int):Bool:=aQ gr [c,ay gr b z]==d
def qd(gr:an)(z:Int)(c left right:List Int)(i:Nat):Bool:=hlB gr z (c.getD i 0) (left.getD i 0) (right.getD i 0)
def mR(gr:an)(B:cA)(l:List aq)(e:List Int)(p:cM):List Int:=JG gr B l e p.cy (p.aH.getD (l.length-1) 0) (alN gr.Q e e.length)++p.aH
def nu(gr:an)(key:Int)(B:cA)(n:Nat)(out:List aq)(p:cM):List Int:=Gq gr key B out (p.Pi.aG.drop (n+4)) p.Pi.aG++(List.range n).map (zjy gr B.H p.aH (p.Pi.aG.drop (n+4)) p.Pi.aG)
def tH(gr:an)(key:Int)(B:cA)(l out:List aq)(p:cM):Bool:=
 decide (out.length=l.length)&&(o7 gr l.length p&&((p.Pi.aW.getD 0 0==wvZ gr key l out p)&&(List.range (5+l.length)).all (qd gr (wvZ gr key l out p) p.Pi.aE (mR gr B l (wvE gr key l out p) p) (nu gr key B l.length out p))))
structure mp (gr:an) (key:Int) (B:cA) (l out:List aq) (p:cM):Prop where
 key:aM gr key=Z
 n:1<=l.length/\l.length<=12
 lc:∀c∈l,ce gr c=Z
 oc:∀c∈out,ce gr c=Z
 ol:out.length=l.length
 bs:sD gr l.length B
 f8:p.cy.length=l.length/\∀z∈p.cy,aM gr z=Z
 mP:p.aH.length=l.length/\∀z∈p.aH,aM gr z=Z
 px:p.Pi.aE.length=l.length+5/\∀z∈p.Pi.aE,aM gr z=Z
 cS:p.Pi.aW.length=1
 Zp:p.Pi.aG.length=2*l.length+4/\∀z∈p.Pi.aG,E9 gr.Q z
section
variable {gr:an}{key:Int}{B:cA}{l out:List aq}{p:cM}
def mp.len(V:mp gr key B l out p):(wvL key l out p).length=1+5*l.length:=by
 have h1:=V.f8.1;have h2:=V.ol;unfold wvL;rw[GO,h1];omega
def mp.AJ(k:ap gr)(V:mp gr key B l out p):(wvL key l out p).all cI=Z:=ET k V.key V.lc V.oc (pA k (bm.2 V.f8.2))
def mp.QR(V:mp gr key B l out p):qY key l out p.cy=J (wvL key l out p)/\sC key l out p.cy=J (wvL key l out p):=by
 have hn:=V.n;have h1:=V.f8.1;have h2:=V.ol;exact⟨Gp (by omega) (by omega) (by omega),Aq (by omega) (by omega) (by omega)⟩
def mp.chs(k:ap gr)(V:mp gr key B l out p):A0 gr Lb (wvL key l out p) (l.length:Int)=J (wvE gr key l out p,Z)/\Bw gr key l out p.cy=J (wvE gr key l out p):=by
 have hn:=V.n;refine⟨YM k (by decide) (by rw[V.len];omega) (V.AJ k) (by omega) (by omega),?_⟩;unfold Bw;exact bH (ag V.QR.2 (ag (zyC k (by decide) (by rw[V.len];omega) (V.AJ k) (by omega)) (am rfl)))
def mp.e(k:ap gr)(V:mp gr key B l out p):(wvE gr key l out p).length=l.length/\∀z∈wvE gr key l out p,E9 gr.Q z:=Yx k _ _ _
def mp.Ff(k:ap gr)(V:mp gr key B l out p):(wvL key l out p++p.aH++p.Pi.aE).length=6+7*l.length/\(wvL key l out p++p.aH++p.Pi.aE).all cI=Z:=by
 have h1:=V.len;have h2:=V.mP.1;have h3:=V.px.1;refine⟨by rw[bT,bT,h1,h2,h3];omega,?_⟩;rw[kQ,kQ,V.AJ k,pA k (bm.2 V.mP.2),pA k (bm.2 V.px.2)];rfl
def mp.cat(k:ap gr)(V:mp gr key B l out p):pW [wvL key l out p,p.aH,p.Pi.aE]=J (wvL key l out p++p.aH++p.Pi.aE):=by
 have hfl:[wvL key l out p,p.aH,p.Pi.aE].flatten=wvL key l out p++p.aH++p.Pi.aE:=by simp
 have h:=V.Ff k;have hn:=V.n;rw[Gu _ (by rw[hfl];omega),hfl]
def mp.a46(k:ap gr)(V:mp gr key B l out p):m7 gr B5 (wvL key l out p++p.aH++p.Pi.aE)=J (wvZ gr key l out p,Z):=by
 have h:=V.Ff k;have hn:=V.n;rw[Mi k _ (by omega),aD (NC k (by decide) (by rw[show B5.size=9 from rfl];omega) h.2)];rfl
def mp.a19(k:ap gr)(V:mp gr key B l out p):AY gr key l out p=J (wvZ gr key l out p):=by
 have h:=V.Ff k;have hn:=V.n;have h1:=V.len;have h2:=V.mP.1;have h3:=V.px.1;unfold AY;exact bH (ag V.QR.2 (aI (by rw[h1,h2];omega) (aI (by rw[bT,h1,h2,h3];omega) (ag (MW k (by decide) (by omega) h.2) (am rfl)))))
def QV(hk:aM gr key=Z)(hn:1<=l.length/\l.length<=12)(lc:∀c∈l,ce gr c=Z)(oc:∀c∈out,ce gr c=Z)(hb:sD gr l.length B)(ho:out.length=l.length)(hs:o7 gr l.length p=Z):mp gr key B l out p:=by
 simp only[o7,bK,eO]at hs;obtain⟨a1,a2,a3,a4,a5,a6,a7,a8,a9⟩:=hs;exact⟨hk,hn,lc,oc,ho,hb,⟨a1,bm.1 a6⟩,⟨a2,bm.1 a7⟩,⟨a3,bm.1 a8⟩,a4,⟨a5,BS a9⟩⟩
def FL(k:ap gr){x y w z:Int}(hx:R9 x)(hy:R9 y):ug x y w gr.P gr.Q gr.G z=J (hlB gr z x y w):=by
 unfold ug;show(cU gr y z).bind _=_;rw[fA k hy,aS];show(er gr _).bind _=_;rw[j8 k hx (bL k _ _),aS];rfl
def zye(k:ap gr){h z:Int}(hh:aM gr h=Z){ch c x r:List Int}{n:Nat}(hc:c.length=n+5/\∀z∈c,aM gr z=Z)(CA:ch.length=n/\∀z∈ch,aM gr z=Z)(hx:x.length=n)(hr:r.length=2*n+4)(hn:n<=100)(b:Bool):aU (σ:=Bool) (λJs RY=>
 ((if RY=Z then(
 (ix c (i64.wrap (5+Js))).bind λmL=>
 (ix ch Js).bind λjt=>
 (ix r (i64.wrap (4+Js))).bind λjI=>
 (ix ([h]++ch) Js).bind λyS=>
 (ix x Js).bind λyu=>
 (cU gr gr.G jI).bind λz96=>
 (cU gr yS yu).bind λz97=>
 (er gr [z96,z97]).bind λN4=>
 (ug mL jt N4 gr.P gr.Q gr.G z).bind λPD=>
 J PD)else(
 J aa):Option Bool).bind λzq=>
 J (.go zq))) (λRY=>RY) n 0 b=J (b&&(List.range n).all λi=>hlB gr z (c.getD (5+i) 0) (ch.getD i 0) (zjy gr h ch x r i)):=by
 refine bH (eo (λi y=>y=(b&&(List.range i).all λi=>hlB gr z (c.getD (5+i) 0) (ch.getD i 0) (zjy gr h ch x r i))) (by simp) ?_ λy h=>h);rintro i y hi hy;have h5:5+i<c.length:=by omega
 have h4:4+i<r.length:=by omega
 have I8:i<ch.length:=by omega
 have CT:i<x.length:=by omega
 have hb:=Fl k hh CA.2 i (by omega);refine az (ψ:=λy'=>y'=(y&&hlB gr z (c.getD (5+i) 0) (ch.getD i 0) (zjy gr h ch x r i))) (aZ (λg=>?_) λg=>am (by rw[g];rfl)) λy' iL=>am ?_
 ·rw[show i64.wrap (5+(i:Int))=((5+i:Nat):Int)from cT (by omega) (by omega),show i64.wrap (4+(i:Int))=((4+i:Nat):Int)from cT (by omega) (by omega)];refine bG h5 (bG I8 (bG h4 (ag hb.1 (bG CT (ag (fA k (fU k) _) (ag (fA k hb.2 _) (ag (j8 k (bL k _ _) (bL k _ _)) (ag (FL k (d4 k (iZ hc.2 h5)) (d4 k (iZ CA.2 I8))) (am ?_)))))))));rw[g,ig,bZ h5,bZ I8];unfold zjy;rw[bZ h4,bZ CT]
 show y'=_;rw[iL,hy,nc,kQ];simp[Mb]
def zxw(p:Nat->Bool)(n:Nat):(List.range (5+n)).all p=((p 0&&(p 1&&(p 2&&(p 3&&p 4))))&&(List.range n).all λi=>p (5+i)):=by
 rw[a1e,kQ,V7]
 have:(List.range 5).all p=(p 0&&(p 1&&(p 2&&(p 3&&p 4)))):=by
  show(p 0&&(p 1&&(p 2&&(p 3&&(p 4&&Z)))))=_;rw[B2]
 rw[this];rfl
end
attribute [local irreducible] wvL wvE wvZ hlB zjy bef
section
variable {gr:an}{key:Int}{B:cA}{l out:List aq}{p:cM}
set_option maxHeartbeats 4000000 in
def zAk(k:ap gr)(hk:aM gr key=Z)(hn:1<=l.length/\l.length<=12)(lc:∀c∈l,ce gr c=Z)(oc:∀c∈out,ce gr c=Z)(hb:sD gr l.length B):Fi gr B key l out p=J (tH gr key B l out p):=by
 have hp:=k.p;have hq:=k.q;unfold Fi;refine bH (az (ψ:=(· = !(decide (out.length=l.length)&&o7 gr l.length p))) ?_ ?_)
 ·rw[show((out.length:Int) !=(l.length:Int))= !decide (out.length=l.length)by rw[bne,iS]];refine aZ (λg=>am ?_) λg=>ag (zHy k (by omega) p) (am ?_)
  ·have:decide (out.length=l.length)=aa:=by simpa using g
   rw[this];rfl
  have:decide (out.length=l.length)=Z:=by simpa using g
  rw[this];rfl
 rintro b rfl;refine aZ (λg=>am ?_) λg=>?_
 ·rw[qK]at g;unfold tH;rw[<-Mb,g];rfl
 have g:(decide (out.length=l.length)&&o7 gr l.length p)=Z:=by simpa using g
 obtain⟨g1,g2⟩:=B3.1 g;have V:=QV (p:=p) hk hn lc oc hb (xM g1) g2;have hv:tH gr key B l out p=((p.Pi.aW.getD 0 0==wvZ gr key l out p)&&(List.range (5+l.length)).all (qd gr (wvZ gr key l out p) p.Pi.aE (mR gr B l (wvE gr key l out p) p) (nu gr key B l.length out p))):=by unfold tH;rw[g1,g2];rfl
 rw[hv];obtain⟨sM,zJ⟩:=V.e k;have kJ:0<p.Pi.aW.length:=by rw[V.cS];omega
 refine ag V.QR.1 (ag (V.chs k).1 (ag (V.cat k) (ag (V.a46 k) (az (ψ:=(· =(p.Pi.aW.getD 0 0 !=wvZ gr key l out p))) (bw rfl (bw rfl (bG (k:=0) kJ (am (by rw[bZ kJ]))))) ?_))));rintro b rfl;refine aZ (λg=>am ?_) λg=>?_
 ·rw[bne,qK]at g;rw[g];rfl
 rw[bne,Bool.not_eq_false']at g;rw[g,ig];have w4:i64.wrap ((l.length:Int)+4)=((l.length+4:Nat):Int):=cT (by omega) (by omega);have w1:i64.wrap ((l.length:Int)-1)=((l.length-1:Nat):Int):=cT (by omega) (by omega);have A9:(p.Pi.aG.take p.Pi.aG.length).drop (l.length+4)=p.Pi.aG.drop (l.length+4):=by rw[gw]
 have fF:=V.Zp.1;have iv:(p.Pi.aG.drop (l.length+4)).length=l.length:=by rw[Qm,fF];omega
 rw[w4,w1,dL,A9];generalize hX:p.Pi.aG.drop (l.length+4)=x at iv;refine aI (by omega) (aI (by omega) (ag (zyV k zJ) (ag (sN (by omega)).1 (ag (sN (by rw[V.ol];omega)).1 ?_))));have fk:=r7 k lc;have lO:=r7 k oc;have sI:=m8 l;have hol:=m8 out;rw[V.ol]at hol;have hH:=d4 k hb.h;have hK:=d4 k hk;have CU:=Fa k hb.s;have D0:=Fa k V.f8.2;have Rv:=hb.l;have gX:=V.f8.1;have WR:=V.mP.1;have D5:∀i,i<5->∃h:i<p.Pi.aE.length,R9 p.Pi.aE[i]:=λi hi=>⟨by rw[V.px.1];omega,d4 k (iZ V.px.2 (by rw[V.px.1];omega))⟩
 obtain⟨m0,t0⟩:=D5 0 (by omega);obtain⟨m1,t1⟩:=D5 1 (by omega);obtain⟨m2,t2⟩:=D5 2 (by omega);obtain⟨m3,t3⟩:=D5 3 (by omega);obtain⟨m4,t4⟩:=D5 4 (by omega);have r0:0<p.Pi.aG.length:=by omega
 have r1:1<p.Pi.aG.length:=by omega
 have r2:2<p.Pi.aG.length:=by omega
 have r3:3<p.Pi.aG.length:=by omega
 have DG:l.length-1<p.aH.length:=by omega
 have CE:=Ou (show 1<gr.Q by omega) (wvE gr key l out p) (wvE gr key l out p).length;have y8:=d4 k (iZ V.mP.2 DG);have qB:=FK k CU;have qC:=FK k D0
 have f0:qd gr (wvZ gr key l out p) p.Pi.aE (mR gr B l (wvE gr key l out p) p) (nu gr key B l.length out p) 0=hlB gr (wvZ gr key l out p) p.Pi.aE[0] (aQ gr [aQ gr p.cy,ay gr (aQ gr B.Hs) (-1)]) (ay gr gr.G p.Pi.aG[0]):=by
  rw[<-bZ (d:=0) m0,<-bZ (d:=0) r0];rfl
 have f1:qd gr (wvZ gr key l out p) p.Pi.aE (mR gr B l (wvE gr key l out p) p) (nu gr key B l.length out p) 1=hlB gr (wvZ gr key l out p) p.Pi.aE[1] (zaQ gr p.cy (wvE gr key l out p) 1) (aQ gr [ay gr gr.G p.Pi.aG[1],zaQ gr B.Hs x 1]):=by
  rw[<-bZ (d:=0) m1,<-bZ (d:=0) r1,<-hX];rfl
 have f2:qd gr (wvZ gr key l out p) p.Pi.aE (mR gr B l (wvE gr key l out p) p) (nu gr key B l.length out p) 2=hlB gr (wvZ gr key l out p) p.Pi.aE[2] (aQ gr [p.aH[l.length-1],ay gr (ay gr B.H (alN gr.Q (wvE gr key l out p) (wvE gr key l out p).length)) (-1)]) (ay gr gr.G p.Pi.aG[2]):=by
  rw[Zx k hb.h CE.1,<-bZ (d:=0) m2,<-bZ (d:=0) r2,<-bZ (d:=0) DG];rfl
 have f3:qd gr (wvZ gr key l out p) p.Pi.aE (mR gr B l (wvE gr key l out p) p) (nu gr key B l.length out p) 3=hlB gr (wvZ gr key l out p) p.Pi.aE[3] (zaQ gr (sdV l).1 (wvE gr key l out p) 1) (aQ gr [ay gr gr.G (i64.wrap (0-p.Pi.aG[3])),zaQ gr (sdV out).1 x 1]):=by
  rw[<-bZ (d:=0) m3,<-bZ (d:=0) r3,<-hX];rfl
 have f4:qd gr (wvZ gr key l out p) p.Pi.aE (mR gr B l (wvE gr key l out p) p) (nu gr key B l.length out p) 4=hlB gr (wvZ gr key l out p) p.Pi.aE[4] (zaQ gr (sdV l).2 (wvE gr key l out p) 1) (aQ gr [ay gr key (i64.wrap (0-p.Pi.aG[3])),zaQ gr (sdV out).2 x 1]):=by
  rw[<-bZ (d:=0) m4,<-bZ (d:=0) r3,<-hX];rfl
 have f5:((List.range l.length).all λi=>qd gr (wvZ gr key l out p) p.Pi.aE (mR gr B l (wvE gr key l out p) p) (nu gr key B l.length out p) (5+i))=(List.range l.length).all λi=>hlB gr (wvZ gr key l out p) (p.Pi.aE.getD (5+i) 0) (p.aH.getD i 0) (zjy gr B.H p.aH x p.Pi.aG i):=by
  rw[Wr,bm,bm];refine forall_congr' λi=>forall_congr' λhi=>?_
  have hi:=kP.1 hi
  have a1:(mR gr B l (wvE gr key l out p) p).getD (5+i) 0=p.aH.getD i 0:=by
   unfold mR;rw[nP,gj (by simp[JG]),nP];congr 2;simp[JG]
  have a2:(nu gr key B l.length out p).getD (5+i) 0=zjy gr B.H p.aH x p.Pi.aG i:=by
   unfold nu;rw[nP,gj (by simp[Gq]),hX];have:5+i-(Gq gr key B out x p.Pi.aG).length=i:=by simp[Gq]
   rw[this];simp[hi]
  unfold qd;rw[a1,a2]
 rw[zxw,f0,f1,f2,f3,f4,f5];have p0:=TO k (b:=aQ gr p.cy) (x:=aQ gr B.Hs) qC.1 qC.2 qB.1 qB.2;have p2:=TO k (b:=p.aH[l.length-1]) (x:=ay gr B.H (alN gr.Q (wvE gr key l out p) (wvE gr key l out p).length)) y8.1 y8.2 (bL k _ _).1 (bL k _ _).2;have u1:=oY k (m:=wvE gr key l out p) D0 (by omega);have u2:=oY k (m:=x) CU (by omega);have u3:=oY k (m:=wvE gr key l out p) fk.1 (by omega);have u4:=oY k (m:=wvE gr key l out p) fk.2 (by omega);have u5:=oY k (m:=x) lO.1 (by omega);have u6:=oY k (m:=x) lO.2 (by omega);have mm:=λa b ha hb=>j8 k (x:=a) (y:=b) ha hb
 generalize yA:hlB gr (wvZ gr key l out p) p.Pi.aE[0] (aQ gr [aQ gr p.cy,ay gr (aQ gr B.Hs) (-1)]) (ay gr gr.G p.Pi.aG[0])=b0;generalize eS:hlB gr (wvZ gr key l out p) p.Pi.aE[1] (zaQ gr p.cy (wvE gr key l out p) 1) (aQ gr [ay gr gr.G p.Pi.aG[1],zaQ gr B.Hs x 1])=b1;generalize gv:hlB gr (wvZ gr key l out p) p.Pi.aE[2] (aQ gr [p.aH[l.length-1],ay gr (ay gr B.H (alN gr.Q (wvE gr key l out p) (wvE gr key l out p).length)) (-1)]) (ay gr gr.G p.Pi.aG[2])=b2;generalize sS:hlB gr (wvZ gr key l out p) p.Pi.aE[3] (zaQ gr (sdV l).1 (wvE gr key l out p) 1) (aQ gr [ay gr gr.G (i64.wrap (0-p.Pi.aG[3])),zaQ gr (sdV out).1 x 1])=b3;generalize t7:hlB gr (wvZ gr key l out p) p.Pi.aE[4] (zaQ gr (sdV l).2 (wvE gr key l out p) 1) (aQ gr [ay gr key (i64.wrap (0-p.Pi.aG[3])),zaQ gr (sdV out).2 x 1])=b4;refine az (ψ:=(· =(b0&&(b1&&(b2&&(b3&&b4)))))) ?_ ?_
 ·refine bG (k:=0) m0 (bG (k:=0) r0 (ag (BA k D0) (ag (BA k CU) (ag p0 (ag (fA k (fU k) _) (ag ((FL k t0 (n0 k qC (bL k _ _))).trans (gF J yA)) (aZ (λg=>?_) λg=>am (by rw[g];rfl))))))));rw[g,ig];refine bG (k:=1) m1 (bG (k:=1) r1 (ag u1 (ag (fA k (fU k) _) (ag u2 (ag (j8 k (bL k _ _) (fY k _ _)) (ag ((FL k t1 (fY k _ _)).trans (gF J eS)) (aZ (λg=>?_) λg=>am (by rw[g];rfl))))))));rw[g,ig];refine bG (k:=2) m2 (bG DG (bG (k:=2) r2 (ag (fA k hH _) (ag p2 (ag (fA k (fU k) _) (ag ((FL k t2 (n0 k y8 (bL k _ _))).trans (gF J gv)) (aZ (λg=>?_) λg=>am (by rw[g];rfl))))))));rw[g,ig];refine bG (k:=3) m3 (bG (k:=3) r3 (ag u3 (ag (fA k (fU k) _) (ag u5 (ag (j8 k (bL k _ _) (fY k _ _)) (ag ((FL k t3 (fY k _ _)).trans (gF J sS)) (aZ (λg=>?_) λg=>am (by rw[g];rfl))))))));rw[g,ig];exact bG (k:=4) m4 (ag u4 (ag (fA k hK _) (ag u6 (ag (j8 k (bL k _ _) (fY k _ _)) (ag ((FL k t4 (fY k _ _)).trans (gF J t7)) (am rfl))))))
 rintro b rfl;exact aI (by simp only[d5,iz];omega) (ag rfl (ag (zye k hb.h V.px V.mP iv fF (by omega) _) (am rfl)))
end
end
end Go.Pm
