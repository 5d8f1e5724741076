/-
  FnStages: plain laws.
  No condition.
-/
import Derived.Test.YtnojafnlicbhpaaGreatM41c
import Derived.Test.YtnojafnlicbhpaaGreatPmZ
open Bool renaming false→aa,true→Z
open Option renaming some→J
set_option linter.defProp false
namespace Go.Pm
open Go.Am IntKind
def eM:=@Int.emod_emod
def f6:=@List.take_length
def iO:=@List.take_succ_eq_append_getElem
def je:=@Int.tmod_eq_emod_of_nonneg
def jf:=@List.not_mem_nil
def jg:=@or_false
def kq:=@List.all_append
def mN:=@List.range_succ
def mO:=@Int.mul_emod
def nv:=@List.getD_eq_getElem?_getD
def nV:=@Int.emod_nonneg
def o6:=@Int.natCast_emod
def o7:=@Nat.pow_mul
def o8:=@Int.add_emod
def qd:=@Nat.pow_mod
def qe:=@Int.emod_eq_of_lt
def sH:=@Int.sub_emod
def sI:=@Int.emod_lt_of_pos
def sJ:=@Int.mul_nonneg
def t6:=@Nat.mul_mod
def we:=@of_decide_eq_true
def wg:=@Int.mul_le_mul
def yC:=@List.all_eq_false
def A1:=@Int.le_refl
def A2:=@Bool.and_true
def A3:=@Bool.and_eq_true_iff
def Dd:=@decide_eq_false
def De:=@List.take_append_drop
def GA:=@List.foldl_append
def GB:=@Nat.one_pow
def GC:=@Int.add_mul_emod_self_left
def KD:=@List.mem_iff_getElem
def KE:=@List.all_nil
def KF:=@Int.mul_assoc
def KG:=@Bool.and_assoc
def OE:=@Nat.mod_mod
def OG:=@Nat.pow_add
def OH:=@Classical.byContradiction
def OI:=@List.drop_left'
def Uk:=@Int.tdiv_eq_ediv_of_nonneg
def Ul:=@Nat.mod_mul_mod
def Um:=@Nat.pow_two
def Un:=@Nat.pow_zero
def Uo:=@Int.tmod_lt_of_pos
def Up:=@Int.lt_tmod_of_pos
def Uq:=@Int.add_emod_right
def Ur:=@Int.sub_zero
def Us:=@of_decide_eq_false
def Ut:=@Nat.dvd_of_mod_eq_zero
def Uu:=@Int.mul_one
def Uv:=@List.nodup_cons
def Uw:=@Int.dvd_of_emod_eq_zero
def Ux:=@List.pairwise_map
def Uy:=@Int.natCast_pow
def Uz:=@Int.mul_le_mul_of_nonneg_left
def UA:=@Int.one_mul
def UB:=@Nat.add_sub_cancel_left
def UC:=@Bool.eq_iff_iff
def Aay:=@BitVec.toNat_and
def Aaz:=@Int.fdiv_eq_ediv_of_nonneg
def AaA:=@Int.tmod_def
def AaB:=@Int.mul_emod_right
def AaC:=@Int.ofNat_dvd_left
def AaD:=@Int.emod_eq_zero_of_dvd
def AaE:=@Int.pow_succ
def AaF:=@List.Pairwise.imp_of_mem
def AaG:=@List.take_append_getElem
def AaH:=@Int.mul_comm
def AaI:=@beq_self_eq_true
def AaJ:=@List.take_left'
def Acd:=@Nat.mod_eq_zero_of_dvd
def Ace:=@Bool.and_eq_false_iff
def Acf:=@List.nodup_iff_pairwise_ne
def Acg:=@List.pairwise_iff_getElem
def Ach:=@List.pairwise_lt_range
def Aci:=@Int.mul_tdiv_cancel
def Acj:=@List.mem_erase_of_ne
def Ack:=@List.length_erase_of_mem
def Acl:=@List.getElem?_set_self
def Acm:=@List.getElem?_set_ne
set_option linter.unusedVariables false
set_option linter.unusedSimpArgs false
variable{a at_ b h i key n q dC x y:Int}{c:an}{c0 code l m perm rs ss:List Int}{e k p:Nat}{gr:am}{out:List an}{s:ByteArray}
def zxd{r:List Int}(h1:k<l.length)(h2:k<r.length)(h:l.take k=r.take k)(he:l[k]=r[k]):l.take (k+1)=r.take (k+1):=by
 rw[iO h1,iO h2,h,he]
def I5(a b:List Int):C3 a b=J (decide (a=b)):=by
 unfold C3;by_cases hl:a.length=b.length
 ·have e:((a.length:Int) !=(b.length:Int))=aa:=by simp[hl]
  simp only[e,p7,l7]
  obtain⟨r,hb,hp⟩:=WQ (σ:=Unit) (β:=Unit ⊕ Bool) (body:=λi16 rD=>
   (ix a i16).bind λqx=>
   (ix b i16).bind λnY=>
   if(qx !=nY)=Z then(
   J (.out (.inr aa)))else(
   J (.go ()))) (stop:=λrD=>.inl ()) (m:=a.length) (i0:=0) (s0:=()) (λk _=>a.take k=b.take k)
   (λr=>Sum.elim (λ_=>a=b) (λr=>r=aa/\a≠b) r) (by simp)
   (by
     rintro k s hk hI;have AG:k<b.length:=by omega
     rw[KB];simp only[jh hk,jh AG,aR];by_cases he:a[k]=b[k]
     ·exact .inl ⟨(),by simp[he],zxd hk AG hI he⟩
     ·exact .inr ⟨.inr aa,by simp[he],rfl,λh=>by subst h;exact he rfl⟩)
   (by
     rintro s hI;rw[f6,hl,f6]at hI
     exact hI)
  rw[hb,aR];cases r with
  |inl u=>have hp:a=b:=hp;simp[hp]
  |inr r=>
   obtain⟨h1,h2⟩:r=aa/\a≠b:=hp;simp[h1,h2]
 have e:((a.length:Int) !=(b.length:Int))=Z:=by simp;omega
 have:a≠b:=λh=>hl (by rw[h])
 simp[e,this]
def tX(a b c:Int):pD a b c=J (decide (b<=a)&&decide (a<=c)):=by
 unfold pD;by_cases h:b<=a<;>simp[h]
def rE(a b c:Int):n6 a b c=J (decide (b<=a)&&decide (a<=c)):=by
 unfold n6;by_cases h:b<=a<;>simp[h]
def zoF(a:Int):Iz a=J (decide (2<=a)&&decide (a<=2000000000)):=by
 unfold Iz;rw[tX];rfl
def pA(a b:Nat):(a:Int).tmod (b:Int)=((a%b:Nat):Int):=by rw[je (by omega)];exact(o6 _ _).symm
def zxc(a b:Nat):(a:Int).tdiv (b:Int)=((a/b:Nat):Int):=by rw[Uk (by omega)];exact(Int.natCast_ediv _ _).symm
def AO(a b:Nat):(a:Int)*(b:Int)=((a*b:Nat):Int):=(C8 _ _).symm
def zBC(he:e<=9223372036854775807):i64.wrap (BitVec.ofInt IntKind.i64.bits (e:Int)&&&BitVec.ofInt IntKind.i64.bits 1).toNat=((e%2:Nat):Int):=by
 have h1:(BitVec.ofInt IntKind.i64.bits (e:Int)&&&BitVec.ofInt IntKind.i64.bits 1).toNat=e%2:=by
  rw[Aay]
  have a1:(BitVec.ofInt IntKind.i64.bits (e:Int)).toNat=e:=by
   rw[BitVec.toNat_ofInt];have:IntKind.i64.bits=64:=rfl;rw[this];omega
  have a2:(BitVec.ofInt IntKind.i64.bits 1).toNat=1:=by decide
  rw[a1,a2,Nat.and_one_is_mod]
 rw[h1,aI (by omega) (by omega)]
def zAQ{a m:Nat}(ha:a<=2000000000)(hm:1<=m)(q6:m<=2000000000)(he:e<=9223372036854775807):nC (a:Int) (e:Int) (m:Int)=J ((a^e%m:Nat):Int):=by
 unfold nC
 refine bE (aG (by omega) (ay (φ:=(· =((a^e%m:Nat):Int))) (tG (φ:=(· =((a^e%m:Nat):Int))) (λs=>∃x y o:Nat,s=((x:Int),(y:Int),(o:Int))/\x<=2000000000/\y<=e/\o<m/\o*x^y%m=a^e%m) (λs=>s.2.1.toNat)
  ⟨a,e,1%m,by rw[show(1:Int)=((1:Nat):Int)from rfl,pA],ha,cy _,mM _ (by omega),by rw[Ul,Kt]⟩ ?_) λx hx=>aj hx))
 rintro s ⟨x,y,o,rfl,hx,hy,ho,hi⟩;refine aZ (λh0=>?_) λh0=>?_
 ·have h0:0<y:=by simpa using h0
  have hox:o*x<=4000000000000000000:=gj (ri (show o<=2000000000 by omega) hx) (by decide);have hxx:x*x<=4000000000000000000:=gj (ri hx hx) (by decide);refine ay (ψ:=λo'=>∃k:Nat,o'=(k:Int)/\k<m/\k*(x*x)^(y/2)%m=a^e%m) ?_ ?_
  ·simp only[zBC (show y<=9223372036854775807 by omega)];refine aZ (λh1=>aG (by omega) (aj ⟨o*x%m,?_,mM _ (by omega),?_⟩)) λh1=>aj ⟨o,rfl,ho,?_⟩
   ·rw[AO,aI (by omega) (by omega),pA]
   ·have h1:y%2=1:=by
     have:((y%2:Nat):Int)=1:=by simpa using h1
     omega
    rw[Ul,<-hi,<-Um,<-o7,Nat.mul_assoc,<-Nat.pow_succ'];congr 3;omega
   have h1:y%2=0:=by
    have:¬((y%2:Nat):Int)=1:=by simpa using h1
    omega
   rw[<-hi,<-Um,<-o7];congr 3;omega
  rintro o' ⟨k,rfl,hk,AG⟩;refine aG (by omega) (aj ⟨⟨x*x%m,y/2,k,?_,by have:=mM (x*x) (show 0<m by omega);omega,by omega,hk,?_⟩,?_⟩)
  ·rw[AO,aI (by omega) (by omega),pA];have e3:(y:Int).fdiv 2=((y/2:Nat):Int):=by rw[Aaz _ (by omega)];rfl
   show(_,(y:Int).fdiv 2,_)=_;rw[e3]
  ·rw[t6,<-qd,<-t6];exact AG
  show((y:Int).fdiv 2).toNat<(y:Int).toNat;rw[Aaz _ (by omega)];omega
 have h0:y=0:=by
  have:¬(0<y):=by simpa using h0
  omega
 subst h0;refine aj ?_;show(o:Int)=_;rw[Un,Kv,nT ho]at hi;rw[hi]
def zzp{a m:Nat}(ha:a<=2000000000)(hm:1<=m)(q6:m<=2000000000)(he:e<=9223372036854775807):lw (a:Int) (e:Int) (m:Int)=J ((a^e%m:Nat):Int):=by
 unfold lw
 refine bE (aG (by omega) (ay (φ:=(· =((a^e%m:Nat):Int))) (tG (φ:=(· =((a^e%m:Nat):Int))) (λs=>∃x y o:Nat,s=((x:Int),(y:Int),(o:Int))/\x<=2000000000/\y<=e/\o<m/\o*x^y%m=a^e%m) (λs=>s.2.1.toNat)
  ⟨a,e,1%m,by rw[show(1:Int)=((1:Nat):Int)from rfl,pA],ha,cy _,mM _ (by omega),by rw[Ul,Kt]⟩ ?_) λx hx=>aj hx))
 rintro s ⟨x,y,o,rfl,hx,hy,ho,hi⟩;refine aZ (λh0=>?_) λh0=>?_
 ·have h0:0<y:=by simpa using h0
  have hox:o*x<=4000000000000000000:=gj (ri (show o<=2000000000 by omega) hx) (by decide);have hxx:x*x<=4000000000000000000:=gj (ri hx hx) (by decide);have e2:(y:Int).tmod 2=((y%2:Nat):Int):=pA y 2;refine ay (ψ:=λo'=>∃k:Nat,o'=(k:Int)/\k<m/\k*(x*x)^(y/2)%m=a^e%m) ?_ ?_
  ·simp only[e2];refine aZ (λh1=>aG (by omega) (aj ⟨o*x%m,?_,mM _ (by omega),?_⟩)) λh1=>aj ⟨o,rfl,ho,?_⟩
   ·rw[AO,aI (by omega) (by omega),pA]
   ·have h1:y%2=1:=by
     have:((y%2:Nat):Int)=1:=by simpa using h1
     omega
    rw[Ul,<-hi,<-Um,<-o7,Nat.mul_assoc,<-Nat.pow_succ'];congr 3;omega
   have h1:y%2=0:=by
    have:¬((y%2:Nat):Int)=1:=by simpa using h1
    omega
   rw[<-hi,<-Um,<-o7];congr 3;omega
  rintro o' ⟨k,rfl,hk,AG⟩;have e3:(y:Int).tdiv 2=((y/2:Nat):Int):=zxc y 2;refine aG (by omega) (aj ⟨⟨x*x%m,y/2,k,?_,by have:=mM (x*x) (show 0<m by omega);omega,by omega,hk,?_⟩,?_⟩)
  ·simp only[e3];rw[AO,aI (n:=((x*x:Nat):Int)) (by omega) (by omega),pA,aI (n:=((y/2:Nat):Int)) (by omega) (by omega)]
  ·rw[t6,<-qd,<-t6];exact AG
  show(i64.wrap ((y:Int).tdiv 2)).toNat<(y:Int).toNat;rw[e3,aI (by omega) (by omega)];omega
 have h0:y=0:=by
  have:¬(0<y):=by simpa using h0
  omega
 subst h0;refine aj ?_;show(o:Int)=_;rw[Un,Kv,nT ho]at hi;rw[hi]
def Rf(h0:0<q)(h1:q<=2000000000):At a q=J (a%q):=by
 unfold At;rw[eK (by omega),eK (by omega)];have b1:a.tmod q<q:=Uo a h0
 have b2: -q<a.tmod q:=by
  have:=Up a h0;omega
 rw[aI (by omega) (by omega),je (by omega)];congr 1;rw[Uq];rw[AaA,sH,AaB,Ur,eM]
def BX(h0:0<q)(h1:q<=2000000000):qo a q=J (a%q):=by
 unfold qo;rw[eK (by omega),eK (by omega)];have b1:a.tmod q<q:=Uo a h0
 have b2: -q<a.tmod q:=by
  have:=Up a h0;omega
 rw[aI (by omega) (by omega),je (by omega)];congr 1;rw[Uq];rw[AaA,sH,AaB,Ur,eM]
def Pr(n:Nat):Prop:=2<=n/\∀d,2<=d->d*d<=n->n%d≠0
open Classical in
noncomputable def lO(n:Int):Bool:=decide (Pr n.toNat)
def mS{n:Nat}:lO (n:Int)=Z↔Pr n:=by simp[lO]
def DP(n:Int)(h:n<=2000000000):AQ n=J (lO n):=by
 unfold AQ;refine bE (aZ (λh0=>aj ?_) λh0=>?_)
 ·have h0:n<2:=by simpa using h0
  symm;unfold lO;rw[wd];intro hp;have:=hp.1;omega
 have h0:¬n<2:=by simpa using h0
 obtain⟨n,rfl⟩:=fJ (show 0<=n by omega);refine ay (ψ:=λb=>(b=.inl ()/\Pr n)\/(b=.inr aa/\¬Pr n)) (tG (λs=>∃d:Nat,s=(d:Int)/\2<=d/\d<=44723/\∀k,2<=k->k<d->k*k<=n->n%k≠0) (λs=>50000-s.toNat) ⟨2,rfl,by omega,by omega,λk h1 h2=>by omega⟩ ?_) ?_
 ·rintro s ⟨d,rfl,hd,kG,hi⟩;have hdd:d*d<=2000146729:=gj (ri kG kG) (by decide);rw[AO,aI (by omega) (by omega)];refine aZ (λh1=>aG (by omega) (aZ (λh2=>aj (.inr ⟨rfl,?_⟩)) λh2=>aj ?_)) λh1=>aj (.inl ⟨rfl,by omega,λk hk Au=>?_⟩)
  ·have h1:d*d<=n:=by have:=we h1;omega
   rw[pA]at h2
   have h2 : n % d = 0 := by have:((n%d:Nat):Int)=0:=by simpa using h2
                             omega
   exact λhp=>hp.2 d hd h1 h2
  ·have h1:d*d<=n:=by have:=we h1;omega
   rw[pA]at h2
   have h2 : n % d ≠ 0 := by have:¬((n%d:Nat):Int)=0:=by simpa using h2
                             omega
   have hd3:d<=44722:=by
    rcases dK d 44723 with h|h
    ·omega
    ·have:44723*44723<=d*d:=ri h h;omega
   rw[aI (by omega) (by omega)];refine⟨⟨d+1,rfl,by omega,by omega,λk h3 h4 h5=>?_⟩,by omega⟩;rcases dK k d with h|h
   ·exact hi k h3 h h5
   have:k=d:=by omega
   subst this;exact h2
  have h1:n<d*d:=by have:=Us h1;omega
  rcases dK k d with h|h
  ·exact hi k hk h Au
  have:=ri h h;omega
 rintro b (⟨rfl,hp⟩|⟨rfl,hp⟩)
 ·exact aj (mS.2 hp).symm
 refine aj ?_;symm;unfold lO;rw[wd];exact hp
def Xl(n:Int):Ee n=J (decide (n<=2000000000)&&lO n):=by
 unfold Ee;by_cases h:2<=n/\n<=2000000000
 ·obtain⟨n,rfl⟩:=fJ (show 0<=n by omega);have e2:((n:Int)).tmod 2=((n%2:Nat):Int):=pA n 2;have em:(decide (2<=(n:Int))&&decide ((n:Int)<=2000000000))=Z:=by simp only[bI,eC];exact h
  rw[show(decide ((n:Int)<=2000000000)&&lO (n:Int))=lO (n:Int)by simp[h.2]];refine bE (ay (ψ:=λb=>b=decide (n%2=0/\n≠2)) (ag (zoF _) ?_) ?_)
  ·rw[em];refine bt rfl ?_;rw[e2];refine aZ (λh1=>aj ?_) λh1=>aj ?_
   ·have h1 : n % 2 = 0 := by have:((n%2:Nat):Int)=0:=by simpa using h1
                              omega
    have:((n:Int) !=2)=decide (n≠2):=by
     by_cases hn:n=2
     ·subst hn;rfl
     ·have Hj:¬(n:Int)=2:=by omega
      simp[hn,Hj]
    rw[this];simp[h1]
   have h1 : n % 2 ≠ 0 := by have:¬((n%2:Nat):Int)=0:=by simpa using h1
                             omega
   simp[h1]
  rintro b rfl;refine aZ (λh1=>aj ?_) λh1=>?_
  ·have h1:=we h1;symm;unfold lO;rw[wd];intro hp;have hn:4<=n:=by omega
   exact hp.2 2 (by omega) hn h1.1
  have h1:=Us h1;refine ay (ψ:=λb=>(b=.inl ()/\Pr n)\/(b=.inr aa/\¬Pr n)) (tG (λs=>∃d:Nat,s=(d:Int)/\3<=d/\d%2=1/\d<=44725/\∀k,2<=k->k<d->k*k<=n->n%k≠0) (λs=>50000-s.toNat) ⟨3,rfl,by omega,by omega,by omega,λk h2 h3 h4=>?_⟩ ?_) ?_
  ·have:k=2:=by omega
   subst this;intro h5;exact h1 ⟨h5,by omega⟩
  ·rintro s ⟨d,rfl,hd,Acu,kG,hi⟩;have hdd:d*d<=2000325625:=gj (ri kG kG) (by decide);rw[AO,aI (by omega) (by omega)];refine aZ (λh1=>aG (by omega) (aZ (λh2=>aj (.inr ⟨rfl,?_⟩)) λh2=>aj ?_)) λh1=>aj (.inl ⟨rfl,by omega,λk hk Au=>?_⟩)
   ·have h1:d*d<=n:=by have:=we h1;omega
    rw[pA]at h2
    have h2 : n % d = 0 := by have:((n%d:Nat):Int)=0:=by simpa using h2
                              omega
    exact λhp=>hp.2 d (by omega) h1 h2
   ·have h3:d*d<=n:=by have:=we h1;omega
    rw[pA]at h2
    have h2 : n % d ≠ 0 := by have:¬((n%d:Nat):Int)=0:=by simpa using h2
                              omega
    have hd3:d<=44722:=by
     rcases dK d 44723 with h|h
     ·omega
     ·have:44723*44723<=d*d:=ri h h;omega
    rw[aI (by omega) (by omega)];refine⟨⟨d+2,rfl,by omega,by omega,by omega,λk h4 h5 h6 h7=>?_⟩,by omega⟩;rcases dK k d with h|h
    ·exact hi k h4 h h6 h7
    rcases(show k=d\/k=d+1 by omega)with e|e
    ·subst e;exact h2 h7
    have h8:n%2=0:=by
     have a1:k∣n:=Ut h7;have a2:2∣k:=Ut (by omega);exact Acd (Nat.dvd_trans a2 a1)
    have h9:2*2<=n:=by
     have:=ri h4 h4;omega
    exact hi 2 (by omega) (by omega) h9 h8
   have h1:n<d*d:=by have:=Us h1;omega
   rcases dK k d with h|h
   ·exact hi k hk h Au
   have:=ri h h;omega
  rintro b (⟨rfl,hp⟩|⟨rfl,hp⟩)
  ·exact aj (mS.2 hp).symm
  refine aj ?_;symm;unfold lO;rw[wd];exact hp
 have em:(decide (2<=n)&&decide (n<=2000000000))=aa:=by
  rw[Ace,wd,wd];omega
 rw[zoF,em];simp only[aR,Bool.not_false,eP];congr 1;symm;rw[Ace,wd];by_cases hn:n<=2000000000
 ·right;unfold lO;rw[wd];intro hp;have:=hp.1;omega
 exact .inl hn
structure ao (gr:am):Prop where
 p:3<=gr.P/\gr.P<=2000000000
 q:2<=gr.Q/\gr.Q<=gr.P-1
 d:(gr.P.toNat-1)%gr.Q.toNat=0
 g:2<=gr.G/\gr.G<=gr.P-1
 pp:Pr gr.P.toNat
 pq:Pr gr.Q.toNat
 o:gr.G.toNat^gr.Q.toNat%gr.P.toNat=1
open Classical in
noncomputable def vq(gr:am):Bool:=decide (ao gr)
def NL :vq gr=Z↔ao gr:=by simp[vq]
def oU(h:¬ao gr):vq gr=aa:=by simp[vq,h]
def Y3{b:Bool}(h1:b=Z->ao gr)(h2:ao gr->b=Z):b=vq gr:=by
 cases hb:b with
 |true=>exact(NL.2 (h1 hb)).symm
 |false=>exact(oU λh=>by rw[h2 h]at hb;cases hb).symm
def oi(h:0<=a):a=((a.toNat:Nat):Int):=by omega
def pW{e m:Int}(ha:0<=a)(ha2:a<=2000000000)(hm:1<=m)(q6:m<=2000000000)(he:0<=e)(he2:e<=9223372036854775807):nC a e m=J ((a.toNat^e.toNat%m.toNat:Nat):Int)/\lw a e m=J ((a.toNat^e.toNat%m.toNat:Nat):Int):=by
 have h1:=zAQ (a:=a.toNat) (e:=e.toNat) (m:=m.toNat) (by omega) (by omega) (by omega) (by omega);have h2:=zzp (a:=a.toNat) (e:=e.toNat) (m:=m.toNat) (by omega) (by omega) (by omega) (by omega);rw[<-oi ha,<-oi he,<-oi (show 0<=m by omega)]at h1 h2;exact⟨h1,h2⟩
def Om{a b:Bool}:(a&&b)=Z↔a=Z/\b=Z:=by simp
def YU(gr:am):JR gr=J (vq gr):=by
 unfold JR;refine bE (ay (ψ:=λb=>b=vq gr) ?_ λb hb=>aj hb);refine ag (tX _ _ _) (aZ (λh=>?_) λh=>?_)
 ·have hp:3<=gr.P/\gr.P<=2000000000:=by simpa using h
  rw[aI (n:=gr.P-1) (by omega) (by omega)];refine ag (tX _ _ _) (aZ (λh=>?_) λh=>?_)
  ·have hq:2<=gr.Q/\gr.Q<=gr.P-1:=by simpa using h
   have ed:(gr.P-1).tmod gr.Q=(((gr.P.toNat-1)%gr.Q.toNat:Nat):Int):=by
    rw[oi (show 0<=gr.P-1 by omega),oi (show 0<=gr.Q by omega),pA];simp only[dG];congr 2;omega
   refine aG (by omega) ?_;rw[ed];refine aZ (λh=>?_) λh=>?_
   ·have hd:(gr.P.toNat-1)%gr.Q.toNat=0:=by
     have:(((gr.P.toNat-1)%gr.Q.toNat:Nat):Int)=0:=by simpa using h
     omega
    refine ag (tX _ _ _) (aZ (λh=>?_) λh=>?_)
    ·have hg:2<=gr.G/\gr.G<=gr.P-1:=by simpa using h
     refine ag (Xl _) (aZ (λh=>?_) λh=>?_)
     ·have Sw:Pr gr.P.toNat:=by
       rw[Om,oi (show 0<=gr.P by omega),mS]at h;exact h.2
      refine ag (Xl _) (aZ (λh=>?_) λh=>?_)
      ·have pj:Pr gr.Q.toNat:=by
        rw[Om,oi (show 0<=gr.Q by omega),mS]at h;exact h.2
       refine ag (pW (a:=gr.G) (e:=gr.Q) (m:=gr.P) (by omega) (by omega) (by omega) (by omega) (by omega) (by omega)).1 (aj (Y3 (λh=>⟨hp,hq,hd,hg,Sw,pj,?_⟩) λh=>?_))
       ·have:((gr.G.toNat^gr.Q.toNat%gr.P.toNat:Nat):Int)=1:=by simpa using h
        omega
       rw[h.o];rfl
      refine aj (oU λhk=>?_).symm
      have:(decide (gr.Q<=2000000000)&&lO gr.Q)=Z:=by
       rw[Om,oi (show 0<=gr.Q by omega),mS];exact⟨by simp;omega,hk.pq⟩
      rw[this]at h;cases h
     refine aj (oU λhk=>?_).symm
     have:(decide (gr.P<=2000000000)&&lO gr.P)=Z:=by
      rw[Om,oi (show 0<=gr.P by omega),mS];exact⟨by simp;omega,hk.pp⟩
     rw[this]at h;cases h
    refine aj (oU λhk=>?_).symm;have:=hk.g;simp at h;omega
   refine aj (oU λhk=>?_).symm;rw[hk.d]at h;cases h
  refine aj (oU λhk=>?_).symm;have:=hk.q;simp at h;omega
 refine aj (oU λhk=>?_).symm;have:=hk.p;simp at h;omega
def J4(gr:am):za gr=J (vq gr):=by
 unfold za;refine bE (ay (ψ:=λb=>b=vq gr) ?_ λb hb=>aj hb);refine ag (rE _ _ _) (aZ (λh=>?_) λh=>?_)
 ·have hp:3<=gr.P/\gr.P<=2000000000:=by simpa using h
  rw[aI (n:=gr.P-1) (by omega) (by omega)];refine ag (rE _ _ _) (aZ (λh=>?_) λh=>?_)
  ·have hq:2<=gr.Q/\gr.Q<=gr.P-1:=by simpa using h
   have ed:(gr.P-1).tmod gr.Q=(((gr.P.toNat-1)%gr.Q.toNat:Nat):Int):=by
    rw[oi (show 0<=gr.P-1 by omega),oi (show 0<=gr.Q by omega),pA];simp only[dG];congr 2;omega
   refine aG (by omega) ?_;rw[ed];refine aZ (λh=>?_) λh=>?_
   ·have hd:(gr.P.toNat-1)%gr.Q.toNat=0:=by
     have:(((gr.P.toNat-1)%gr.Q.toNat:Nat):Int)=0:=by simpa using h
     omega
    refine ag (rE _ _ _) (aZ (λh=>?_) λh=>?_)
    ·have hg:2<=gr.G/\gr.G<=gr.P-1:=by simpa using h
     refine ag (pW (a:=gr.G) (e:=gr.Q) (m:=gr.P) (by omega) (by omega) (by omega) (by omega) (by omega) (by omega)).2 (aZ (λh=>?_) λh=>?_)
     ·have ho:gr.G.toNat^gr.Q.toNat%gr.P.toNat=1:=by
       have:((gr.G.toNat^gr.Q.toNat%gr.P.toNat:Nat):Int)=1:=by simpa using h
       omega
      refine ag (DP _ (by omega)) (aZ (λh=>?_) λh=>?_)
      ·have pj:Pr gr.Q.toNat:=by
        rw[oi (show 0<=gr.Q by omega),mS]at h;exact h
       refine ag (DP _ (by omega)) (aj (Y3 (λh=>⟨hp,hq,hd,hg,?_,pj,ho⟩) λh=>?_))
       ·rw[oi (show 0<=gr.P by omega),mS]at h;exact h
       rw[oi (show 0<=gr.P by omega),mS];exact h.pp
      refine aj (oU λhk=>?_).symm
      have:lO gr.Q=Z:=by
       rw[oi (show 0<=gr.Q by omega),mS];exact hk.pq
      rw[this]at h;cases h
     refine aj (oU λhk=>?_).symm;rw[hk.o]at h;cases h
    refine aj (oU λhk=>?_).symm;have:=hk.g;simp at h;omega
   refine aj (oU λhk=>?_).symm;rw[hk.d]at h;cases h
  refine aj (oU λhk=>?_).symm;have:=hk.q;simp at h;omega
 refine aj (oU λhk=>?_).symm;have:=hk.p;simp at h;omega
def aK(gr:am)(x:Int):Bool:=decide (1<=x)&&decide (x<=gr.P-1)&&decide (x.toNat^gr.Q.toNat%gr.P.toNat=1)
def dq(gr:am)(x:Int):Bool:=decide (0<=x)&&decide (x<=gr.Q-1)
def Mp(k:ao gr)(x:Int):An gr x=J (aK gr x):=by
 have hp:=k.p;have hq:=k.q;unfold An aK;rw[aI (n:=gr.P-1) (by omega) (by omega),tX];refine bE (ay (ψ:=λb=>b=_) ?_ λb hb=>aj hb);refine ag rfl (aZ (λh=>?_) λh=>?_)
 ·have hx:1<=x/\x<=gr.P-1:=by simpa using h
  refine ag (pW (a:=x) (e:=gr.Q) (m:=gr.P) (by omega) (by omega) (by omega) (by omega) (by omega) (by omega)).1 (aj ?_);rw[h,gV];by_cases h1:x.toNat^gr.Q.toNat%gr.P.toNat=1
  ·simp[h1]
  have:¬((x.toNat^gr.Q.toNat%gr.P.toNat:Nat):Int)=1:=by omega
  rw[beq_false_of_ne this,Dd h1]
 rw[h];exact aj rfl
def xW(k:ao gr)(l:List Int):pu gr l=J (l.all (aK gr)):=by
 have hp:=k.p;have hq:=k.q;unfold pu;rw[aI (n:=gr.P-1) (by omega) (by omega)];refine bE (ay (ψ:=λb=>(b=.inl ()/\l.all (aK gr)=Z)\/(b=.inr aa/\l.all (aK gr)=aa)) (d9 (λi s=>(l.take i).all (aK gr)=Z) rfl ?_ ?_) ?_)
 ·rintro i s hi hI;refine bD hi (ay (ψ:=λb=>b= !aK gr l[i]) ?_ ?_)
  ·refine ag (rE _ _ _) (aZ (λh=>aj ?_) λh=>?_)
   ·have h:(decide (1<=l[i])&&decide (l[i]<=gr.P-1))=aa:=by rwa [qc]at h
    simp[aK,h]
   have h:(decide (1<=l[i])&&decide (l[i]<=gr.P-1))=Z:=by simpa using h
   have hx:1<=l[i]/\l[i]<=gr.P-1:=by simpa using h
   refine ag (pW (a:=l[i]) (e:=gr.Q) (m:=gr.P) (by omega) (by omega) (by omega) (by omega) (by omega) (by omega)).2 (aj ?_);simp only[aK,h,gV];by_cases h1:l[i].toNat^gr.Q.toNat%gr.P.toNat=1
   ·simp[h1]
   have:¬((l[i].toNat^gr.Q.toNat%gr.P.toNat:Nat):Int)=1:=by omega
   simp only[bne,beq_false_of_ne this,Dd h1]
  rintro b rfl;refine aZ (λh=>aj (.inr ⟨rfl,?_⟩)) λh=>aj ?_
  ·have h:aK gr l[i]=aa:=by simpa using h
   rw[yC];exact⟨l[i],e9 hi,by simp[h]⟩
  have h:aK gr l[i]=Z:=by simpa using h
  show(l.take (i+1)).all (aK gr)=Z;rw[iO hi,kq,hI];simp[h]
 ·rintro s hI;rw[f6]at hI;exact .inl ⟨rfl,hI⟩
 rintro b (⟨rfl,h⟩|⟨rfl,h⟩)
 ·exact aj h.symm
 exact aj h.symm
def Pa(l:List Int)(a b:Int):Cg l a b=J (l.all λx=>decide (a<=x)&&decide (x<=b)):=by
 unfold Cg;refine bE (ay (ψ:=λc=>(c=.inl ()/\(l.all λx=>decide (a<=x)&&decide (x<=b))=Z)\/(c=.inr aa/\(l.all λx=>decide (a<=x)&&decide (x<=b))=aa)) (d9 (λi s=>((l.take i).all λx=>decide (a<=x)&&decide (x<=b))=Z) rfl ?_ ?_) ?_)
 ·rintro i s hi hI;refine bD hi (ag (rE _ _ _) (aZ (λh=>aj (.inr ⟨rfl,?_⟩)) λh=>aj ?_))
  ·rw[yC];exact⟨l[i],e9 hi,by rw[qc]at h;rw[h];simp⟩
  show((l.take (i+1)).all λx=>decide (a<=x)&&decide (x<=b))=Z;rw[iO hi,kq,hI];simpa using h
 ·rintro s hI;rw[f6]at hI;exact .inl ⟨rfl,hI⟩
 rintro c (⟨rfl,h⟩|⟨rfl,h⟩)
 ·exact aj h.symm
 exact aj h.symm
def yO(h:0<=gr.Q)(h2:gr.Q<=2000000000)(l:List Int):ru gr l=J (l.all (dq gr)):=by
 unfold ru;rw[aI (by omega) (by omega),Pa];rfl
def zBD(h:0<=gr.Q)(h2:gr.Q<=2000000000)(x:Int):Iu gr x=J (dq gr x):=by
 unfold Iu;rw[aI (by omega) (by omega),tX];rfl
def av(gr:am)(x e:Int):Int:=((x.toNat^(e%gr.Q).toNat%gr.P.toNat:Nat):Int)
def AK(k:ao gr)(x e:Int):0<=av gr x e/\av gr x e<=gr.P-1:=by
 have hp:=k.p;unfold av;have:=mM (x.toNat^(e%gr.Q).toNat) (y:=gr.P.toNat) (by omega);omega
def DM(k:ao gr)(h0:0<=x)(h1:x<=2000000000)(e:Int):cQ gr x e=J (av gr x e)/\cD gr x e=J (av gr x e):=by
 have hp:=k.p;have hq:=k.q;have b1:0<=e%gr.Q:=nV _ (by omega);have b2:e%gr.Q<gr.Q:=sI _ (by omega);have hw:=pW (a:=x) (e:=e%gr.Q) (m:=gr.P) (by omega) (by omega) (by omega) (by omega) b1 (by omega);unfold cQ cD;rw[Rf (by omega) (by omega),BX (by omega) (by omega),aR,aR,hw.1,hw.2];exact⟨rfl,rfl⟩
def zCF(k:ao gr)(h0:0<=x)(h1:x<=2000000000)(e:Int):cD gr x e=J (av gr x e):=by
 have hp:=k.p;have hq:=k.q;have b1:0<=e%gr.Q:=nV _ (by omega);have b2:e%gr.Q<gr.Q:=sI _ (by omega);have hw:=pW (a:=x) (e:=e%gr.Q) (m:=gr.P) (by omega) (by omega) (by omega) (by omega) b1 (by omega);unfold cD;rw[BX (by omega) (by omega),aR,hw.2];rfl
def aP(gr:am)(l:List Int):Int:=l.foldl (λo x=>o*x%gr.P) 1
def W7(h:1<=gr.P):∀(l:List Int) (o:Int),0<=o->o<=gr.P->(∀x∈l,0<=x)->0<=l.foldl (λo x=>o*x%gr.P) o/\l.foldl (λo x=>o*x%gr.P) o<=gr.P:=by
 intro l;induction l with
 |nil=>intro o h0 h1 _;exact⟨h0,h1⟩
 |cons x l ih=>
  intro o h0 h1 h2;exact ih _ (nV _ (by omega)) (Int.le_of_lt (sI (o*x) (show 0<gr.P by omega))) λy hy=>h2 y (nU _ hy)
theorem zDj(gr:am)(l:List Int):eg gr l=en gr l:=rfl
def Ap(k:ao gr)(hl:∀x∈l,0<=x/\x<=2000000000):en gr l=J (aP gr l):=by
 have hp:=k.p;unfold en;refine bE (ay (ψ:=λb=>b=aP gr l) (d9 (λi s=>s=(l.take i).foldl (λo x=>o*x%gr.P) 1) rfl ?_ ?_) λb hb=>aj hb)
 ·rintro i s hi rfl;have hb:=W7 (gr:=gr) (by omega) (l.take i) 1 (by omega) (by omega) λx hx=>(hl x (Gv hx)).1
  have hx:=hl l[i] (e9 hi);refine bD hi (aG (by omega) (aj ?_));show _=(l.take (i+1)).foldl _ _;rw[iO hi,GA];generalize (l.take i).foldl (λo x=>o*x%gr.P) 1=o at hb⊢;have b1:0<=o*l[i]:=sJ hb.1 hx.1;have b2:o*l[i]<=2000000000*2000000000:=wg (by omega) hx.2 hx.1 (by omega);show(i64.wrap (o*l[i])).tmod gr.P=o*l[i]%gr.P;rw[aI (by omega) (by omega),je b1]
 rintro s rfl;rw[f6];rfl
def HH(k:ao gr)(hl:∀x∈l,0<=x/\x<=2000000000):eg gr l=J (aP gr l):=by rw[zDj];exact Ap k hl
def zBT(k:ao gr)(hl:∀x∈l,0<=x/\x<=2000000000):0<=aP gr l/\aP gr l<=gr.P:=by
 have hp:=k.p;exact W7 (by omega) l 1 (by omega) (by omega) λx hx=>(hl x hx).1
def Cc(k:ao gr)(l:List Int):tD gr l=J (l.all (aK gr)):=by
 unfold tD LB Lj LQ;refine bE (ay (ψ:=λb=>b=l.all (aK gr)) (ay (ψ:=λb=>b= !l.all (aK gr)) (ay (ψ:=λj=>(j=-1/\l.all (aK gr)=Z)\/(0<=j/\l.all (aK gr)=aa)) (ay (ψ:=λb=>(b=.inl ()/\l.all (aK gr)=Z)\/(∃j,b=.inr j/\0<=j/\l.all (aK gr)=aa)) (d9 (λi s=>(l.take i).all (aK gr)=Z) rfl ?_ ?_) ?_) ?_) ?_) ?_)
 ·rintro i s hi hI
  have hc:GO l[i] gr=J (!aK gr l[i]):=by
   unfold GO;rw[Mp k];rfl
  refine bD hi (ag hc (aZ (λh=>aj (.inr ⟨i,rfl,by omega,?_⟩)) λh=>aj ?_))
  ·rw[yC];exact⟨l[i],e9 hi,by rw[qc]at h;rw[h];simp⟩
  show(l.take (i+1)).all (aK gr)=Z;rw[iO hi,kq,hI];simpa using h
 ·rintro s hI;rw[f6]at hI;exact .inl ⟨rfl,hI⟩
 ·rintro b (⟨rfl,h⟩|⟨j,rfl,h0,h⟩)
  ·exact aj (.inl ⟨rfl,h⟩)
  exact aj (.inr ⟨h0,h⟩)
 ·rintro j (⟨rfl,h⟩|⟨h0,h⟩)
  ·exact aj (by rw[h];rfl)
  exact aj (by rw[h];simpa using h0)
 ·rintro b rfl;exact aj (by simp)
 rintro b rfl;exact aj rfl
def qZ(h:aK gr x=Z):1<=x/\x<=gr.P-1:=by
 simp only[aK,bI,eC]at h;exact h.1
def zrv(k:ao gr){m:Int}(hy:aK gr y=Z)(hm:aK gr m=Z)(r:Int):
 J7 gr y m r=J (an.mk (av gr gr.G r) (aP gr [m,av gr y r]))/\I6 gr y m r=J (an.mk (av gr gr.G r) (aP gr [m,av gr y r])):=by
 have hp:=k.p;have hg:=k.g;have b1:=qZ hy;have b2:=qZ hm;have e1:=DM k (x:=gr.G) (by omega) (by omega) r;have e2:=DM k (x:=y) (by omega) (by omega) r
 have hl:∀x∈[m,av gr y r],0<=x/\x<=2000000000:=λx hx=>by
  simp only[fK,jf,jg]at hx;rcases hx with rfl|rfl
  ·omega
  ·have:=AK k y r;omega
 unfold J7 I6;rw[e1.1,e1.2,aR,aR,e2.1,e2.2,aR,aR,Ap k hl,HH k hl];exact⟨rfl,rfl⟩
def SC{α:Type}(b:Bool)(u v:α):(if b=Z then J u else J v)=J (if(!b)=Z then v else u):=by cases b<;>rfl
def zGz{α:Type}(b:Bool)(u v:α):(if(!b)=Z then J u else J v)=J (if b=Z then v else u):=by cases b<;>rfl
def IW{β:Type}{body:Int->Unit->Option (fg Unit (Unit ⊕ β))}(m:Nat)(p:Nat->Bool)(val:Nat->β)(h:∀k,k<m->body (k:Int) ()=J (if p k=Z then .go ()else .out (.inr (val k)))):
 (aS body (λ_=>.inl ()) m 0 ()=J (.inl ())/\∀k,k<m->p k=Z)\/∃k,k<m/\p k=aa/\(∀j,j<k->p j=Z)/\aS body (λ_=>.inl ()) m 0 ()=J (.inr (val k)):=by
 have key:Rn (aS body (λ_=>Sum.inl ()) m 0 ()) (λb=>(b=.inl ()/\∀k,k<m->p k=Z)\/∃k,k<m/\p k=aa/\(∀j,j<k->p j=Z)/\b=.inr (val k)):=by
  refine d9 (λk _=>∀j,j<k->p j=Z) (λj hj=>by omega) ?_ λs hs=>.inl ⟨rfl,hs⟩
  intro k s hk hI;refine⟨_,h k hk,?_⟩;cases hp:p k with
  |true=>
   intro j hj;rcases dK j k with h|h
   ·exact hI j h
   ·have:j=k:=by omega
    rw[this];exact hp
  |false=>exact .inr ⟨k,hk,hp,hI,rfl⟩
 obtain⟨b,e,h1|⟨k,h1,h2,h3,h4⟩⟩:=key
 ·exact .inl ⟨by rw[e,h1.1],h1.2⟩
 exact .inr ⟨k,h1,h2,h3,by rw[e,h4]⟩
def zz6{α:Type}(l:List α)(p:α->Bool)(c:Bool){body:Int->Unit->Option (fg Unit (Unit ⊕ Bool))}(h:∀k (hk:k<l.length),body (k:Int) ()=J (if p l[k]=Z then .go ()else .out (.inr c))):
 (aS body (λ_=>.inl ()) l.length 0 ()).bind (Sum.elim (λ_=>J (!c)) J)=J (if l.all p=Z then !c else c):=by
 rcases IW (body:=body) l.length (λk=>(l[k]?).any p) (λ_=>c) (λk hk=>by rw[h k hk,cE hk];rfl)with⟨e,h1⟩|⟨k,h1,h2,h3,e⟩
 ·rw[e]
  have:l.all p=Z:=by
   rw[bm];intro x hx;obtain⟨k,hk,rfl⟩:=KD.1 hx;have:=h1 k hk;rw[cE hk]at this;exact this
  rw[this];rfl
 rw[e]
 have:l.all p=aa:=by
  rw[yC];refine⟨l[k],e9 h1,?_⟩;rw[cE h1]at h2;simpa using h2
 rw[this];rfl
def Yv(l:List Int)(x:Int):Ea l x=J (l.contains x):=by
 unfold Ea
 have:=zz6 l (λy=> !(y==x)) Z (body:=λi8 s7=>(ix l i8).bind λbG=>if(bG==x)=Z then J (.out (.inr Z))else J (.go ())) λk hk=>by
  rw[jh hk,aR];exact SC _ _ _
 rw[show(!Z)=aa from rfl]at this;refine this.trans ?_;congr 1;cases hc:l.contains x with
 |true=>
  have hm:x∈l:=by simpa using hc
  have:(l.all λy=> !(y==x))=aa:=by
   rw[yC];exact⟨x,hm,by simp⟩
  rw[this];rfl
 |false=>
  have hm:¬x∈l:=by simpa using hc
  have:(l.all λy=> !(y==x))=Z:=by
   rw[bm];intro y hy;have:y≠x:=λe=>hm (e▸hy)
   simp[this]
  rw[this];rfl
def zBV(l:List Int)(x:Int):(Ft l x=J (-1)/\¬x∈l)\/∃k,∃h:k<l.length,Ft l x=J (k:Int)/\l[k]=x/\∀j (hj:j<k),l[j]'(by omega)≠x:=by
 unfold Ft
 rcases IW l.length (λk=>(l[k]?).any λy=> !(x==y)) (λk=>(k:Int)) (body:=λi8 s7=>(ix l i8).bind λbG=>if(x==bG)=Z then J (.out (.inr i8))else J (.go ())) (λk hk=>by
  rw[jh hk,aR,cE hk]
  exact SC _ _ _)with⟨e,h1⟩|⟨k,h1,h2,h3,e⟩
 ·refine .inl ⟨by rw[e];rfl,λhx=>?_⟩;obtain⟨k,hk,rfl⟩:=KD.1 hx;have:=h1 k hk;rw[cE hk]at this;simp at this
 refine .inr ⟨k,h1,by rw[e];rfl,?_,λj hj=>?_⟩
 ·rw[cE h1]at h2;simp at h2;exact h2.symm
 have:=h3 j hj;rw[cE (by omega)]at this;simp at this;exact λe=>this e.symm
def Wm(l:List Int)(x:Int):IA l x=J (l.contains x):=by
 unfold IA;rcases zBV l x with⟨e,h⟩|⟨k,hk,e,h,_⟩
 ·rw[e];have:l.contains x=aa:=by simpa using h
  rw[this];rfl
 rw[e]
 have:l.contains x=Z:=by
  have:=e9 hk;rw[h]at this;simpa using this
 rw[this];simp
def zBv(l:List Int):FU l=FP l:=by
 unfold FU FP;simp only[Yv,Wm]
open Classical in
noncomputable def oH(l:List Int):Bool:=decide l.Nodup
def Wu{C:List Int->Int->Option Bool}(hC:∀l x,C l x=J (l.contains x))(l:List Int)(hl:l.length<=1000000000000):
 ((aS (σ:=Unit) (λi5 s4=>
 (ix l i5).bind λaU=>
 gd (0<=i5)<|
 gd (0<=i5.toNat/\i5.toNat<=l.length)<|
 (C ((l.take i5.toNat).drop 0) aU).bind λbH=>
 if bH=Z then(
 J (.out (.inr aa)))else(
 J (.go ()))) (λs4=>.inl ()) (l.length) 0 ():Option (Unit ⊕ Bool)).bind (Sum.elim (λx3=>
 J Z) J))=J (oH l):=by
 rcases IW l.length (λk=>(l[k]?).any λy=> !(l.take k).contains y) (λ_=>aa) (body:=λi8 s7=>
  (ix l i8).bind λbG=>
  gd (0<=i8)<|
  gd (0<=i8.toNat/\i8.toNat<=l.length)<|
  (C ((l.take i8.toNat).drop 0) bG).bind λiQ=>
  if iQ=Z then(
  J (.out (.inr aa)))else(
  J (.go ()))) (λk hk=>by
   rw[jh hk,aR,eK (by omega),eK (by simp;omega),hC,cE hk,aR,dG,OA]
   exact SC _ _ _)with⟨e,h1⟩|⟨k,h1,h2,h3,e⟩
 ·rw[e]
  have:oH l=Z:=by
   unfold oH;rw[eC,Acf,Acg];intro i j hi hj RP e;have:=h1 j hj;rw[cE hj]at this
   have hm:l[j]∈l.take j:=by
    rw[<-e];exact KD.2 ⟨i,by simp;omega,by simp⟩
   have hc:(l.take j).contains l[j]=Z:=by simpa using hm
   simp only[Option.any_some,hc]at this;cases this
  rw[this];rfl
 rw[e]
 have:oH l=aa:=by
  unfold oH;rw[wd,Acf,Acg];intro hd;rw[cE h1]at h2;have hc:(l.take k).contains l[k]=Z:=by simpa using h2
  have hm:l[k]∈l.take k:=by simpa using hc
  obtain⟨i,hi,e⟩:=KD.1 hm;simp at hi e;exact hd i k (by omega) h1 (by omega) e
 rw[this];rfl
def Z2(l:List Int)(hl:l.length<=1000000000000):FP l=J (oH l):=Wu Wm l hl
def zyf(l:List Int)(hl:l.length<=1000000000000):FU l=J (oH l):=by rw[zBv,Z2 l hl]
def L9{p:Int->Bool}{f:Int->Option Bool}(hf:∀x∈l,f x=J (!p x)):
 ((((aS (σ:=Unit) (β:=Unit ⊕ Int) (λi8 s7=>(ix l i8).bind λbG=>(f bG).bind λom=>if om=Z then(J (.out (.inr i8)))else(J (.go ()))) (λs7=>.inl ()) (l.length) 0 ():Option (Unit ⊕ Int)).bind (Sum.elim (λ(x5:Unit)=>J (-1)) J)).bind λz1=>J (decide (0<=z1))).bind λz1=>J (!z1))=J (l.all p):=by
 rcases IW l.length (λk=>(l[k]?).any p) (λk=>(k:Int)) (body:=λi8 s7=>(ix l i8).bind λbG=>(f bG).bind λom=>if om=Z then(J (.out (.inr i8)))else(J (.go ()))) (λk hk=>by
  rw[jh hk,aR,hf _ (e9 hk),aR,cE hk]
  exact zGz _ _ _)with⟨e,h1⟩|⟨k,h1,h2,h3,e⟩
 ·rw[e]
  have:l.all p=Z:=by
   rw[bm];intro x hx;obtain⟨k,hk,rfl⟩:=KD.1 hx;have:=h1 k hk;rw[cE hk]at this;exact this
  rw[this];rfl
 rw[e]
 have:l.all p=aa:=by
  rw[yC];refine⟨l[k],e9 h1,?_⟩;rw[cE h1]at h2;simpa using h2
 rw[this];simp
def RD(x:Int):Bool:=decide (1<=x)&&decide (x<=7)
def dg(q:Nat):Nat->Nat->List Int
 |0,_=>[]
 |k+1,n=>((n%q:Nat):Int)::dg q k (n/q)
def evI(f:List Int)(x:Int):Int:=f.foldr (λc a=>a*x+c) 0
def zCW{c d:Int}(h:a%q=b%q)(h':c%q=d%q):(a+c)%q=(b+d)%q:=by rw[o8,h,h',<-o8]
structure Ab1 (q:Int) (OZ:List Int):Prop where
 q8:7<q
 q2:q<=2000000000
 pr:Pr q.toNat
 bd:∀p∈OZ,0<=p/\p<=7
 nd:OZ.Nodup
 ln:OZ.length<=10000000
def zuL(k:ao gr)(c:an):JF gr c=J (aK gr c.A&&aK gr c.B):=by
 unfold JF;rw[Mp k,Mp k];cases aK gr c.A<;>simp
def zCt(k:ao gr)(m:Int):pu gr [m]=J (aK gr m):=by
 rw[xW k];simp
def w9(h:0<=gr.Q)(h2:gr.Q<=2000000000)(l:List Int):vz gr l=J (l.all (dq gr)):=by
 have h1:NC l gr=J (l.all (dq gr)):=L9 (f:=λx=>Jk x gr) λx _=>by
  unfold Jk;rw[zBD h h2];rfl
 unfold vz;rw[h1];rfl
def Hi{a n:Nat}(h:a^n%p=1):a^(e%n)%p=a^e%p:=by
 have hp:1%p=1:=by rw[<-h,OE]
 conv=>rhs;rw[<-OB e n]
 rw[OG,o7,t6,qd (a^n),h,GB,hp,Kt,OE]
def DS(h:aK gr x=Z):1<=x/\x<=gr.P-1/\x.toNat^gr.Q.toNat%gr.P.toNat=1:=by
 unfold aK at h;simp only[bI,eC]at h;exact⟨h.1.1,h.1.2,h.2⟩
def U6(k:ao gr)(h:aK gr x=Z){s l:Int}(hs:0<=s)(hl:0<=l):av gr (av gr x s) l=av gr x (s*l):=by
 obtain⟨_,_,h3⟩:=DS h;have hq:=k.q;obtain⟨a,rfl⟩:=fJ hs;obtain⟨b,rfl⟩:=fJ hl;obtain⟨n,hn⟩:=fJ (show 0<=gr.Q by omega);unfold av;rw[hn]at h3⊢;rw[dG]at h3;have e:∀c:Nat,((c:Int)%(n:Int)).toNat=c%n:=λc=>by rw[<-o6,dG]
 rw[AO,e,e,e,dG,Hi h3,Hi h3,<-qd,<-o7];congr 1;rw[o7,qd,Hi (n:=n) (e:=b)]
 ·rw[<-qd,<-o7]
 rw[<-qd,<-o7,wb,o7,qd,h3,GB,<-h3,OE]
def zCJ(k:ao gr)(h0:0<=x)(h1:x<=2000000000):Ib gr x=J (av gr x (-1)):=by
 have hq:=k.q;have hp:=k.p
 have e:(-1:Int)%gr.Q=gr.Q-1:=by
  have:=GC (-1) gr.Q 1;rw[<-this,Uu];rw[qe (by omega) (by omega)];omega
 unfold Ib;rw[aI (by omega) (by omega),(pW h0 h1 (by omega) hp.2 (by omega) (by omega)).2];unfold av;rw[e];rfl
def OJ(k:ao gr)(hb:0<=b)(fV:b<=2000000000)(h0:0<=x)(h1:x<=2000000000):BG gr b x=J (aP gr [b,av gr x (-1)]):=by
 have hp:=k.p;obtain⟨p1,p2⟩:=AK k x (-1);unfold BG LT;rw[(DM k h0 h1 _).1];simp only[aR];rw[Ap k];rfl;intro y hy;simp only[fK,jf,jg]at hy;rcases hy with rfl|rfl<;>omega
structure Ya (gr:am) (c:an) (m:Int) (ul sh:List Int) (i:Int):Prop where
 k:ao gr
 q:7<gr.Q
 a:aK gr c.A=Z
 b:aK gr c.B=Z
 m:aK gr m=Z
 w:ul.all RD=Z
 d:oH ul=Z
 l:sh.length=ul.length
 e:sh.all (dq gr)=Z
 i:RD i=Z
def Ya.lg{m:Int}{ul sh:List Int}(h:Ya gr c m ul sh i)(hl:ul.length<=1048576):Ab1 gr.Q ([0]++ul):=by
 have hq:=h.k.q;have hp:=h.k.p
 have hw:∀x∈ul,1<=x/\x<=7:=λx hx=>by
  have:=bm.1 h.w x hx;simpa[RD]using this
 have hd:ul.Nodup:=by simpa[oH]using h.d
 refine⟨h.q,by omega,h.k.pq,λp hp=>?_,?_,by simp;omega⟩
 ·rcases jY.1 hp with h1|h1
  ·rw[gB.1 h1];omega
  have:=hw p h1;omega
 show(0::ul).Nodup;refine Uv.2 ⟨λh0=>?_,hd⟩;have:=hw 0 h0;omega
structure Bt (code:List Int):Prop where
 b:∀x∈code,0<=x/\x<=255
 l:code.length<=1048576
structure Cu (code:List Int) (n:Int) (c:List Int×Int×Int):Prop where
 e:c.1=code
 lo:0<=c.2.1
 hi:c.2.1<=n
def Cu.mono{m:Int}{c:List Int×Int×Int}(h:Cu code n c)(hn:n<=m):Cu code m c:=⟨h.e,h.lo,Int.le_trans h.hi hn⟩
def zCo(x:BitVec IntKind.u64.bits):0<=i64.wrap (IntKind.u64.wrap ((x&&&BitVec.ofInt IntKind.u64.bits 255).toNat:Int))/\i64.wrap (IntKind.u64.wrap ((x&&&BitVec.ofInt IntKind.u64.bits 255).toNat:Int))<=255:=by
 have hy:(x&&&BitVec.ofInt IntKind.u64.bits 255).toNat<=255:=by
  rw[Aay];exact gj Nat.and_le_right (by decide)
 generalize (x&&&BitVec.ofInt IntKind.u64.bits 255).toNat=y at hy⊢;rw[wrU (by omega) (by omega),aI (by omega) (by omega)];omega
def Z7(hb:Bt code)(h:Cu code n (c0,at_,dC))(hn:n<=9000000000000000):Rn (Gi c0 at_ dC) (λz=>0<=z.1/\z.1<=255/\Cu code (n+1) z.2):=by
 obtain⟨h1,h2,h3⟩:=h;have h1:c0=code:=h1;have h2:0<=at_:=h2;have h3:at_<=n:=h3;subst h1;have hw:i64.wrap (at_+1)=at_+1:=aI (by omega) (by omega);unfold Gi;refine ay (ψ:=λv=>0<=v/\v<=255) ?_ λv hv=>?_
 ·refine aZ (λg=>?_) λg=>aj (by omega)
  obtain⟨k,rfl⟩:=fJ h2;have hk:k<c0.length:=by simp at g;omega
  have:=hb.b _ (e9 hk);exact bD hk (aj (by rw[aI (by omega) (by omega)];exact this))
 simp only[hw];refine aZ (λg=>aj ⟨hv.1,hv.2,rfl,by show 0<=at_+1;omega,by show at_+1<=n+1;omega⟩) λg=>aj ?_
 exact⟨(zCo _).1,(zCo _).2,rfl,by show 0<=at_+1;omega,by show at_+1<=n+1;omega⟩
def jU{m:Int}(hb:Bt code)(h:Cu code n (c0,at_,dC))(hn:n<=8000000000000000):Rn (gM c0 at_ dC m) (λz=>0<=z.1/\(m<=1->z.1=0)/\(1<m->z.1<m)/\z.1<=65535/\Cu code (n+2) z.2):=by
 unfold gM;refine aZ (λg=>aj ⟨A1 0,λ_=>rfl,λh=>by simp at g;omega,by show(0:Int)<=_;omega,h.mono (by omega)⟩) λg=>?_
 have g:1<m:=by simpa using g
 refine ay (Z7 hb h (by omega)) λz ⟨z1,z2,z3⟩=>?_
 refine ay (ψ:=λx=>0<=x.2/\x.2<=65535/\Cu code (n+2) x.1) ?_ λx ⟨x1,x2,x3⟩=>?_
 ·refine aZ (λ_=>ay (Z7 hb z3 (by omega)) λy ⟨y1,y2,y3⟩=>aj ?_) λ_=>aj ⟨z1,by show z.1<=_;omega,z3.mono (by omega)⟩
  rw[aI (n:=z.1*256) (by omega) (by omega),aI (by omega) (by omega)];exact⟨by show 0<=z.1*256+y.1;omega,by show z.1*256+y.1<=_;omega,y3.mono (by omega)⟩
 refine aG (by omega) (aj ?_);rw[je x1];have b1:=nV x.2 (show m≠0 by omega);have b2:=sI x.2 (show 0<m by omega)
 have b3:x.2%m<=x.2:=by
  rcases Int.lt_or_le x.2 m with h|h
  ·rw[qe x1 h];exact A1 _
  ·omega
 exact⟨b1,λh=>by omega,λ_=>b2,by show x.2%m<=_;omega,x3⟩
def LU{m:Int}(hb:Bt code)(h:Cu code n (c0,at_,dC))(hn:n<=8000000000000000):Rn (zy c0 at_ dC m) (λz=>Cu code (n+2) z.2):=by
 unfold zy;exact ay (jU hb h hn) λz hz=>aj hz.2.2.2.2
def oN(hb:Bt code)(h:Cu code n (c0,at_,dC))(hn:n<=8000000000000000)(hl:l≠[]):Rn (py c0 at_ dC l) (λz=>z.1∈l/\Cu code (n+2) z.2):=by
 unfold py;refine ay (jU hb h hn) λz ⟨z1,z2,z3,z4,z5⟩=>?_
 have h0:0<l.length:=List.length_pos_iff.2 hl;obtain⟨k,hk⟩:=fJ z1
 have hlt:k<l.length:=by
  rcases dK 1 l.length with h|h
  ·have:=z3 (by omega);omega
  ·have:=z2 (by omega);omega
 rw[hk];exact bD hlt (aj ⟨e9 hlt,z5⟩)
def Zc{n d:Nat}(h:Pr n)(hd:d%n≠0):Nat.gcd n d=1:=by
 obtain⟨k,hk⟩:=Nat.gcd_dvd_left n d;have hn:=h.1;have h0:0<Nat.gcd n d:=Nat.gcd_pos_of_pos_left d (by omega);have BI:=Nat.gcd_dvd_right n d;generalize Nat.gcd n d=g at hk h0 BI;apply OH;intro hg;have BR:2<=g:=by omega
 have AG:2<=k:=by
  rcases dK k 2 with h|h
  ·have:k=0\/k=1:=by omega
   rcases this with rfl|rfl
   ·omega
   ·rw[Kv]at hk;rw[<-hk]at BI;exact absurd (Acd BI) hd
  ·exact h
 rcases Nat.le_total g k with h'|h'
 ·exact h.2 g BR (by rw[hk];exact Oz g h') (by rw[hk];exact Nat.mul_mod_right g k)
 exact h.2 k AG (by rw[hk];exact gA k h') (by rw[hk];exact Nat.mul_mod_left g k)
def DA{n:Nat}(h:Pr n)(nP:(a*b)%(n:Int)=0):a%(n:Int)=0\/b%(n:Int)=0:=by
 have h1:n∣a.natAbs*b.natAbs:=by
  rw[<-Int.natAbs_mul];exact AaC.1 (Uw nP)
 by_cases ha:a.natAbs%n=0
 ·exact .inl (AaD (AaC.2 (Ut ha)))
 exact .inr (AaD (AaC.2 (Nat.Coprime.dvd_of_dvd_mul_left (Zc h ha) h1)))
def iP(f:List Int)(x:Int):Int:=f.foldr (λc a=>a*x+c) 0
theorem YN(c:Int)(f:List Int)(x:Int):iP (c::f) x=iP f x*x+c:=rfl
def n0(r:Int):List Int->List Int
 |[]=>[]
 |[_]=>[]
 |_::c::f=>iP (c::f) r::n0 r (c::f)
theorem zvz(r:Int):∀f:List Int,(n0 r f).length=f.length-1
 |[]=>rfl
 |[_]=>rfl
 |_::c::f=>by
  show(n0 r (c::f)).length+1=_;rw[zvz r (c::f)];simp
theorem Yl(r x:Int):∀f:List Int,iP f x=iP (n0 r f) x*(x-r)+iP f r
 |[]=>by simp[n0,iP]
 |[c]=>by simp[n0,iP]
 |d::c::f=>by
  have ih:=Yl r x (c::f);show iP (c::f) x*x+d=(iP (n0 r (c::f)) x*x+iP (c::f) r)*(x-r)+(iP (c::f) r*r+d);rw[ih];grind
theorem ztD(r:Int):∀f:List Int,2<=f.length->(n0 r f).getLastD 0=f.getLastD 0
 |[],h=>absurd h (by simp)
 |[_],h=>absurd h (by simp)
 |[d,c],_=>by simp[n0,iP]
 |e::d::c::f,_=>by
  have ih:=ztD r (d::c::f) (by simp);show(iP (d::c::f) r::iP (c::f) r::n0 r (c::f)).getLastD 0=_;have:n0 r (d::c::f)=iP (c::f) r::n0 r (c::f):=rfl;rw[this]at ih;simpa[List.getLastD]using ih
theorem zxz{p:Nat}(hp:Pr p):∀(n:Nat) (f:List Int),f.length=n+1->f.getLastD 0%(p:Int)≠0->∀rs:List Int,rs.Pairwise (λa b=>(b-a)%(p:Int)≠0)->(∀r∈rs,iP f r%(p:Int)=0)->rs.length<=n
 |0,f,hl,hf,rs,hd,hr=>by
  match f,hl with
  |[c],_=>
   cases rs with
   |nil=>simp
   |cons r rs=>
    have:=hr r (p9 ..);simp[iP]at this;exact absurd (by first|exact this|exact AaD this) (by simpa[List.getLastD]using hf)
 |n+1,f,hl,hf,rs,hd,hr=>by
  cases rs with
  |nil=>simp
  |cons r rs=>
   have h1:=List.pairwise_cons.1 hd
   have:=zxz hp n (n0 r f) (by rw[zvz];omega) (by rw[ztD r f (by omega)];exact hf) rs h1.2 λs hs=>by
    have e:=Yl r s f;have kY:=hr s (nU _ hs);have dE:=hr r (p9 ..)
    have hm:(iP (n0 r f) s*(s-r))%(p:Int)=0:=by
     rw[show iP (n0 r f) s*(s-r)=iP f s-iP f r by omega,sH,kY,dE];simp
    rcases DA hp hm with h|h
    ·exact h
    ·exact absurd h (h1.1 s hs)
   simpa using this
def zzO(k:Nat)(x:Int):iP (List.replicate k 0++[1]) x=x^k:=by
 induction k with
 |zero=>simp[iP]
 |succ k ih=>rw[Aca,tZ,YN,ih,AaE];omega
def VD{n:Nat}(hp:Pr p)(hn:1<=n)(rs:List Int)(hd:rs.Pairwise (λa b=>(b-a)%(p:Int)≠0))(hr:∀r∈rs,r^n%(p:Int)=1):rs.length<=n:=by
 have h2:=hp.1;have ym:(1:Int)%(p:Int)=1:=qe (by omega) (by omega);obtain⟨k,rfl⟩:∃k,n=k+1:=⟨n-1,by omega⟩
 refine zxz hp (k+1) (-1::(List.replicate k 0++[1])) (by simp) ?_ rs hd λr hJ=>?_
 ·have:(-1::(List.replicate k (0:Int)++[1])).getLastD 0=1:=by
   rw[<-tZ,List.getLastD_concat]
  rw[this,ym];omega
 rw[YN,zzO,<-AaE,o8,hr r hJ]
 have:((-1:Int)%(p:Int))=p-1:=by
  have:=GC (-1) (p:Int) 1;rw[<-this,Uu,qe (by omega) (by omega)];omega
 rw[this,show 1+((p:Int)-1)=p by omega,Int.emod_self]
def zxk{n:Nat}(hp:Pr p)(hn:1<=n)(WY:n<p-1):∃h:Nat,2<=h/\h<p/\h^n%p≠1:=by
 apply OH;intro hc;have h2:=hp.1
 have h1:∀h:Nat,1<=h->h<p->h^n%p=1:=λh a b=>by
  rcases dK h 2 with c|c
  ·have:h=1:=by omega
   subst this;rw[GB,nT (by omega)]
  ·exact OH λd=>hc ⟨h,c,b,d⟩
 have:=VD hp hn ((List.range (p-1)).map λk=>((k+1:Nat):Int)) ?_ ?_
 ·simp at this;omega
 ·rw[Ux];refine AaF ?_ Ach;intro a b ha hb nP;have hb:=kp.1 hb;rw[show((b+1:Nat):Int)-((a+1:Nat):Int)=((b-a:Nat):Int)by omega,<-o6,nT (by omega)];omega
 intro r hr;obtain⟨k,hk,rfl⟩:=jE.1 hr;have hk:=kp.1 hk;rw[<-Uy,<-o6,h1 (k+1) (by omega) (by omega)];rfl
structure Gs (gr:am):Prop where
 p:0<=gr.P/\gr.P<=2000000000
 q:0<=gr.Q/\gr.Q<=1000000000
 g:0<=gr.G/\gr.G<=2000000000
def zDl{q:Nat}(hq:2<=q):((1+(k:Int)*(q:Int))-1).tdiv (q:Int)=(k:Int):=by
 rw[show(1+(k:Int)*(q:Int))-1=(k:Int)*(q:Int)by omega,Aci _ (by omega)]
def zoK{q:Nat}(cL:q<=1000000):Rn (uB (q:Int)) (λz=>Gs z.1/\(z.2=Z->z.1.Q=q/\3<=z.1.P)/\(∀k:Nat,1<=k->Pr (1+k*q)->1+k*q<=2000000000->Pr q->z.2=Z)):=by
 unfold uB;refine ay (ψ:=λb=>b= !(decide (2<=q)&&lO (q:Int))) ?_ ?_
 ·refine ag (rE _ _ _) ?_;by_cases h:2<=q
  ·refine bt (by simp;omega) (ag (DP _ (by omega)) (aj ?_));simp[h]
  refine fY (by simp;omega) (aj ?_);simp[h]
 rintro _ rfl;cases hc:(decide (2<=q)&&lO (q:Int))
 ·refine fY rfl (aj ⟨⟨⟨by decide,by decide⟩,⟨by decide,by decide⟩,by decide,by decide⟩,λh=>(by cases h),λk h1 h2 h3 h4=>?_⟩);rw[mS.2 h4]at hc;have:=h4.1;simp at hc;omega
 have hq:2<=q:=by simp at hc;exact hc.1
 have pj:Pr q:=by simp at hc;exact mS.1 hc.2
 refine bt rfl ?_;refine ay (ψ:=λb=>(b=.inl ()/\∀k:Nat,1<=k->Pr (1+k*q)->¬1+k*q<=2000000000)\/∃z:am×Bool,b=.inr z/\Gs z.1/\z.2=Z/\z.1.Q=q/\3<=z.1.P) ?_ ?_
 ·rw[aI (by omega) (by omega)];refine tG (λs=>∃k:Nat,1<=k/\s=1+(k:Int)*(q:Int)/\s<=2001000001/\∀j:Nat,1<=j->j<k->¬Pr (1+j*q)) (λs=>(2001000001-s).toNat) ⟨1,by omega,by omega,by omega,λj h1 h2=>by omega⟩ ?_;rintro s ⟨k,hk,rfl,hs,hn⟩;have hkq:k*2<=k*q:=Oz k hq;have hkc:(k:Int)*(q:Int)=((k*q:Nat):Int):=AO k q;refine aZ (λg=>?_) λg=>?_
  ·have g:1+(k:Int)*(q:Int)<=2000000000:=by simpa using g
   refine ag (DP _ (by omega)) ?_;have Rc:1+(k:Int)*(q:Int)=((1+k*q:Nat):Int):=by omega
   cases hp:lO (1+(k:Int)*(q:Int))
   ·refine fY rfl (aj ?_)
    have e:i64.wrap (1+(k:Int)*(q:Int)+(q:Int))=1+((k+1:Nat):Int)*(q:Int):=by
     rw[aI (by omega) (by omega)];grind
    refine⟨⟨k+1,by omega,e,by rw[aI (by omega) (by omega)];omega,λj h1 h2=>?_⟩,?_⟩
    ·rcases dK j k with h|h
     ·exact hn j h1 h
     have:j=k:=by omega
     subst this;intro eV;rw[Rc,mS.2 eV]at hp;cases hp
    rw[aI (by omega) (by omega)];omega
   refine bt rfl ?_;have eV:Pr (1+k*q):=by rw[Rc]at hp;exact mS.1 hp
   obtain⟨h0,a1,a2,a3⟩:=zxk eV hk (by omega)
   have BI:i64.wrap ((i64.wrap (1+(k:Int)*(q:Int)-1)).tdiv (q:Int))=(k:Int):=by
    rw[aI (n:=1+(k:Int)*(q:Int)-1) (by omega) (by omega),zDl hq,aI (by omega) (by omega)]
   simp only[BI];simp only[Rc];refine ay (ψ:=λh=>2<=h/\h<=(h0:Int)) (tG (λs=>2<=s/\s<=(h0:Int)) (λs=>(h0-s).toNat) (by omega) ?_) ?_
   ·rintro s ⟨s1,s2⟩;have Ci:=(pW (a:=s) (e:=(k:Int)) (m:=((1+k*q:Nat):Int)) (by omega) (by omega) (by omega) (by omega) (by omega) (by omega)).2;refine aG (by omega) (ag Ci ?_);refine aZ (λg=>aj ?_) λg=>aj ⟨s1,s2⟩
    rw[aI (by omega) (by omega)]
    have hne:s≠(h0:Int):=λe=>by
     subst e;apply a3;have g:((((h0:Int).toNat^(k:Int).toNat%((1+k*q:Nat):Int).toNat:Nat)):Int)=1:=by simpa only[v9]using g
     rw[dG,dG,dG]at g;omega
    refine⟨⟨by omega,by omega⟩,?_⟩;omega
   rintro h ⟨s1,s2⟩;have Ci:=(pW (a:=h) (e:=(k:Int)) (m:=((1+k*q:Nat):Int)) (by omega) (by omega) (by omega) (by omega) (by omega) (by omega)).2;refine aG (by omega) (ag Ci (aj ?_))
   have hlt:h.toNat^(k:Int).toNat%((1+k*q:Nat):Int).toNat<1+k*q:=by
    rw[dG (1+k*q)];exact mM _ (by omega)
   refine .inr ⟨_,rfl,⟨⟨by show(0:Int)<=((1+k*q:Nat):Int);omega,by show((1+k*q:Nat):Int)<=_;omega⟩,⟨by show(0:Int)<=(q:Int);omega,by show(q:Int)<=_;omega⟩,?_,?_⟩,rfl,rfl,by show(3:Int)<=((1+k*q:Nat):Int);omega⟩
   ·show(0:Int)<=((_:Nat):Int);omega
   show((_:Nat):Int)<=2000000000;omega
  refine aj (.inl ⟨rfl,λj h1 h2 h3=>?_⟩);have g:¬1+(k:Int)*(q:Int)<=2000000000:=by simpa using g
  rcases dK j k with h|h
  ·exact hn j h1 h h2
  have:k*q<=j*q:=gA q h;omega
 rintro b (⟨rfl,h⟩|⟨z,rfl,h1,h2,h3,h4⟩)
 ·exact aj ⟨⟨⟨by decide,by decide⟩,⟨by decide,by decide⟩,by decide,by decide⟩,λh=>(by cases h),λk h1 h2 h3 h4=>absurd h3 (h k h1 h2)⟩
 exact aj ⟨h1,λ_=>⟨h3,h4⟩,λ_ _ _ _ _=>h2⟩
def nN{n:Nat}(hn:n<64)(h2:2<=n)(h:∀d,d<8->2<=d->d*d<=n->n%d≠0):Pr n:=by
 refine⟨h2,λd h1 h3=>?_⟩;rcases dK d 8 with h8|h8
 ·exact h d h8 h1 h3
 have:8*8<=d*d:=ri h8 h8;omega
structure Gw (gr:am):Prop where
 p: -10<=gr.P/\gr.P<=2100000000
 q: -10<=gr.Q/\gr.Q<=2100000000
 g: -10<=gr.G/\gr.G<=2100000000
def Gs.w(h:Gs gr):Gw gr:=⟨by have:=h.p;omega,by have:=h.q;omega,by have:=h.g;omega⟩
def zDX(hx:x∈[(3:Int),5,5,7,11,11,13,23]):∃q k:Nat,x=(q:Int)/\3<=q/\q<=23/\1<=k/\Pr (1+k*q)/\1+k*q<=2000000000/\Pr q:=by
 simp only[fK,jf,jg]at hx;rcases hx with rfl|rfl|rfl|rfl|rfl|rfl|rfl|rfl
 ·exact⟨3,2,rfl,by decide,by decide,by decide,nN (by decide) (by decide) (by decide),by decide,nN (by decide) (by decide) (by decide)⟩
 ·exact⟨5,2,rfl,by decide,by decide,by decide,nN (by decide) (by decide) (by decide),by decide,nN (by decide) (by decide) (by decide)⟩
 ·exact⟨5,2,rfl,by decide,by decide,by decide,nN (by decide) (by decide) (by decide),by decide,nN (by decide) (by decide) (by decide)⟩
 ·exact⟨7,4,rfl,by decide,by decide,by decide,nN (by decide) (by decide) (by decide),by decide,nN (by decide) (by decide) (by decide)⟩
 ·exact⟨11,2,rfl,by decide,by decide,by decide,nN (by decide) (by decide) (by decide),by decide,nN (by decide) (by decide) (by decide)⟩
 ·exact⟨11,2,rfl,by decide,by decide,by decide,nN (by decide) (by decide) (by decide),by decide,nN (by decide) (by decide) (by decide)⟩
 ·exact⟨13,4,rfl,by decide,by decide,by decide,nN (by decide) (by decide) (by decide),by decide,nN (by decide) (by decide) (by decide)⟩
 exact⟨23,2,rfl,by decide,by decide,by decide,nN (by decide) (by decide) (by decide),by decide,nN (by decide) (by decide) (by decide)⟩
def zCq(hb:Bt code)(h:Cu code n (c0,at_,dC))(hn:n<=7000000000000000):Rn (Eg c0 at_ dC) (λz=>Gs z.1/\3<=z.1.Q/\z.1.Q<=23/\3<=z.1.P/\Cu code (n+2) z.2):=by
 unfold Eg;refine ay (oN hb h (by omega) (by simp)) λz ⟨z1,z2⟩=>?_
 obtain⟨q,k,e,q1,q2,k1,k2,k3,k4⟩:=zDX z1;rw[e];refine ay (zoK (by omega)) λy ⟨y1,y2,y3⟩=>aj ?_
 have y4:=y2 (y3 k k1 k2 k3 k4);exact⟨y1,by show 3<=y.1.Q;omega,by show y.1.Q<=23;omega,y4.2,z2⟩
def zAU(h:Gs gr)(hq:1<=gr.Q)(hp:1<=gr.P)(hx:0<=x/\x<=2000000000)(e:Int):Rn (cD gr x e) (λv=>0<=v/\v<=2000000000):=by
 have h1:=h.p;have h2:=h.q;have b1:0<=e%gr.Q:=nV _ (by omega);have b2:e%gr.Q<gr.Q:=sI _ (by omega);have hw:=(pW (a:=x) (e:=e%gr.Q) (m:=gr.P) (by omega) (by omega) (by omega) (by omega) b1 (by omega)).2;unfold cD;refine ag (BX (by omega) (by omega)) (ag hw (aj ?_));have hlt:x.toNat^(e%gr.Q).toNat%gr.P.toNat<gr.P.toNat:=mM _ (by omega);omega
def zFj(hx:x∈[(101:Int),1009,1019,65537,999983]):∃q:Nat,x=(q:Int)/\q<=1000000:=by
 simp only[fK,jf,jg]at hx;rcases hx with rfl|rfl|rfl|rfl|rfl
 ·exact⟨101,rfl,by decide⟩
 ·exact⟨1009,rfl,by decide⟩
 ·exact⟨1019,rfl,by decide⟩
 ·exact⟨65537,rfl,by decide⟩
 exact⟨999983,rfl,by decide⟩
def zC0:Gs (am.mk 1000000007 500000003 4):=⟨⟨by decide,by decide⟩,⟨by decide,by decide⟩,by decide,by decide⟩
def U8(code:List Int):Cu code 0 (code,0,0):=⟨rfl,A1 0,A1 0⟩
def Q6(hb:Bt code)(h:Cu code n (c0,at_,dC))(hn:n<=6000000000000000):Rn (yR c0 at_ dC) (λz=>Gs z.1/\Cu code (n+6) z.2):=by
 unfold yR;refine ay (jU hb h (by omega)) λz ⟨z1,z2,z3,z4,z5⟩=>?_
 refine aZ (λ_=>aj ⟨zC0,z5.mono (by omega)⟩) λ_=>aZ (λ_=>?_) λ_=>?_
 ·refine ay (oN hb z5 (by omega) (by simp)) λy ⟨y1,y2⟩=>?_
  obtain⟨q,e,hq⟩:=zFj y1;rw[e];exact ay (zoK hq) λx ⟨x1,_,_⟩=>aj ⟨x1,y2.mono (by omega)⟩
 refine ay (zCq hb z5 (by omega)) λy ⟨y1,y2,y3,y4,y5⟩=>?_
 refine ay (jU hb y5 (by omega)) λx ⟨x1,x2,x3,x4,x5⟩=>?_
 have hg:=y1.g;refine ay (zAU y1 (by omega) (by omega) hg _) λv hv=>aj ⟨⟨y1.p,y1.q,hv⟩,x5.mono (by omega)⟩
def zw1(hb:Bt code)(h:Cu code n (c0,at_,dC))(hn:n<=5000000000000000):Rn (Cf c0 at_ dC) (λz=>Gw z.1/\Cu code (n+10) z.2):=by
 unfold Cf;refine ay (Q6 hb h (by omega)) λz ⟨z1,z2⟩=>?_
 have g1:=z1.p;have g2:=z1.q;have g3:=z1.g;refine ay (jU hb z2 (by omega)) λy ⟨_,_,_,_,y5⟩=>?_
 rw[aI (n:=z.1.P+2) (by omega) (by omega),aI (n:=z.1.Q+1) (by omega) (by omega),aI (n:=z.1.P-1) (by omega) (by omega),aI (n:=z.1.G+1) (by omega) (by omega)];refine ay (ψ:=λx=>Gw (am.mk x.2.1 x.2.2.1 x.2.2.2)/\Cu code (n+10) x.1) ?_ λx hx=>aj hx
 refine aZ (λ_=>?_) λ_=>aZ (λ_=>?_) λ_=>aZ (λ_=>?_) λ_=>aj ⟨z1.w,y5.mono (by omega)⟩
 ·refine ay (oN hb y5 (by omega) (by simp)) λx ⟨x1,x2⟩=>aj ⟨?_,x2.mono (by omega)⟩
  simp only[fK,jf,jg]at x1;exact⟨by show-10<=x.1/\x.1<=_;omega,by show-10<=z.1.Q/\z.1.Q<=_;omega,by show-10<=z.1.G/\z.1.G<=_;omega⟩
 ·refine ay (oN hb y5 (by omega) (by simp)) λx ⟨x1,x2⟩=>aj ⟨?_,x2.mono (by omega)⟩
  simp only[fK,jf,jg]at x1;exact⟨by show-10<=z.1.P/\z.1.P<=_;omega,by show-10<=x.1/\x.1<=_;omega,by show-10<=z.1.G/\z.1.G<=_;omega⟩
 refine ay (oN hb y5 (by omega) (by simp)) λx ⟨x1,x2⟩=>aj ⟨?_,x2.mono (by omega)⟩
 simp only[fK,jf,jg]at x1;exact⟨by show-10<=z.1.P/\z.1.P<=_;omega,by show-10<=z.1.Q/\z.1.Q<=_;omega,by show-10<=x.1/\x.1<=_;omega⟩
def Tr(hb:Bt code)(h:Cu code n (c0,at_,dC))(hn:n<=7000000000000000)(hg:gr.Q<=2100000000):Rn (BF c0 at_ dC gr) (λz=>0<=z.1/\z.1<=2100000000/\(2<=gr.Q->z.1<gr.Q)/\Cu code (n+4) z.2):=by
 unfold BF;refine aZ (λg=>aj ⟨A1 0,by show(0:Int)<=_;omega,λh=>by simp at g;omega,h.mono (by omega)⟩) λg=>?_
 have g:2<=gr.Q:=by simp at g;omega
 refine ay (jU hb h (by omega)) λz ⟨z1,z2,z3,z4,z5⟩=>?_
 refine ay (jU hb z5 (by omega)) λy ⟨y1,y2,y3,y4,y5⟩=>aG (by omega) (aj ?_)
 rw[aI (n:=z.1*60000) (by omega) (by omega),aI (by omega) (by omega),je (by omega)];have b1:=nV (z.1*60000+y.1) (show gr.Q≠0 by omega);have b2:=sI (z.1*60000+y.1) (show 0<gr.Q by omega);exact⟨b1,by show _%gr.Q<=_;omega,λ_=>b2,y5.mono (by omega)⟩
def zrs(hb:Bt code)(h:Cu code n (c0,at_,dC))(hn:n<=6000000000000000)(hg:Gw gr):Rn (D6 c0 at_ dC gr) (λz=>-100<=z.1/\z.1<=2100000000/\Cu code (n+6) z.2):=by
 have g2:=hg.q;unfold D6;refine ay (LU hb h (by omega)) λz z1=>?_
 rw[aI (by omega) (by omega)];refine aZ (λ_=>?_) λ_=>?_
 ·refine ay (oN hb z1 (by omega) (by simp)) λy ⟨y1,y2⟩=>aj ?_
  simp only[fK,jf,jg]at y1;exact⟨by show-100<=y.1;omega,by show y.1<=_;omega,y2.mono (by omega)⟩
 exact ay (Tr hb z1 (by omega) (by omega)) λy ⟨y1,y2,_,y3⟩=>aj ⟨by show-100<=y.1;omega,y2,y3.mono (by omega)⟩
def zAJ(hb:Bt code)(h:Cu code n (c0,at_,dC))(hn:n<=5000000000000000)(hg:Gw gr)(hk:k<=1000000):Rn (IG c0 at_ dC gr (k:Int)) (λz=>z.1.length=k/\(∀x∈z.1,0<=x/\x<=2100000000/\(2<=gr.Q->x<gr.Q))/\Cu code (n+4*k) z.2):=by
 unfold IG;refine ay (ψ:=λr=>r.2.length=k/\(∀x∈r.2,0<=x/\x<=2100000000/\(2<=gr.Q->x<gr.Q))/\Cu code (n+4*k) r.1) (kv k (λj s=>s.2.1=(k:Int)-j/\s.2.2.length=j/\(∀x∈s.2.2,0<=x/\x<=2100000000/\(2<=gr.Q->x<gr.Q))/\Cu code (n+4*j) s.1) ⟨by show(k:Int)=_;omega,rfl,by simp,h.mono (by omega)⟩ ?_ ?_) λr hr=>aj hr
 ·rintro j s hj ⟨h1,h2,h3,h4⟩;refine fY (by rw[h1];simp;omega) (ay (Tr hb h4 (by omega) hg.q.2) λz ⟨z1,z2,z3,z4⟩=>aG (by omega) (aj ⟨?_,by simp[h2],λx hx=>?_,z4.mono (by omega)⟩))
  ·show i64.wrap (s.2.1-1)=_;rw[h1,aI (by omega) (by omega)];omega
  rcases jY.1 hx with h|h
  ·exact h3 x h
  rw[gB.1 h];exact⟨z1,z2,z3⟩
 rintro s ⟨h1,h2,h3,h4⟩;exact bt (by rw[h1];simp) (aj ⟨h2,h3,h4⟩)
def Zr{a:Nat}(hp:2<=p){m:Nat}(h:a^m%p=1)(k r:Nat):a^(m*k+r)%p=a^r%p:=by
 rw[OG,o7,t6,qd (a^m),h,GB,nT (show 1<p by omega),Kt,OE]
def zBb{a:Nat}(hp:2<=p):∀m n,a^m%p=1->a^n%p=1->a^(Nat.gcd m n)%p=1:=by
 intro m n;induction m,n using Nat.gcd.induction with
 |H0 n=>intro _ h;simpa using h
 |H1 m n hm ih=>
  intro h1 h2;rw[Nat.gcd_rec];refine ih ?_ h1;rw[<-Zr hp h1 (n/m) (n%m),OB];exact h2
def zBq{a q:Nat}(hp:2<=p)(hq:Pr q)(ha:a^q%p=1)(Sg:a%p≠1){i j:Nat}(RP:i<j)(hj:j<q):a^i%p≠a^j%p:=by
 intro e
 have h1:a^(j-i)%p=1:=by
  have e1:a^(j-i)%p=a^(q*1+(j-i))%p:=(Zr hp ha 1 (j-i)).symm;rw[e1,show q*1+(j-i)=j+(q-i)by omega,OG,t6,<-e,<-t6,<-OG,show i+(q-i)=q by omega];exact ha
 have h2:=zBb hp q (j-i) ha h1;rw[Zc hq (by rw[nT (by omega)];omega),Nat.pow_one]at h2;exact Sg h2
def SG(h:aK gr x=Z):x.toNat^gr.Q.toNat%gr.P.toNat=1:=by
 simp only[aK,bI,eC]at h;exact h.2
def zuQ(k:ao gr)(h:aK gr x=Z):x.toNat<gr.P.toNat/\1<=x.toNat:=by
 have:=qZ h;have:=k.p;omega
def zC1(k:ao gr)(hh:aK gr h=Z)(h1:h≠1)(hx:aK gr x=Z):∃s:Nat,h.toNat^s%gr.P.toNat=x.toNat:=by
 have hp2:2<=gr.P.toNat:=by have:=k.p;omega
 have hb:=zuQ k hh;have LS:=zuQ k hx;have Sg:h.toNat%gr.P.toNat≠1:=by rw[nT hb.1];have:=qZ hh;omega
 apply OH;intro hn;have Hj:∀s:Nat,h.toNat^s%gr.P.toNat≠x.toNat:=λs e=>hn ⟨s,e⟩
 have key:∀a b:Nat,a<gr.P.toNat->b<gr.P.toNat->a≠b->((b:Int)-(a:Int))%(gr.P.toNat:Int)≠0:=by
  intro a b ha gK nP he;have h3:((gr.P.toNat:Nat):Int)∣(b:Int)-(a:Int):=Uw he;obtain⟨c,hc⟩:=h3;rcases Int.lt_trichotomy c 0 with h4|h4|h4
  ·have:(gr.P.toNat:Int)*c<=(gr.P.toNat:Int)*(-1):=Uz (by omega) (by omega);omega
  ·subst h4;simp at hc;omega
  ·have:(gr.P.toNat:Int)*1<=(gr.P.toNat:Int)*c:=Uz (by omega) (by omega);omega
 have hlt:∀s,h.toNat^s%gr.P.toNat<gr.P.toNat:=λs=>mM _ (by omega)
 have hlen:=VD (p:=gr.P.toNat) (n:=gr.Q.toNat) k.pp (by have:=k.q;omega) ((x.toNat:Int)::(List.range gr.Q.toNat).map λi=>((h.toNat^i%gr.P.toNat:Nat):Int)) ?_ ?_
 ·simp at hlen;omega
 ·rw[List.pairwise_cons];refine⟨λy hy=>?_,?_⟩
  ·obtain⟨i,hi,rfl⟩:=jE.1 hy;exact key _ _ LS.1 (hlt i) λe=>Hj i e.symm
  rw[Ux];refine AaF ?_ Ach;intro i j hi hj RP;exact key _ _ (hlt i) (hlt j) (zBq hp2 k.pq (SG hh) Sg RP (kp.1 hj))
 intro r hr;rcases fK.1 hr with rfl|hr
 ·have:=SG hx;rw[<-Uy,<-o6,this];rfl
 obtain⟨i,hi,rfl⟩:=jE.1 hr
 have h5:(h.toNat^i%gr.P.toNat)^gr.Q.toNat%gr.P.toNat=1:=by
  rw[<-qd,<-o7,wb,o7,qd,SG hh,GB,nT (by omega)]
 rw[<-Uy,<-o6,h5];rfl
def zu7(h0:0<q)(h1:q<=4000000000000000000):qo a q=J (a%q):=by
 unfold qo;rw[eK (by omega),eK (by omega)];have b1:a.tmod q<q:=Uo a h0
 have b2: -q<a.tmod q:=by
  have:=Up a h0;omega
 rw[aI (by omega) (by omega),je (by omega)];congr 1;rw[Uq];rw[AaA,sH,AaB,Ur,eM]
def XA(a:Int){m:Int}(h:0<m): -m<a.tmod m/\a.tmod m<m:=by
 have h1:=Uo a h;have h2:=Up a h;omega
def zw7(a:Int){e m:Int}(h1:1<=m)(h2:0<=e)(h3:e<=4000000000000000000):Rn (lw a e m) (λv=>-m<v/\v<m):=by
 unfold lw;refine aG (by omega) (ay (ψ:=λv=>-m<v/\v<m) (tG (λs=>(-m<s.2.2/\s.2.2<m)/\0<=s.2.1/\s.2.1<=e) (λs=>s.2.1.toNat) ⟨XA _ (by omega),h2,A1 _⟩ ?_) λx hx=>aj hx);rintro s ⟨hs,h4,h5⟩;refine aZ (λg=>?_) λ_=>aj hs
 have g:0<s.2.1:=by simpa using g
 refine ay (ψ:=λv=>-m<v/\v<m) (aZ (λ_=>aG (by omega) (aj (XA _ (by omega)))) λ_=>aj hs) λx hx=>aG (by omega) (aj ?_)
 have e1:s.2.1.tdiv 2=s.2.1/2:=Uk (by omega);have e2:i64.wrap (s.2.1.tdiv 2)=s.2.1/2:=by rw[e1,aI (by omega) (by omega)]
 exact⟨⟨hx,by show 0<=i64.wrap _;rw[e2];omega,by show i64.wrap _<=e;rw[e2];omega⟩,by show(i64.wrap _).toNat<_;rw[e2];omega⟩
def zA2(hq:1<=gr.Q/\gr.Q<=4000000000000000000)(hp:1<=gr.P)(x e:Int):Rn (cD gr x e) (λv=>-gr.P<v/\v<gr.P):=by
 unfold cD;refine ag (zu7 (by omega) hq.2) (ay (zw7 x hp (nV _ (by omega)) ?_) λv hv=>aj hv);have:=sI e (show 0<gr.Q by omega);omega
def TR(hb:Bt code)(h:Cu code n (c0,at_,dC))(hn:n<=6000000000000000)(hg:Gw gr):Rn (CZ c0 at_ dC gr) (λz=>-2200000000<=z.1/\z.1<=2200000000/\Cu code (n+4) z.2):=by
 have g1:=hg.p;have g2:=hg.q;unfold CZ;refine ay (ψ:=λb=>b=aa->3<=gr.P/\1<=gr.Q) (aZ (λ_=>aj λh=>by cases h) λa=>aj λb=>by simp at a b;omega) λb gK=>aZ (λ_=>aj ⟨by show-2200000000<=(1:Int);decide,by show(1:Int)<=_;decide,h.mono (by omega)⟩) λe=>?_
 obtain⟨k1,k2⟩:=gK e;refine ag (zu7 (by omega) (by omega)) (ay (Tr hb h (by omega) (by omega)) λz ⟨z1,z2,_,z3⟩=>ay (zA2 ⟨k2,by omega⟩ (by omega) _ _) λv hv=>aj ⟨by show _<=v;omega,by show v<=_;omega,z3⟩)
def H9(hb:Bt code)(h:Cu code n (c0,at_,dC))(hn:n<=5000000000000000)(hg:Gw gr):Rn (xq c0 at_ dC gr) (λz=>-2200000000<=z.1/\z.1<=2200000000/\Cu code (n+6) z.2):=by
 have g1:=hg.p;unfold xq;refine ay (LU hb h (by omega)) λz z1=>aZ (λ_=>?_) λ_=>ay (TR hb z1 (by omega) hg) λy ⟨y1,y2,y3⟩=>aj ⟨y1,y2,y3.mono (by omega)⟩
 rw[aI (n:=gr.P-1) (by omega) (by omega)];refine ay (oN hb z1 (by omega) (by simp)) λy ⟨y1,y2⟩=>aj ?_
 simp only[fK,jf,jg]at y1;exact⟨by show-2200000000<=y.1;omega,by show y.1<=_;omega,y2.mono (by omega)⟩
def b7(gr:am)(c:an):Bool:=aK gr c.A&&aK gr c.B
def zBy(k:ao gr)(h:b7 gr c=Z):0<=c.A/\c.A<=2000000000/\0<=c.B/\c.B<=2000000000:=by
 simp only[b7,bI]at h;have h1:=qZ h.1;have h2:=qZ h.2;have hp:=k.p;omega
def zDJ(k:ao gr)(l:List an):Rn (Jr l gr.P gr.Q gr.G) (λx=>(x=-1/\l.all (b7 gr)=Z)\/(0<=x/\l.all (b7 gr)=aa)):=by
 unfold Jr;refine ay (ψ:=λx=>(x=.inl ()/\l.all (b7 gr)=Z)\/(∃j:Nat,x=.inr (j:Int)/\l.all (b7 gr)=aa)) (d9 (λn _=>∀m,m<n->∀h:m<l.length,b7 gr l[m]=Z) (λm hm=>by omega) ?_ λs hs=>.inl ⟨rfl,?_⟩) ?_
 ·rintro n s hn hI;refine bD hn ?_;unfold KQ;refine ay (ψ:=λb=>b= !b7 gr l[n]) (ag (zuL k l[n]) (aj rfl)) ?_;rintro _ rfl;refine aZ (λh=>aj (.inr ⟨n,rfl,?_⟩)) λh=>aj λm hm hl=>?_
  ·rw[yC];exact⟨l[n],e9 hn,by simpa using h⟩
  rcases dK m n with h1|h1
  ·exact hI m h1 hl
  have:m=n:=by omega
  subst this;simpa using h
 ·rw[bm];intro x hx;obtain⟨m,hm,rfl⟩:=KD.1 hx;exact hs m hm hm
 rintro x (⟨rfl,h⟩|⟨j,rfl,h⟩)
 ·exact aj (.inl ⟨rfl,h⟩)
 exact aj (.inr ⟨by show(0:Int)<=(j:Int);omega,h⟩)
def zsV(k:ao gr)(l:List an):Ie gr l=J (decide (l.length<=24)&&l.all (b7 gr)):=by
 unfold Ie;refine bE (ay (ψ:=λb=>b=(decide (l.length<=24)&&l.all (b7 gr))) (aZ (λh=>?_) λh=>aj ?_) λb hb=>aj hb)
 ·have h:l.length<=24:=by simp at h;omega
  unfold Mo;refine ay (ψ:=λb=>b= !l.all (b7 gr)) (ay (zDJ k l) λx hx=>aj ?_) ?_
  ·rcases hx with⟨rfl,h⟩|⟨h0,h⟩
   ·rw[h];rfl
   rw[h];simpa using h0
  rintro _ rfl;exact aj (by simp[h])
 have h:¬l.length<=24:=by simp at h;omega
 simp[h]
def zuP(k:ao gr)(l:List an):DB gr l=J (decide (l.length<=24)&&l.all (b7 gr)):=by
 unfold DB;by_cases h:24<(l.length:Int)
 ·rw[aB (by simpa using h)];have h:¬l.length<=24:=by omega
  simp[h]
 rw[az (by simpa using h)];refine(zz6 l (b7 gr) aa (λn hn=>?_)).trans ?_
 ·rw[jh hn,aR,xW k,aR];have e:([l[n].A,l[n].B].all (aK gr))=b7 gr l[n]:=by simp[b7]
  rw[e];cases b7 gr l[n]<;>rfl
 have h:l.length<=24:=by omega
 cases l.all (b7 gr)<;>simp[h]
def zyS(hb:Bt code)(h:Cu code n (c0,at_,dC))(hn:n<=4000000000000000)(hg:Gw gr):Rn (JY c0 at_ dC gr) (λz=>Cu code (n+8) z.2):=by
 unfold JY;exact ay (TR hb h (by omega) hg) λz ⟨_,_,z3⟩=>ay (TR hb z3 (by omega) hg) λy ⟨_,_,y3⟩=>aj (y3.mono (by omega))
def zur(hb:Bt code)(h:Cu code n (c0,at_,dC))(hn:n<=4000000000000000)(hg:Gw gr):Rn (Hf c0 at_ dC gr) (λz=>Cu code (n+12) z.2):=by
 unfold Hf;exact ay (H9 hb h (by omega) hg) λz ⟨_,_,z3⟩=>ay (H9 hb z3 (by omega) hg) λy ⟨_,_,y3⟩=>aj (y3.mono (by omega))
def zDs(hb:Bt code)(h:Cu code n (c0,at_,dC))(hn:n<=4000000000000000)(hk:k<=1000):Rn (JG c0 at_ dC (k:Int)) (λz=>z.1.length=k/\Cu code (n+2*k+2) z.2):=by
 unfold JG;refine ay (ψ:=λl=>l.length=k) (kv k (λj s=>s.2=(j:Int)/\s.1.length=j) ⟨rfl,rfl⟩ ?_ ?_) λl hl=>?_
 ·rintro j ⟨l,i⟩ hj ⟨h1,h2⟩;have h1:i=(j:Int):=h1;have h2:l.length=j:=h2;subst h1;refine fY (by simp;omega) (aG (by dsimp only;omega) (aj ⟨?_,by simp[h2]⟩));show i64.wrap ((j:Int)+1)=_;rw[aI (by omega) (by omega)];push_cast;rfl
 ·rintro⟨l,i⟩ ⟨h1,h2⟩;have h1:i=(k:Int):=h1;subst h1;exact bt (by simp) (aj h2)
 rw[aI (n:=(k:Int)-1) (by omega) (by omega)];refine ay (ψ:=λx=>x.2.length=k/\Cu code (n+2*k+2) x.1) (tG (λs=>s.2.1.length=k/\-1<=s.2.2/\s.2.2<=(k:Int)-1/\Cu code (n+2*((k:Int)-1-s.2.2)) s.1) (λs=>s.2.2.toNat) ⟨hl,by dsimp only;omega,by dsimp only;omega,h.mono (by dsimp only;omega)⟩ ?_) λx hx=>aj hx
 rintro⟨c,l,i⟩ ⟨h1,h2,h3,h4⟩;have h1:l.length=k:=h1;have h2: -1<=i:=h2;have h3:i<=(k:Int)-1:=h3;have h4:Cu code (n+2*((k:Int)-1-i)) c:=h4;refine aZ (λg=>?_) λg=>aj ⟨h1,h4.mono (by omega)⟩
 have g:0<i:=by simpa using g
 obtain⟨m,rfl⟩:=fJ (show 0<=i by omega);dsimp only;rw[aI (n:=(m:Int)+1) (by omega) (by omega)];refine ay (jU hb h4 (by omega)) λz ⟨z1,_,z3,_,z5⟩=>?_
 have z3:=z3 (by omega);obtain⟨j,hj⟩:=fJ z1;rw[hj];refine bD (show m<l.length by omega) (bD (show j<l.length by omega) (bD (show j<(l.set _ _).length by rw[KC];omega) (aj ⟨⟨by simp[h1],?_,?_,z5.mono ?_⟩,?_⟩)))
 ·show-1<=i64.wrap ((m:Int)-1);rw[aI (by omega) (by omega)];omega
 ·show i64.wrap ((m:Int)-1)<=_;rw[aI (by omega) (by omega)];omega
 ·show _<=n+2*((k:Int)-1-i64.wrap ((m:Int)-1));rw[aI (by omega) (by omega)];omega
 show(i64.wrap ((m:Int)-1)).toNat<(m:Int).toNat;rw[aI (by omega) (by omega)];omega
def ZY(hb:Bt code)(h:Cu code n (c0,at_,dC))(hn:n<=3000000000000000)(hg:Gw gr)(hk:k<=1000):Rn (ED c0 at_ dC gr (k:Int)) (λz=>z.1.length<=k+1/\Cu code (n+4*k+20) z.2):=by
 unfold ED;refine ay (zAJ hb h (by omega) hg (by omega)) λz ⟨z1,_,z3⟩=>?_
 refine ay (jU hb z3 (by omega)) λp ⟨_,_,_,_,p5⟩=>?_
 refine ay (ψ:=λv=>Sum.elim (λx=>x.2.length<=k+1/\Cu code (n+4*k+20) x.1) (λy=>y.1.length<=k+1/\Cu code (n+4*k+20) y.2) v) ?_ ?_
 ·refine aZ (λ_=>aG (by omega) (aj ⟨by simp[z1],p5.mono (by omega)⟩)) λ_=>aZ (λ_=>aZ (λg=>?_) λ_=>aj ⟨by dsimp only;omega,p5.mono (by omega)⟩) λ_=>aZ (λ_=>aZ (λg=>?_) λ_=>aj ⟨by dsimp only;omega,p5.mono (by omega)⟩) λ_=>aj ⟨by dsimp only;omega,p5.mono (by omega)⟩
  ·have g:0<(k:Int):=by simpa using g
   exact aG (by omega) (aj ⟨by simp[z1];omega,p5.mono (by omega)⟩)
  have g:0<(k:Int):=by simpa using g
  refine ay (jU hb p5 (by omega)) λq ⟨q1,q2,q3,_,q5⟩=>?_
  refine ay (oN hb q5 (by omega) (by simp)) λw ⟨_,w2⟩=>?_
  obtain⟨j,hj⟩:=fJ q1
  have hlt:j<z.1.length:=by
   rcases dK 1 k with h|h
   ·have:=q3 (by omega);omega
   ·have:=q2 (by omega);omega
  rw[hj];exact bD hlt (aj ⟨by show(z.1.set _ _).length<=_;rw[KC];omega,w2.mono (by omega)⟩)
 rintro(x|y) hx
 ·exact aj hx
 exact aj hx
def oD(s:ByteArray):List Int:=s.data.toList.map λb=>(b.toNat:Int)
def BC(s:ByteArray):(oD s).length=s.size:=by
 show(s.data.toList.map _).length=s.data.size;rw[Gu,wa]
def Zk(s:ByteArray):∀x∈oD s,0<=x/\x<=255:=by
 intro x hx;obtain⟨b,_,rfl⟩:=jE.1 hx;have:=b.toNat_lt;omega
def zDn(h:k<s.size):rO s (k:Int)=J ((oD s)[k]'(by rw[BC];exact h)):=by
 have h2:k<s.data.size:=h;simp[rO,oD,h];rfl
def WO(s:ByteArray)(l:List Int)(hs:s.size<=1000000)(hl:l.length<=1000000000000):IL s l=J ((s.size:Int)::oD s++l):=by
 unfold IL;refine bE (ay (ψ:=λx=>x=(s.size:Int)::oD s) (kv s.size (λn p=>n<=s.size/\p=((s.size:Int)::(oD s).take n,(n:Int))) ⟨by omega,by simp⟩ ?_ ?_) ?_)
 ·rintro n p hn ⟨_,rfl⟩;have OS:n<(oD s).length:=by rw[BC];exact hn
  have hb:=Zk s _ (e9 OS);refine aZ (λ_=>?_) λh=>absurd h (by simp;omega)
  refine ag (zDn hn) (aG ?_ (aj ⟨by omega,?_⟩))
  ·simp only[dX,nu,BC];omega
  show((s.size:Int)::(oD s).take n++[_],_)=_;rw[aI (by omega) (by omega),aI (by omega) (by omega),tZ,AaG OS];rfl
 ·rintro p ⟨_,rfl⟩;refine aZ (λh=>absurd h (by simp)) λ_=>aj ?_
  show(s.size:Int)::(oD s).take s.size=_;rw[KA (by rw[BC];omega)]
 rintro _ rfl;refine aG ?_ (aj rfl);simp only[dX,BC];omega
def zws(s:ByteArray)(l:List Int)(hs:s.size<=1000000)(hl:l.length<=1000000000000):Oc s l=J ((s.size:Int)::oD s++l):=WO s l hs hl
def cC(x:Int):Bool:=decide (0<=x)&&decide (x<=4611686018427387903)
def jr :cC x=Z↔0<=x/\x<=4611686018427387903:=by simp[cC]
def UJ(x:Int):JE x=J (cC x):=by
 unfold JE;rw[tX];rfl
def zwK(x:Int):Hx x=J (cC x):=by
 unfold Hx;rw[rE];rfl
def zBJ(s:ByteArray):(oD s).all cC=Z:=by
 rw[bm];intro x hx;have:=Zk s x hx;exact jr.2 ⟨by omega,by omega⟩
def Ay(c s k:Int):Int:=(c*s+k+1)%2147483647
def tu(p:Int×Int)(x:Int):Int×Int:=(Ay 48271 (Ay 48271 p.1 (x%2147483648)) (x/2147483648),Ay 69621 (Ay 69621 p.2 (x%2147483648)) (x/2147483648))
def Ep(l:List Int):Int:=let p:=(((l.length:Int)::l).foldl tu (1,2));p.1*2147483648+p.2
def EL(c s k:Int):0<=Ay c s k/\Ay c s k<=2147483646:=by unfold Ay;omega
def AJ{c s k:Int}(hc:c=48271\/c=69621)(hs:0<=s/\s<=2147483646)(hk:0<=k/\k<=2147483648):(i64.wrap ((i64.wrap ((i64.wrap (c*s))+k))+1)).tmod 2147483647=Ay c s k:=by
 rcases hc with rfl|rfl
 ·rw[aI (n:=48271*s) (by omega) (by omega),aI (n:=48271*s+k) (by omega) (by omega),aI (by omega) (by omega),je (by omega)];rfl
 rw[aI (n:=69621*s) (by omega) (by omega),aI (n:=69621*s+k) (by omega) (by omega),aI (by omega) (by omega),je (by omega)];rfl
def Mx(p:Int×Int):Prop:=(0<=p.1/\p.1<=2147483646)/\(0<=p.2/\p.2<=2147483646)
def zB6(p:Int×Int)(x:Int):Mx (tu p x):=⟨EL _ _ _,EL _ _ _⟩
theorem DR:∀(l:List Int) (p:Int×Int),Mx p->Mx (l.foldl tu p)
 |[],_,h=>h
 |x::l,p,_=>DR l _ (zB6 p x)
def zxh(l:List Int):cC (Ep l)=Z:=by
 obtain⟨h1,h2⟩:=DR ((l.length:Int)::l) (1,2) ⟨by decide,by decide⟩;refine jr.2 ?_;unfold Ep;dsimp only;omega
def zt4{p:Int×Int}(hp:Mx p)(hx:cC x=Z):Fm p.1 p.2 x=J (tu p x):=by
 obtain⟨h1,h2⟩:=hp;have hx:=jr.1 hx;have e1:x.tmod 2147483648=x%2147483648:=je hx.1
 have e2:i64.wrap (x.tdiv 2147483648)=x/2147483648:=by
  rw[Uk hx.1,aI (by omega) (by omega)]
 have b1:0<=x%2147483648/\x%2147483648<=2147483648:=by omega
 have b2:0<=x/2147483648/\x/2147483648<=2147483648:=by omega
 have h0:ix [x%2147483648,x/2147483648] 0=J (x%2147483648):=rfl;have jN:ix [x%2147483648,x/2147483648] 1=J (x/2147483648):=rfl;unfold Fm;rw[e1,e2,aR,Le];simp only[dX,ia,show decide ((0:Int)<((0+1+1:Nat):Int))=Z from rfl,eP,h0,aR,AJ (.inl rfl) h1 b1,AJ (.inr rfl) h2 b1];rw[Le];simp only[show i64.wrap (0+1)=1 from rfl,show decide ((1:Int)<((0+1+1:Nat):Int))=Z from rfl,eP,jN,aR,AJ (.inl rfl) (EL _ _ _) b2,AJ (.inr rfl) (EL _ _ _) b2];rw[Le];simp only[show i64.wrap (1+1)=2 from rfl,show decide ((2:Int)<((0+1+1:Nat):Int))=aa from rfl,p7,l7,aR];rfl
def Wj(h:l.all cC=Z)(hk:k<l.length):cC l[k]=Z:=bm.1 h _ (e9 hk)
def zAY(hl:l.length<=1000000000000)(hd:l.all cC=Z):I8 l=J (Ep l):=by
 unfold I8;have e0:=zt4 (p:=(1,2)) (x:=(l.length:Int)) ⟨by decide,by decide⟩ (jr.2 ⟨by omega,by omega⟩);refine bE (ag e0 (ay (ψ:=λp=>p=((l.length:Int)::l).foldl tu (1,2)) (d9 (λn p=>p=((l.length:Int)::l.take n).foldl tu (1,2)) rfl ?_ ?_) ?_))
 ·rintro n p hn rfl;refine bD hn (ag (zt4 (DR _ _ ⟨by decide,by decide⟩) (Wj hd hn)) (aj ?_));show tu _ _=_;rw[<-AaG hn,<-tZ,GA];rfl
 ·rintro p rfl;show(((l.length:Int)::l.take l.length).foldl tu (1,2))=_;rw[f6]
 rintro p rfl;obtain⟨h1,h2⟩:=DR ((l.length:Int)::l) (1,2) ⟨by decide,by decide⟩;refine aj ?_;rw[aI (n:=_*2147483648) (by omega) (by omega),aI (by omega) (by omega)];rfl
def zzk(hx:cC x=Z):i64.wrap (BitVec.ofInt IntKind.i64.bits x&&&BitVec.ofInt IntKind.i64.bits 2147483647).toNat=x%2147483648:=by
 have hx:=jr.1 hx;obtain⟨n,rfl⟩:=fJ hx.1
 have h1:(BitVec.ofInt IntKind.i64.bits ((n:Nat):Int)&&&BitVec.ofInt IntKind.i64.bits 2147483647).toNat=n%2147483648:=by
  rw[Aay]
  have a1:(BitVec.ofInt IntKind.i64.bits (n:Int)).toNat=n:=by
   rw[BitVec.toNat_ofInt];have:IntKind.i64.bits=64:=rfl;rw[this];omega
  have a2:(BitVec.ofInt IntKind.i64.bits 2147483647).toNat=2^31-1:=by decide
  rw[a1,a2,Nat.and_two_pow_sub_one_eq_mod]
 rw[h1,aI (by omega) (by omega)];omega
def zCx(hl:l.length<=1000000000000)(hd:l.all cC=Z):Hc l=J (Ep l):=by
 unfold Hc
 have kG:((l.length:Int)::l).all cC=Z:=by
  rw[yB,hd,A2];exact jr.2 ⟨by omega,by omega⟩
 refine bE (aG (by simp only[dX,ia];omega) (ag rfl (ay (ψ:=λp=>p=((l.length:Int)::l).foldl tu (1,2)) (d9 (λn p=>p=(((l.length:Int)::l).take n).foldl tu (1,2)) rfl ?_ ?_) ?_)))
 ·rintro n p hn rfl;have ok:=DR ((((l.length:Int)::l)).take n) (1,2) ⟨by decide,by decide⟩;have dg:=Wj kG hn;have b:=jr.1 dg;have ef:(((l.length:Int)::l)[n]).fdiv 2147483648=((l.length:Int)::l)[n]/2147483648:=Aaz _ (by omega);have Hj:n<((l.length:Int)::l).length:=hn;refine bD hn (aj ?_);show(_,_)=_;simp only[Aar]
  rw[zzk dg,ef,AJ (.inl rfl) ok.1 (by omega),AJ (.inr rfl) ok.2 (by omega),AJ (.inl rfl) (EL _ _ _) (by omega),AJ (.inr rfl) (EL _ _ _) (by omega),
   <-AaG Hj,GA]
  rfl
 ·rintro p rfl;show((((l.length:Int)::l).take ([(l.length:Int)]++l).length).foldl tu (1,2))=_;rw[Aar,f6]
 rintro p rfl;obtain⟨h1,h2⟩:=DR ((l.length:Int)::l) (1,2) ⟨by decide,by decide⟩;refine aj ?_;rw[aI (n:=_*2147483648) (by omega) (by omega),aI (by omega) (by omega)];rfl
def ta(s:ByteArray)(l:List Int):Int:=Ep ((s.size:Int)::oD s++l)
def RR(s:ByteArray)(l:List Int):cC (ta s l)=Z:=zxh _
def qQ(s:ByteArray)(l:List Int):Bool:=decide (s.size<=40)&&decide (1+s.size+l.length<=400)&&l.all cC
def WA(hs:s.size<=1000000):((s.size:Int)::oD s++l).all cC=l.all cC:=by
 rw[tZ,yB,kq,zBJ,jr.2 ⟨by omega,by omega⟩,gV,gV]
def Z4(hs:s.size<=1000000)(hl:l.length<=100000000000)(hd:l.all cC=Z):En s l=J (ta s l):=by
 unfold En;rw[WO s l hs (by omega),aR,zAY (by simp[BC];omega) (by rw[WA hs];exact hd)];rfl
def zs4(l:List Int):JH l=J (decide (l.length<=400)&&l.all cC):=by
 unfold JH
 have h1:Do l=J (l.all cC):=L9 (f:=CX) λx _=>by
  unfold CX;rw[UJ];rfl
 rw[h1];by_cases h:l.length<=400
 ·rw[aB (by simp;omega)];simp[h]
 rw[az (by simp;omega)];simp[h]
def zvK(l:List Int):Im l=J (if(decide (l.length<=400)&&l.all cC)=Z then(Ep l,Z)else(0,aa)):=by
 unfold Im;rw[zs4,aR];cases h:(decide (l.length<=400)&&l.all cC)with
 |true=>
  simp only[bI,eC]at h;rw[zCx (by omega) h.2];rfl
 |false=>rfl
def Yr(s:ByteArray)(l:List Int):Ce s l=J (if qQ s l=Z then(ta s l,Z)else(0,aa)):=by
 unfold Ce;by_cases h1:s.size<=40
 ·by_cases h2:l.length<=400
  ·rw[az (by simp;omega),aR,az (by simp;omega),zws s l (by omega) (by omega),aR,zvK,WA (by omega)];have e:((s.size:Int)::oD s++l).length=1+s.size+l.length:=by simp[BC];omega
   rw[e];have e2:qQ s l=(decide (1+s.size+l.length<=400)&&l.all cC):=by simp[qQ,h1]
   rw[e2];cases decide (1+s.size+l.length<=400)<;>cases l.all cC<;>rfl
  rw[az (by simp;omega),aR,aB (by simp;omega)]
  have:qQ s l=aa:=by
   have:¬1+s.size+l.length<=400:=by omega
   simp[qQ,this]
  rw[this];rfl
 rw[aB (by simp;omega),aR,aB rfl];have:qQ s l=aa:=by simp[qQ,h1]
 rw[this];rfl
theorem Zl{p:Nat}(hp:Pr p){b:Nat}(h1:1<=b)(h2:b<p):∀e:Nat,b^e%p≠0
 |0=>by
  have:=hp.1;rw[Un,nT (by omega)];omega
 |e+1=>λh=>by
  have hb:((b^e:Nat):Int)%(p:Int)=0\/(b:Int)%(p:Int)=0:=DA hp (by
   rw[<-C8,<-Nat.pow_succ,<-o6,h];rfl)
  rcases hb with h3|h3
  ·exact Zl hp h1 h2 e (by rw[<-o6]at h3;omega)
  ·rw[<-o6,nT h2]at h3;omega
def zh(gr:am)(s:ByteArray)(k c:Int):Int:=1+ta s [gr.P,gr.Q,gr.G,k,c]%(gr.P-1)
def kL(gr:am)(s:ByteArray)(k c:Int):Int:=(((zh gr s k c).toNat^((gr.P-1)/gr.Q).toNat%gr.P.toNat:Nat):Int)
def SX(k:ao gr)(s:ByteArray)(i c:Int):1<=zh gr s i c/\zh gr s i c<=gr.P-1:=by
 have hp:=k.p;have h1:=nV (ta s [gr.P,gr.Q,gr.G,i,c]) (show gr.P-1≠0 by omega);have h2:=sI (ta s [gr.P,gr.Q,gr.G,i,c]) (show 0<gr.P-1 by omega);unfold zh;omega
def QG(k:ao gr)(s:ByteArray)(i c:Int):1<=kL gr s i c/\kL gr s i c<=gr.P-1:=by
 have hp:=k.p;have hx:=SX k s i c;have h1:=Zl k.pp (b:=(zh gr s i c).toNat) (by omega) (by omega) ((gr.P-1)/gr.Q).toNat;have h2:=mM ((zh gr s i c).toNat^((gr.P-1)/gr.Q).toNat) (show 0<gr.P.toNat by omega);unfold kL;omega
def ZL(k:ao gr)(s:ByteArray)(i c:Int):
 nC (i64.wrap (1+((ta s [gr.P,gr.Q,gr.G,i,c]).tmod (i64.wrap (gr.P-1))))) (i64.wrap ((i64.wrap (gr.P-1)).tdiv gr.Q)) gr.P=J (kL gr s i c)/\
 lw (i64.wrap (1+((ta s [gr.P,gr.Q,gr.G,i,c]).tmod (i64.wrap (gr.P-1))))) (i64.wrap ((i64.wrap (gr.P-1)).tdiv gr.Q)) gr.P=J (kL gr s i c):=by
 have hp:=k.p;have hq:=k.q;have hd:=jr.1 (RR s [gr.P,gr.Q,gr.G,i,c]);have hx:=SX k s i c;have e1:i64.wrap (gr.P-1)=gr.P-1:=aI (by omega) (by omega)
 have e2:i64.wrap (1+((ta s [gr.P,gr.Q,gr.G,i,c]).tmod (gr.P-1)))=zh gr s i c:=by
  rw[je hd.1];unfold zh at hx⊢;exact aI (by omega) (by omega)
 have h3:(gr.P-1)/gr.Q<=gr.P-1:=Int.ediv_le_self _ (by omega);have h4:0<=(gr.P-1)/gr.Q:=Int.ediv_nonneg (by omega) (by omega)
 have e3:i64.wrap ((gr.P-1).tdiv gr.Q)=(gr.P-1)/gr.Q:=by
  rw[Uk (by omega),aI (by omega) (by omega)]
 rw[e1,e2,e3];exact pW (by omega) (by omega) (by omega) (by omega) h4 (by omega)
def XB(k:ao gr){c:Int}(hi:cC i=Z)(hc:0<=c/\c<=1000):[gr.P,gr.Q,gr.G,i,c].all cC=Z:=by
 have hp:=k.p;have hq:=k.q;have hg:=k.g;simp only[yB,KE,A2,bI];exact⟨jr.2 (by omega),jr.2 (by omega),jr.2 (by omega),hi,jr.2 (by omega)⟩
def qW(gr:am)(s:ByteArray)(i y:Int):Prop:=(∃c:Nat,c<1000/\y=kL gr s i c/\kL gr s i c≠1/\∀j:Nat,j<c->kL gr s i j=1)\/(y=0/\∀j:Nat,j<1000->kL gr s i j=1)
def Sp(k:ao gr)(h1:qW gr s i x)(h2:qW gr s i y):x=y:=by
 rcases h1 with⟨c,hc,rfl,h3,h4⟩|⟨rfl,h4⟩<;>rcases h2 with⟨d,hd,rfl,h5,h6⟩|⟨rfl,h6⟩
 ·rcases Nat.lt_trichotomy c d with h|h|h
  ·exact absurd (h6 c h) h3
  ·rw[h]
  exact absurd (h4 d h) h5
 ·exact absurd (h6 c hc) h3
 ·exact absurd (h4 d hd) h5
 rfl
def zBK(k:ao gr)(h1:qW gr s i x):0<=x/\x<=gr.P-1:=by
 have hp:=k.p;rcases h1 with⟨c,hc,rfl,h3,h4⟩|⟨rfl,h4⟩
 ·have:=QG k s i c;omega
 omega
def zwG(k:ao gr)(hs:s.size<=40)(hi:cC i=Z):Rn (zB gr s i) (qW gr s i):=by
 have hp:=k.p;have hq:=k.q;unfold zB
 refine ay (ψ:=λx=>(x=.inl ()/\∀j:Nat,j<1000->kL gr s i j=1)\/∃c:Nat,c<1000/\x=.inr (kL gr s i c)/\kL gr s i c≠1/\∀j:Nat,j<c->kL gr s i j=1)
  (kv 1000 (λn p=>p=(n:Int)/\n<=1000/\∀j:Nat,j<n->kL gr s i j=1) ⟨rfl,by omega,λj hj=>by omega⟩ ?_ ?_) ?_
 ·rintro n p hn ⟨rfl,_,hI⟩;refine aZ (λ_=>?_) λh=>absurd h (by simp;omega)
  refine ag (Z4 (by omega) (by simp) (XB k hi (by omega))) (aG (by rw[aI (by omega) (by omega)];omega) (aG (by omega) (ag (ZL k s i n).2 (aZ (λh=>aj (.inr ⟨n,hn,rfl,by simpa using h,hI⟩)) λh=>aj ⟨by rw[aI (by omega) (by omega)];rfl,hn,λj hj=>?_⟩))));rcases dK j n with h1|h1
  ·exact hI j h1
  have:j=n:=by omega
  subst this;simpa using h
 ·rintro p ⟨rfl,_,hI⟩;refine aZ (λh=>absurd h (by simp)) λ_=>aj (.inl ⟨rfl,hI⟩)
 rintro x (⟨rfl,h⟩|⟨c,hc,rfl,h⟩)
 ·exact aj (.inr ⟨rfl,h⟩)
 exact aj (.inl ⟨c,hc,rfl,h⟩)
def zy9(k:ao gr)(hs:s.size<=40)(hi:cC i=Z):Rn (xu gr s i) (λx=>qW gr s i x.1/\x.2=decide (0<x.1)):=by
 have hp:=k.p;have hq:=k.q;unfold xu
 refine ay (ψ:=λx=>(x=.inl ()/\∀j:Nat,j<1000->kL gr s i j=1)\/∃c:Nat,c<1000/\x=.inr (kL gr s i c,Z)/\kL gr s i c≠1/\∀j:Nat,j<c->kL gr s i j=1)
  (kv 1000 (λn p=>p=(n:Int)/\n<=1000/\∀j:Nat,j<n->kL gr s i j=1) ⟨rfl,by omega,λj hj=>by omega⟩ ?_ ?_) ?_
 ·rintro n p hn ⟨rfl,_,hI⟩;refine aZ (λ_=>?_) λh=>absurd h (by simp;omega)
  have hl:qQ s [gr.P,gr.Q,gr.G,i,(n:Int)]=Z:=by
   have:=XB k (i:=i) (c:=n) hi (by omega);simp only[qQ,this,A2,dX,ia,bI,eC];omega
  have eh:Ce s [gr.P,gr.Q,gr.G,i,(n:Int)]=J (ta s [gr.P,gr.Q,gr.G,i,(n:Int)],Z):=by rw[Yr,aB hl]
  refine ag eh (bt rfl (aG (by rw[aI (by omega) (by omega)];omega) (aG (by omega) (ag (ZL k s i n).1 (aZ (λh=>aj (.inr ⟨n,hn,rfl,by simpa using h,hI⟩)) λh=>aj ⟨by rw[aI (by omega) (by omega)];rfl,hn,λj hj=>?_⟩)))));rcases dK j n with h1|h1
  ·exact hI j h1
  have:j=n:=by omega
  subst this;simpa using h
 ·rintro p ⟨rfl,_,hI⟩;refine aZ (λh=>absurd h (by simp)) λ_=>aj (.inl ⟨rfl,hI⟩)
 rintro x (⟨rfl,h⟩|⟨c,hc,rfl,h⟩)
 ·exact aj ⟨.inr ⟨rfl,h⟩,rfl⟩
 have:=QG k s i c;exact aj ⟨.inl ⟨c,hc,rfl,h⟩,by symm;simp;omega⟩
def Lr(k:ao gr)(hs:s.size<=40)(hi:cC i=Z):∃y,zB gr s i=J y/\xu gr s i=J (y,decide (0<y))/\qW gr s i y:=by
 obtain⟨y,h1,h2⟩:=zwG k hs hi;obtain⟨⟨z,t⟩,h3,h4,h5⟩:=zy9 k hs hi;refine⟨y,h1,?_,h2⟩;simp only at h4 h5;have:z=y:=Sp k h4 h2;subst this;rw[h3,h5]
def WR{α:Type}{R:Nat->α->Prop}{l:List α}{n:Nat}{z:α}(hl:l.length=n)(h:∀j (h:j<l.length),R j l[j])(hz:R n z):∀j (h:j<(l++[z]).length),R j (l++[z])[j]:=by
 intro j hj;rw[List.getElem_append];split
 ·exact h j _
 have hj:j<n+1:=by simpa[hl]using hj
 have e:j=n:=by omega
 subst e;simpa[hl]using hz
def FB(gr:am)(n:Nat)(l:List Int):Prop:=l.length=n/\∀j (h:j<l.length),qW gr ⟨#[104,115]⟩ j l[j]
def zBc(k:ao gr){n:Nat}(hn:n<=24):∃b t,rY gr (n:Int)=J (b,t)/\kT gr (n:Int)=J (b,t)/\
 (t=Z->qW gr ⟨#[104]⟩ 0 b.H/\0<b.H/\FB gr n b.Hs/\∀x∈b.Hs,0<x):=by
 have hp:=k.p;obtain⟨y,hy1,H3,T0⟩:=Lr k (s:=⟨#[104]⟩) (by decide) (i:=0) rfl;have dZ:vq gr=Z:=NL.2 k;have D:∀m:Nat,m<24->∃z,zB gr ⟨#[104,115]⟩ m=J z/\xu gr ⟨#[104,115]⟩ m=J (z,decide (0<z))/\qW gr ⟨#[104,115]⟩ m z:=λm hm=>Lr k (by decide) (jr.2 ⟨by omega,by omega⟩)
 have S:Rn (Ko gr ⟨#[104,115]⟩ (n:Int)) (λx=>(x.2=Z/\FB gr n x.1/\∀z∈x.1,0<z)\/(x=([],aa)/\∃m:Nat,m<n/\qW gr ⟨#[104,115]⟩ m 0)):=by
  unfold Ko;refine ay (ψ:=λb=>b=aa) ?_ ?_
  ·refine ag (J4 gr) (bt (by rw[dZ];rfl) (bt rfl (ag (rE _ _ _) (aj ?_))));simp;omega
  ·rintro _ rfl;refine bt rfl (ay (ψ:=λx=>(∃l,x=.inl l/\FB gr n l/\∀z∈l,0<z)\/(x=.inr ([],aa)/\∃m:Nat,m<n/\qW gr ⟨#[104,115]⟩ m 0)) (kv n (λm p=>p.2=(m:Int)/\m<=n/\FB gr m p.1/\∀z∈p.1,0<z) ⟨rfl,by omega,⟨rfl,λj hj=>by simp at hj⟩,λz hz=>by simp at hz⟩ ?_ ?_) ?_)
   ·rintro m ⟨l,c⟩ hm ⟨h1,_,hD,qD⟩;simp only at h1 hD qD;subst h1;obtain⟨z,z1,z2,z3⟩:=D m (by omega);have zb:=zBK k z3;refine aZ (λ_=>?_) λh=>absurd h (by simp;omega)
    refine ag z1 (aZ (λh=>aj (.inr ⟨rfl,m,hm,?_⟩)) λh=>aG ?_ (aj ⟨?_,hm,⟨by simp[hD.1],WR hD.1 hD.2 z3⟩,λw hw=>?_⟩))
    ·have:z=0:=by simpa using h
     rw[<-this];exact z3
    ·have:=hD.1;simp only;omega
    ·show i64.wrap _=_;rw[aI (by omega) (by omega)];rfl
    ·rcases jY.1 hw with h1|h1
     ·exact qD w h1
     ·have:w=z:=by simpa using h1
      subst this;have:¬w=0:=by simpa using h
      omega
   ·rintro⟨l,_⟩ ⟨rfl,_,hD⟩;exact aZ (λh=>absurd h (by simp)) λ_=>aj (.inl ⟨l,rfl,hD⟩)
   ·rintro x (⟨l,rfl,h⟩|⟨rfl,h⟩)
    ·exact aj (.inl ⟨rfl,h⟩)
    ·exact aj (.inr ⟨rfl,h⟩)
 have I:Rn (dI (σ:=Int×List Int×Bool×Int) (β:=Int×List Int×Bool) (λgz=>
 if decide (gz.2.2.2<(n:Int))=Z then(
 (xu gr (⟨#[104,115]⟩:ByteArray) gz.2.2.2).bind λky=>
 ((if gz.2.2.1=Z then(
 J ky.2)else(
 J aa):Option Bool).bind λqx=>
 gd ((gz.2.1.length+1)*8<=140737488355328/\gz.2.1.length+1<=4611686018427387904)<|
 J (.go (gz.1,gz.2.1++[ky.1],qx,i64.wrap (gz.2.2.2+1)))))else(
 J (.out (gz.1,gz.2.1,gz.2.2.1)))) (y,[],Z,0)) (λx=>x.1=y/\FB gr n x.2.1/\x.2.2=x.2.1.all (λz=>decide (0<z))):=by
  refine kv n (λm p=>p.1=y/\p.2.2.2=(m:Int)/\m<=n/\FB gr m p.2.1/\p.2.2.1=p.2.1.all (λz=>decide (0<z))) ⟨rfl,rfl,by omega,⟨rfl,λj hj=>by simp at hj⟩,rfl⟩ ?_ ?_
  ·rintro m ⟨w,l,t,c⟩ hm ⟨h1,h2,_,hD,h3⟩;simp only at h1 h2 hD h3;subst h1 h2 h3;obtain⟨z,z1,z2,z3⟩:=D m (by omega);refine aZ (λ_=>?_) λh=>absurd h (by simp;omega)
   refine ag z2 (ay (ψ:=λb=>b=(l.all (λz=>decide (0<z))&&decide (0<z))) (aZ (λh=>aj ?_) λh=>aj ?_) ?_)
   ·simp only at h;rw[h];rfl
   ·simp only at h;rw[h];rfl
   ·rintro _ rfl;refine aG (by have:=hD.1;dsimp only;omega) (aj ⟨rfl,?_,hm,⟨by simp[hD.1],WR hD.1 hD.2 z3⟩,?_⟩)
    ·show i64.wrap ((m:Int)+1)=_;rw[aI (by omega) (by omega)];rfl
    ·show _=(l++[z]).all _;simp
  ·rintro⟨w,l,t,c⟩ ⟨h1,h2,_,hD,h3⟩;simp only at h1 h2 hD h3;subst h1 h2 h3;exact aZ (λh=>absurd h (by simp)) λ_=>aj ⟨rfl,hD,rfl⟩
 obtain⟨⟨b,l,t⟩,i1,i2,i3,i4⟩:=I;simp only at i2 i3 i4;subst i2;obtain⟨⟨l2,t2⟩,s1,s2⟩:=S
 have E:t2=t/\(t=Z->l2=l/\∀z∈l,0<z):=by
  rcases s2 with⟨h1,h2,h3⟩|⟨h1,m,hm,h3⟩
  ·simp only at h1 h2 h3;have e:l2=l:=List.ext_getElem (h2.1.trans i3.1.symm) λj a c=>Sp k (h2.2 j a) (i3.2 j c)
   subst e;have:l2.all (λz=>decide (0<z))=Z:=by simpa using h3
   rw[this]at i4;exact⟨by rw[h1,i4],λ_=>⟨rfl,h3⟩⟩
  ·cases h1;have kM:m<l.length:=by rw[i3.1];exact hm
   have:l[m]=0:=Sp k (i3.2 m kM) h3
   have hf:l.all (λz=>decide (0<z))=aa:=by
    rw[yC];exact⟨l[m],e9 kM,by simp[this]⟩
   rw[hf]at i4;exact⟨i4.symm,λh=>by rw[i4]at h;cases h⟩
 have S0:rY gr (n:Int)=J (if(decide (0<b)&&t2)=Z then(⟨b,l2⟩,Z)else(⟨0,[]⟩,aa)):=by
  have hD:I3 gr ⟨#[104]⟩ 0=J (b,decide (0<b)):=by
   unfold I3;rw[J4,dZ];simp only[aR,wc,p7,l7];rw[az (show¬(decide (40<(((⟨#[104]⟩:ByteArray).size:Nat):Int))=Z)by decide),zwK,aR,aR,az (by decide),hy1,aR]
  unfold rY;rw[J4,dZ];simp only[aR,wc,p7,l7];rw[rE,aR,aR,az (by simp;omega),hD,aR,s1,aR];cases decide (0<b)<;>cases t2<;>rfl
 have I0:kT gr (n:Int)=J (if(decide (0<b)&&t)=Z then(⟨b,l⟩,Z)else(⟨0,[]⟩,aa)):=by
  unfold kT;rw[H3,aR,i1,aR];cases decide (0<b)<;>cases t<;>rfl
 obtain⟨rfl,E2⟩:=E;cases hb:(decide (0<b)&&t2)with
 |false=>
  rw[hb]at S0 I0;exact⟨_,_,S0,I0,λh=>by cases h⟩
 |true=>
  rw[hb]at S0 I0;simp only[bI,eC]at hb;obtain⟨rfl,qD⟩:=E2 hb.2;exact⟨_,_,S0,I0,λ_=>⟨T0,hb.1,i3,qD⟩⟩
def zCT{α β γ:Type}{l:List α}{f:α->β}{body:Int->List β->Option (fg (List β) γ)}{stop:List β->γ}(a0:List β)(hs:∀k (h:k<l.length) (s:List β),s.length=a0.length+k->body (k:Int) s=J (.go (s++[f l[k]]))):
 aS body stop l.length 0 a0=J (stop (a0++l.map f)):=by
 refine bE (d9 (λk s=>s=a0++(l.take k).map f/\k<=l.length) ⟨by simp,by omega⟩ ?_ ?_)
 ·rintro k s hk ⟨rfl,_⟩;refine⟨_,hs k hk _ (by simp;omega),?_,hk⟩;rw[iO hk,l8,gU];rfl
 rintro s ⟨rfl,_⟩;simp
def zCD{γ:Type}{m:Nat}(p:Nat->Bool)(c d:γ){body:Int->Unit->Option (fg Unit (Unit ⊕ γ))}(h:∀k,k<m->body (k:Int) ()=J (if p k=Z then .go ()else .out (.inr c))):
 (aS body (λ_=>.inl ()) m 0 ()).bind (Sum.elim (λ_=>J d) J)=J (if(List.range m).all p=Z then d else c):=by
 rcases IW (body:=body) m p (λ_=>c) h with⟨e,h1⟩|⟨k,h1,h2,h3,e⟩
 ·have:(List.range m).all p=Z:=by
   rw[bm];intro x hx;exact h1 x (kp.1 hx)
  rw[e,this];rfl
 have:(List.range m).all p=aa:=by
  rw[yC];exact⟨k,kp.2 h1,by simp[h2]⟩
 rw[e,this];rfl
def cX(a b x:Int):Bool:=decide (a<=x)&&decide (x<=b)
def ZT :cX a b x=Z↔a<=x/\x<=b:=by simp[cX]
def Sh(a b:Bool):(if a=Z then J b else J aa)=J (a&&b):=by cases a<;>rfl
def zAP(hl:l.length<=1000000000000):NW l=J (oH l):=Wu Yv l hl
def K1(h:l.length<=1048576):Bv l=J l:=eK (by omega)
def zBs(h:l.length<=1048576):uh l=J l:=eK (by omega)
def Fc{σ:Type}(f:Nat->σ->σ):Nat->σ->σ
 |0,s=>s
 |n+1,s=>f n (Fc f n s)
theorem MR{σ:Type}{f:Nat->σ->σ}{I:Nat->σ->Prop}{s0:σ}(h0:I 0 s0){m:Nat}(h:∀k s,k<m->I k s->I (k+1) (f k s)):∀k,k<=m->I k (Fc f k s0)
 |0,_=>h0
 |k+1,hk=>h k _ (by omega) (MR h0 h k (by omega))
def zDz{σ β:Type}{body:Int->σ->Option (fg σ β)}{stop:σ->β}{m:Nat}{s0:σ}(f:Nat->σ->σ)(I:Nat->σ->Prop)(h0:I 0 s0)(hi:∀k s,k<m->I k s->I (k+1) (f k s))(hs:∀k s,k<m->I k s->body (k:Int) s=J (.go (f k s))):
 aS body stop m 0 s0=J (stop (Fc f m s0)):=by
 refine bE (d9 (λk s=>s=Fc f k s0/\k<=m) ⟨rfl,by omega⟩ ?_ ?_)
 ·rintro k s hk ⟨rfl,_⟩;exact⟨_,hs k _ hk (MR h0 hi k (by omega)),rfl,hk⟩
 rintro s ⟨rfl,_⟩;rfl
def QW{α:Type}{L:List (List α)}{i:Nat}(h:i<L.length):(L.take (i+1)).flatten=(L.take i).flatten++L[i]:=by
 rw[iO h,T7];simp
def ztL{α:Type}(L:List (List α))(i:Nat):(L.take i).flatten.length<=L.flatten.length:=by
 have e:L.flatten=(L.take i).flatten++(L.drop i).flatten:=by rw[<-T7,De]
 rw[e,bP];omega
def Fk(L:List (List Int))(h:L.flatten.length<=1000000000000):pS L=J L.flatten:=by
 unfold pS;refine bE (ay (ψ:=λn=>n=(L.flatten.length:Int)) (d9 (λi s=>s=((L.take i).flatten.length:Int)) rfl ?_ ?_) ?_)
 ·rintro i s hi rfl;have e:=gn List.length (QW hi);rw[bP]at e;have hl:=ztL L (i+1);refine bD hi ?_;rw[aI (by omega) (by omega)];refine bt (by simp only[wd];omega) (aj ?_);show _=_;omega
 ·rintro s rfl;rw[f6]
 rintro n rfl;refine aG (by omega) (ay (ψ:=λr=>r=L.flatten) (d9 (λi s=>s=(L.take i).flatten) rfl ?_ ?_) λr hr=>aj hr)
 ·rintro i s hi rfl;have e:=gn List.length (QW hi);rw[bP]at e;have hl:=ztL L (i+1);refine bD hi (aG (by omega) (aj ?_));show _=_;rw[QW hi]
 rintro s rfl;rw[f6]
def chG(gr:am)(s:ByteArray)(l:List Int):Int:=ta s ([gr.P,gr.Q,gr.G]++l)%gr.Q
def mG(k:ao gr)(s:ByteArray)(l:List Int):0<=chG gr s l/\chG gr s l<gr.Q:=by
 have:=k.q;exact⟨nV _ (by omega),sI _ (by omega)⟩
def ZZ(k:ao gr) :([gr.P,gr.Q,gr.G]++l).all cC=l.all cC:=by
 have hp:=k.p;have hq:=k.q;have hg:=k.g;rw[kq]
 have:[gr.P,gr.Q,gr.G].all cC=Z:=by
  simp only[yB,KE,A2,bI];exact⟨jr.2 (by omega),jr.2 (by omega),jr.2 (by omega)⟩
 rw[this,gV]
def Mj(k:ao gr)(hs:s.size<=1000000)(hl:l.length<=10000000000)(hd:l.all cC=Z):pU gr s l=J (chG gr s l):=by
 have hq:=k.q;have hb:=jr.1 (RR s ([gr.P,gr.Q,gr.G]++l));unfold pU;rw[eK (by simp only[dX,ia];omega),Z4 hs (by simp only[bP,dX,ia];omega) (by rw[ZZ k];exact hd),aR,eK (by omega),je hb.1];rfl
def LV(k:ao gr)(s:ByteArray)(hl:l.length<=10000000000):mg gr s l=J (if qQ s ([gr.P,gr.Q,gr.G]++l)=Z then(chG gr s l,Z)else(0,aa)):=by
 have hq:=k.q;have hb:=jr.1 (RR s ([gr.P,gr.Q,gr.G]++l));unfold mg;rw[eK (by simp only[dX,ia];omega),Yr,aR];cases qQ s ([gr.P,gr.Q,gr.G]++l)with
 |false=>rfl
 |true=>
  simp only[eP,wc,p7,l7];rw[eK (by omega),je hb.1];rfl
def MA(k:ao gr)(hs:s.size<=40)(hl:4+s.size+l.length<=400)(hd:l.all cC=Z):qQ s ([gr.P,gr.Q,gr.G]++l)=Z:=by
 unfold qQ;rw[ZZ k,hd,A2,bI,eC,eC];simp only[bP,dX,ia];omega
def oa(k:ao gr)(h:l.all (aK gr)=Z):l.all cC=Z:=by
 have hp:=k.p;rw[bm]at h⊢;intro x hx;have:=qZ (h x hx);exact jr.2 (by omega)
def zaO(gr:am):List Int->List Int->Int->Int
 |x::l,e::m,o=>zaO gr l m (o*av gr x e%gr.P)
 |_,_,o=>o
theorem Nf(gr:am):∀(l m:List Int) (x e o:Int),l.length=m.length->zaO gr (l++[x]) (m++[e]) o=zaO gr l m o*av gr x e%gr.P
 |[],[],x,e,o,_=>rfl
 |y::l,f::m,x,e,o,h=>Nf gr l m x e _ (by simpa using h)
theorem Pp(gr:am):∀(l m:List Int) (o:Int),zaO gr l (m.take l.length) o=zaO gr l m o
 |[],m,o=>by cases m<;>rfl
 |y::l,[],o=>rfl
 |y::l,f::m,o=>Pp gr l m _
theorem OT{gr:am}(h:0<gr.P):∀(l m:List Int) (o:Int),0<=o/\o<gr.P->0<=zaO gr l m o/\zaO gr l m o<gr.P
 |x::l,e::m,o,_=>OT h l m _ ⟨nV _ (by omega),sI _ h⟩
 |[],_,o,ho=>ho
 |_::_,[],o,ho=>ho
def HF(k:ao gr)(hx:0<=x/\x<gr.P)(hy:0<=y):aP gr [x,y]=x*y%gr.P:=by
 have hp:=k.p;simp only[aP,Or,List.foldl_nil,UA];rw[qe hx.1 hx.2]
def oF(k:ao gr)(hl:∀x∈l,0<=x/\x<=2000000000)(hm:l.length<=m.length):kV gr l m=J (zaO gr l m 1):=by
 have hp:=k.p;unfold kV;refine bE (ay (ψ:=λb=>b=zaO gr l m 1) (d9 (λi s=>s=zaO gr (l.take i) (m.take i) 1) rfl ?_ ?_) λb hb=>aj hb)
 ·rintro i s hi rfl;have bd:=OT (gr:=gr) (by omega) (l.take i) (m.take i) 1 (by omega);have hx:=hl l[i] (e9 hi);have pb:=AK k l[i] (m[i]'(by omega));refine bD hi (bD (show i<m.length by omega) (ag (zCF k hx.1 hx.2 _) (aG (by omega) (aj ?_))));show _=zaO gr (l.take (i+1)) (m.take (i+1)) 1;rw[iO hi,iO (show i<m.length by omega),Nf _ _ _ _ _ _ (by simp;omega)];have b1:=sJ bd.1 pb.1;have b2:zaO gr (l.take i) (m.take i) 1*av gr l[i] (m[i]'(by omega))<=2000000000*2000000000:=wg (by omega) (by omega) pb.1 (by omega);rw[aI (by omega) (by omega),je b1]
 rintro s rfl;rw[f6,Pp]
def oV(k:ao gr)(hl:∀x∈l,0<=x/\x<=2000000000)(hm:l.length<=m.length):lF gr l m=J (zaO gr l m 1):=by
 have hp:=k.p;unfold lF;refine bE (ay (ψ:=λb=>b=zaO gr l m 1) (d9 (λi s=>s=zaO gr (l.take i) (m.take i) 1) rfl ?_ ?_) λb hb=>aj hb)
 ·rintro i s hi rfl;have bd:=OT (gr:=gr) (by omega) (l.take i) (m.take i) 1 (by omega);have hx:=hl l[i] (e9 hi);have pb:=AK k l[i] (m[i]'(by omega));refine bD hi (bD (show i<m.length by omega) (ag (DM k hx.1 hx.2 _).1 (ag (Ap k ?_) (aj ?_))))
  ·intro y hy;simp only[fK,jf,jg]at hy;rcases hy with rfl|rfl<;>omega
  show _=zaO gr (l.take (i+1)) (m.take (i+1)) 1;rw[iO hi,iO (show i<m.length by omega),Nf _ _ _ _ _ _ (by simp;omega),HF k bd pb.1]
 rintro s rfl;rw[f6,Pp]
structure XN (gr:am) (bs:List (List Int)):Prop where
 n:1<=bs.length/\bs.length<=8
 m:1<=(bs.headD []).length/\(bs.headD []).length<=8
 r:∀r∈bs,r.length=(bs.headD []).length/\r.all (aK gr)=Z
def XN.zC(k:ao gr){bs:List (List Int)}(h:XN gr bs):bs.flatten.all cC=Z:=by
 rw[bm];intro x hx;obtain⟨r,hr,hx⟩:=Ku.1 hx;exact bm.1 (oa k (h.r r hr).2) x hx
def zAO(k:ao gr)(h:l.all (aK gr)=Z):∀x∈l,0<=x/\x<=2000000000:=λx hx=>by
 have hp:=k.p;have:=qZ (bm.1 h x hx);omega
def nH(k:ao gr):aK gr gr.G=Z:=by
 have hg:=k.g;simp only[aK,bI,eC];exact⟨by omega,k.o⟩
def db(l:List Int):List Int:=(l.length:Int)::l
def iB(p:bZ):List Int:=db p.aC++db p.aV++db p.aE
def HY(h:l.length<=10000000):yd l=J (db l):=by
 unfold yd;rw[eK (by simp;omega)];rfl
def eO(l:List Int):Bool:=decide ((l.length:Int)<=400)&&l.all cC
def Hm(l:List Int):zp l=J (eO l):=by
 unfold zp
 have h1:Do l=J (l.all cC):=L9 (f:=CX) λx _=>by
  unfold CX;rw[UJ];rfl
 rw[h1,aR,Sh];rfl
def NP(l:List Int):AE l=J (if eO l=Z then(l,Z)else([],aa)):=by
 unfold AE;rw[Hm];cases eO l<;>rfl
def zrI{p:bZ}(h1:p.aC.length<=1048576)(h2:p.aV.length<=1048576)(h3:p.aE.length<=1048576):Kj p=J (if eO (iB p)=Z then(iB p,Z)else([],aa)):=by
 have e:[db p.aC,db p.aV,db p.aE].flatten=iB p:=by simp[iB]
 unfold Kj;rw[HY (by omega),aR,HY (by omega),aR,HY (by omega),aR,Fk _ (by rw[e];simp[iB,db];omega),aR,e,NP];cases eO (iB p)<;>rfl
def zDf{β γ:Type}{n:Nat}{f:Nat->β}{body:Int->List β->Option (fg (List β) γ)}{stop:List β->γ}(hs:∀k (s:List β),k<n->s.length=k->body (k:Int) s=J (.go (s++[f k]))):
 aS body stop n 0 []=J (stop ((List.range n).map f)):=by
 refine bE (d9 (λk s=>s=(List.range k).map f) rfl ?_ ?_)
 ·rintro k s hk rfl;refine⟨_,hs k _ hk (by simp),?_⟩;show _=_;rw[mN,l8];rfl
 rintro s rfl;rfl
def zE2{α:Type}(f:α->Int)(L:List α)(T:Nat):List α:=(List.range T).flatMap λi=>L.filter λe=>f e==((i+1:Nat):Int)
def Mn(k:ao gr)(ha:0<=a):av gr gr.G a=((gr.G.toNat^a.toNat%gr.P.toNat:Nat):Int):=by
 have hq:=k.q;obtain⟨n,rfl⟩:=fJ ha;obtain⟨q,hQ⟩:=fJ (show 0<=gr.Q by omega);unfold av;have ho:=k.o;rw[hQ]at ho⊢;rw[dG]at ho;rw[<-o6,dG,dG,Hi ho]
def zy3(k:ao gr)(ha:0<=a)(hb:0<=b):aP gr [av gr gr.G a,av gr gr.G b]=av gr gr.G (a+b):=by
 have hp:=k.p;obtain⟨P,hP⟩:=fJ (show 0<=gr.P by omega);have hx:=AK k gr.G a;rw[HF k (by omega) (AK k gr.G b).1,Mn k ha,Mn k hb,Mn k (by omega),hP];rw[<-C8,<-o6,dG,<-t6,<-OG,Int.toNat_add ha hb]
def zxY(k:ao gr):av gr gr.G 0=1:=by
 have hp:=k.p;rw[Mn k (A1 0)];show((1%gr.P.toNat:Nat):Int)=1;rw[nT (by omega)];rfl
def Yz(x:Int)(h:a%gr.Q=b%gr.Q):av gr x a=av gr x b:=by
 unfold av;rw[h]
def zBn :JT l l=J Z:=by
 unfold JT;refine bE (bt (by simp) (ay (ψ:=λv=>v=.inl ()) (d9 (λ_ _=>True) trivial ?_ λs _=>rfl) ?_))
 ·rintro k s hk _;exact bD hk (bD hk (bt (by simp) (aj trivial)))
 rintro _ rfl;exact aj rfl
structure Gb (gr:am):Prop where
 p:1<=gr.P/\gr.P<=2000000000
 q:1<=gr.Q/\gr.Q<=2000000000
 g:0<=gr.G/\gr.G<=2000000000
def Nn(p:bZ):Prop:=p.aC.length<=1001/\p.aV.length<=1001/\p.aE.length<=1001
def VE{p:bZ}(hb:Bt code)(h:Cu code n (c0,at_,dC))(hn:n<=3000000000000000)(k:Gw gr)(hp:p.aC.length<=1000/\p.aV.length<=1000/\p.aE.length<=1000):
 Rn (Ds c0 at_ dC gr p) (λz=>Nn z.1/\Cu code (n+12) z.2):=by
 unfold Ds;rw[K1 (l:=p.aC) (by omega),K1 (l:=p.aV) (by omega),K1 (l:=p.aE) (by omega)];simp only[aR];refine ay (jU hb h (by omega)) λz1 ⟨_,_,_,_,y1⟩=>?_
 have sp:Nn p:=⟨by omega,by omega,by omega⟩
 have pk:∀l:List Int,0<l.length->Rn (gM z1.2.1 z1.2.2.1 z1.2.2.2 (l.length:Int)) (λz=>(∃i:Nat,z.1=(i:Int)/\i<l.length)/\Cu code (n+4) z.2):=λl hl=>by
  obtain⟨v,v1,w0,w1,w2,_,w3⟩:=jU (m:=(l.length:Int)) hb y1 (by omega);obtain⟨i,hi⟩:=fJ w0;refine⟨v,v1,⟨i,hi,?_⟩,w3.mono (by omega)⟩;rcases Int.lt_or_le 1 (l.length:Int)with g|g
  ·have:=w2 g;omega
  ·have:=w1 g;omega
 refine ay (ψ:=λx=>match x with| .inl v=>Nn ⟨v.2.1,v.2.2.1,v.2.2.2⟩/\Cu code (n+12) v.1| .inr v=>Nn v.1/\Cu code (n+12) v.2) ?_ ?_
 ·refine aZ (λ_=>aZ (λg=>?_) λ_=>aj ⟨sp,y1.mono (by omega)⟩) λ_=>?_
  ·have g:0<p.aE.length:=by simpa using g
   refine ay (pk _ g) λz2 ⟨⟨i,e,hi⟩,y2⟩=>?_
   refine ay (zrs hb y2 (by omega) k) λz3 ⟨_,_,y3⟩=>?_
   rw[e];exact bD hi (aj ⟨⟨by show p.aC.length<=1001;omega,by show p.aV.length<=1001;omega,by show(p.aE.set _ _).length<=1001;simp;omega⟩,y3.mono (by omega)⟩)
  refine aZ (λ_=>aZ (λg=>?_) λ_=>aj ⟨sp,y1.mono (by omega)⟩) λ_=>?_
  ·have g:0<p.aC.length:=by simpa using g
   refine ay (pk _ g) λz2 ⟨⟨i,e,hi⟩,y2⟩=>?_
   refine ay (H9 hb y2 (by omega) k) λz3 ⟨_,_,y3⟩=>?_
   rw[e];exact bD hi (aj ⟨⟨by show(p.aC.set _ _).length<=1001;simp;omega,by show p.aV.length<=1001;omega,by show p.aE.length<=1001;omega⟩,y3.mono (by omega)⟩)
  refine aZ (λ_=>aZ (λg=>?_) λ_=>aj ⟨sp,y1.mono (by omega)⟩) λ_=>?_
  ·have g:0<p.aV.length:=by simpa using g
   refine ay (pk _ g) λz2 ⟨⟨i,e,hi⟩,y2⟩=>?_
   refine ay (zrs hb y2 (by omega) k) λz3 ⟨_,_,y3⟩=>?_
   rw[e];exact bD hi (aj ⟨⟨by show p.aC.length<=1001;omega,by show(p.aV.set _ _).length<=1001;simp;omega,by show p.aE.length<=1001;omega⟩,y3.mono (by omega)⟩)
  refine aZ (λ_=>aG (by omega) (aj ⟨⟨by show p.aC.length<=1001;omega,by show p.aV.length<=1001;omega,by show(p.aE++[0]).length<=1001;simp;omega⟩,y1.mono (by omega)⟩)) λ_=>?_
  exact aZ (λ_=>aj ⟨⟨by simp,by simp,by simp⟩,y1.mono (by omega)⟩) λ_=>aj ⟨sp,y1.mono (by omega)⟩
 intro x hx;cases x with
 |inl v=>exact aj hx
 |inr v=>exact aj hx
def Gb.w(k:Gb gr):Gw gr:=by
 have a:=k.p;have b:=k.q;have c:=k.g;exact⟨by omega,by omega,by omega⟩
theorem zxX:∀{l v:List Int},l.Nodup->(∀x∈l,x∈v)->l.length<=v.length
 |[],v,_,_=>by simp
 |x::l,v,hn,hs=>by
  obtain⟨h1,h2⟩:=Uv.1 hn;have hx:=hs x (by simp);have:=zxX (l:=l) (v:=v.erase x) h2 λy hy=>(Acj (show y≠x from λe=>h1 (e▸hy))).2 (hs y (nU _ hy))
  rw[Ack hx]at this;have:=List.length_pos_of_mem hx;rw[dX];omega
def XI :dq gr x=Z↔0<=x/\x<gr.Q:=by
 unfold dq;simp only[bI,eC];omega
def FG(k:ao gr)(h:∀x∈l,aK gr x=Z):∀x∈l,0<=x/\x<=2000000000:=zAO k (bm.2 h)
def lT(k:ao gr)(v:Int):eQ gr v=J (v%gr.Q):=by
 have hp:=k.p;have hq:=k.q;unfold eQ;rw[Rf (by omega) (by omega)];rfl
def bS{α:Type}{l:List α}{d:α}{i:Nat}(h:i<l.length):l.getD i d=l[i]:=by
 rw[nv,cE h];rfl
def zy7{m:Nat}(hb:Bt code)(h:Cu code n (c0,at_,dC))(hn:n<=8000000000000000)(hm:1<=m):Rn (gM c0 at_ dC (m:Int)) (λz=>(∃i:Nat,z.1=(i:Int)/\i<m)/\Cu code (n+2) z.2):=by
 obtain⟨z,h1,h2,h3,h4,_,h5⟩:=jU (m:=(m:Int)) hb h hn;obtain⟨i,hi⟩:=fJ h2;refine⟨z,h1,⟨i,hi,?_⟩,h5⟩;rcases dK 1 m with h6|h6
 ·have:=h4 (by omega);omega
 have:=h3 (by omega);omega
def lp(k:Nat)(p:bZ):Prop:=p.aC.length<=k/\p.aV.length<=k/\p.aE.length<=k
def R9(x:Int):Prop:=0<=x/\x<=2000000000
def dV(k:ao gr)(h:aK gr x=Z):R9 x:=by
 have:=qZ h;have:=k.p;exact⟨by omega,by omega⟩
def bJ(k:ao gr)(x e:Int):R9 (av gr x e):=by
 have:=AK k x e;have:=k.p;exact⟨by omega,by omega⟩
def QB(hx:R9 x)(hy:R9 y):∀z∈[x,y],0<=z/\z<=2000000000:=by
 intro z hz;simp only[fK,jf,jg]at hz;rcases hz with rfl|rfl
 ·exact hx
 exact hy
def Fy(k:ao gr)(h:∀x∈l,0<=x/\x<=2000000000):R9 (aP gr l):=by
 have:=zBT k h;have:=k.p;exact⟨by omega,by omega⟩
def nO(k:ao gr)(hx:R9 x)(hy:R9 y):R9 (aP gr [x,y]):=Fy k (QB hx hy)
def Wh(h:∀x∈l,R9 x):l.all cC=Z:=bm.2 λx hx=>jr.2 ⟨(h x hx).1,by have:=(h x hx).2;omega⟩
def jT(k:ao gr)(hx:R9 x)(hy:R9 y):en gr [x,y]=J (aP gr [x,y]):=Ap k (QB hx hy)
def iC(k:ao gr)(hx:R9 x)(hy:R9 y):eg gr [x,y]=J (aP gr [x,y]):=HH k (QB hx hy)
def fh(k:ao gr)(hx:R9 x)(e:Int):cQ gr x e=J (av gr x e):=(DM k hx.1 hx.2 e).1
def fb(k:ao gr)(hx:R9 x)(e:Int):cD gr x e=J (av gr x e):=(DM k hx.1 hx.2 e).2
def fG(k:ao gr):R9 gr.G:=dV k (nH k)
def Mw(k:ao gr){n:Nat}(h0:n<gr.P.toNat)(h:n^gr.Q.toNat%gr.P.toNat=1):aK gr (n:Int)=Z:=by
 have hp:=k.p;have hq:=k.q
 have h1:1<=n:=by
  rcases Uc n with h2|h2
  ·rw[h2,Nat.zero_pow (by omega),Nat.zero_mod]at h;omega
  ·exact h2
 simp only[aK,bI,eC];exact⟨⟨by omega,by omega⟩,by rw[dG];exact h⟩
def kx(k:ao gr)(hx:aK gr x=Z)(e:Int):aK gr (av gr x e)=Z:=by
 have hp:=k.p;refine Mw k (mM _ (by omega)) ?_;rw[<-qd,<-o7,wb,o7,qd,(DS hx).2.2,GB,nT (by omega)]
def qk(k:ao gr)(hx:aK gr x=Z)(hy:aK gr y=Z):aK gr (aP gr [x,y])=Z:=by
 have hp:=k.p;have bx:=qZ hx;have by':=qZ hy;rw[HF k ⟨by omega,by omega⟩ (by omega)];obtain⟨a,rfl⟩:=fJ (show 0<=x by omega);obtain⟨b,rfl⟩:=fJ (show 0<=y by omega);obtain⟨p,hP⟩:=fJ (show 0<=gr.P by omega);have h1:=(DS hx).2.2;have h2:=(DS hy).2.2;rw[dG]at h1 h2;have e:((a:Int)*(b:Int))%gr.P=((a*b%gr.P.toNat:Nat):Int):=by rw[hP,dG,o6,C8]
 rw[e];refine Mw k (mM _ (by omega)) ?_;rw[<-qd,Nat.mul_pow,t6,h1,h2,nT (by omega)]
def SO(k:ao gr):aK gr 1=Z:=by
 have hp:=k.p;exact Mw (n:=1) k (by omega) (by rw[GB,nT (by omega)])
def WJ{p:Int}(h:a%p=b%p):(a-b)%p=0:=by rw[sH,h,Int.sub_self,Int.zero_emod]
def oB(l:List Int):Int:=l.foldr (· * ·) 1
def zzS(h:l.Perm m):oB l=oB m:=by
 induction h with
 |nil=>rfl
 |cons x _ ih=>show x*oB _=x*oB _;rw[ih]
 |swap x y l=>show y*(x*oB l)=x*(y*oB l);rw[<-KF,<-KF,AaH y x]
 |trans _ _ h1 h2=>rw[h1,h2]
theorem zvo:∀{l m:List Int},l.Nodup->(∀x∈l,x∈m)->m.length<=l.length->l.Perm m
 |[],m,_,_,h=>by rw[Ug.1 (show m.length=0 by simpa using h)]
 |x::l,m,hn,hs,h=>by
  obtain⟨h1,h2⟩:=Uv.1 hn;have hx:=hs x (by simp);have hl:(m.erase x).length=m.length-1:=Ack hx
  have:=zvo (l:=l) (m:=m.erase x) h2 (λy hy=>by
   have H3:=hs y (nU _ hy)
   exact(Acj (λe=>h1 (by rw[<-e];exact hy))).2 H3) (by rw[dX]at h;omega)
  exact(this.cons x).trans (List.perm_cons_erase hx).symm
theorem WD{p a:Int}:∀l:List Int,oB (l.map λi=>(a*i)%p)%p=(a^l.length*oB l)%p
 |[]=>by simp[oB]
 |x::l=>by
  have ih:=WD (p:=p) (a:=a) l;show((a*x)%p*oB (l.map λi=>(a*i)%p))%p=(a^(l.length+1)*(x*oB l))%p;rw[mO,eM,ih,<-mO];congr 1;rw[AaE];grind
theorem YS{p:Nat}(hp:Pr p)(h2:2<=p):∀{l:List Int},(∀x∈l,x%(p:Int)≠0)->oB l%(p:Int)≠0
 |[],_=>by show(1:Int)%(p:Int)≠0;rw[qe (by omega) (by omega)];omega
 |x::l,h=>λe=>by
  rcases DA hp (a:=x) (b:=oB l) e with e|e
  ·exact h x (by simp) e
  ·exact YS hp h2 (λy hy=>h y (nU _ hy)) e
def zCv(hp:Pr p)(h2:2<=p){a:Nat}(ha:1<=a)(hap:a<p):a^(p-1)%p=1:=by
 let L:List Int:=(List.range (p-1)).map λ(i:Nat)=>(i:Int)+1
 have hL:∀x,x∈L↔1<=x/\x<=(p:Int)-1:=by
  intro x;simp only[L,jE,kp];constructor
  ·rintro⟨i,hi,rfl⟩;omega
  ·rintro⟨h1,h2⟩;exact⟨(x-1).toNat,by omega,by omega⟩
 have hN:L.Nodup:=List.Pairwise.map _ (λa b (h:a≠b)=>by omega) List.nodup_range
 have inj:∀x∈L,∀y∈L,((a:Int)*x)%p=((a:Int)*y)%p->x=y:=by
  intro x hx y hy e;have hx:=(hL x).1 hx;have hy:=(hL y).1 hy
  have e2:((a:Int)*(x-y))%(p:Int)=0:=by
   rw[Int.mul_sub];exact WJ e
  rcases DA hp e2 with e3|e3
  ·rw[qe (by omega) (by omega)]at e3;omega
  ·obtain⟨c,hc⟩:=Uw e3
   have:c=0:=by
    rcases Int.lt_trichotomy c 0 with h|h|h
    ·have:(p:Int)*c<=(p:Int)*(-1):=Uz (by omega) (by omega);omega
    ·exact h
    ·have:(p:Int)*1<=(p:Int)*c:=Uz (by omega) (by omega);omega
   rw[this,Int.mul_zero]at hc;omega
 have hM:(L.map λi=>((a:Int)*i)%(p:Int)).Perm L:=by
  refine zvo ?_ ?_ (by simp)
  ·refine Ux.2 (AaF ?_ hN);intro x y hx hy hne e;exact hne (inj x hx y hy e)
  ·intro z hz;obtain⟨x,hx,rfl⟩:=jE.1 hz;refine(hL _).2 ?_;have h1:=nV ((a:Int)*x) (show(p:Int)≠0 by omega);have h3:=sI ((a:Int)*x) (show(0:Int)<p by omega)
   have:((a:Int)*x)%(p:Int)≠0:=λe=>by
    have hx:=(hL x).1 hx;rcases DA hp e with e|e<;>rw[qe (by omega) (by omega)]at e<;>omega
   omega
 have h4:=WD (p:=(p:Int)) (a:=(a:Int)) L;rw[zzS hM]at h4
 have hne:oB L%(p:Int)≠0:=YS hp h2 λx hx=>by
  have hx:=(hL x).1 hx;rw[qe (by omega) (by omega)];omega
 have hlen:L.length=p-1:=by simp[L]
 rw[hlen]at h4
 have e5:(((a:Int)^(p-1)-1)*oB L)%(p:Int)=0:=by
  rw[Int.sub_mul,UA];exact WJ h4.symm
 rcases DA hp e5 with e|e
 ·obtain⟨c,hc⟩:=Uw e
  have e6:(a:Int)^(p-1)%(p:Int)=1:=by
   rw[show(a:Int)^(p-1)=1+(p:Int)*c by omega,GC,qe (by omega) (by omega)]
  have:((a^(p-1)%p:Nat):Int)=1:=by rw[o6,Uy];exact e6
  omega
 exact absurd e hne
def Yh(k:ao gr)(h:qW gr s i y)(h0:0<y):aK gr y=Z:=by
 have hp:=k.p;have hq:=k.q;rcases h with⟨c,_,hy,_,_⟩|⟨hy,_⟩
 ·rw[hy];have hx:=SX k s i c;refine Mw k (mM _ (by omega)) ?_;rw[<-qd,<-o7]
  have e:((gr.P-1)/gr.Q).toNat*gr.Q.toNat=gr.P.toNat-1:=by
   obtain⟨P,hP⟩:=fJ (show 0<=gr.P-1 by omega);obtain⟨Q,hQ⟩:=fJ (show 0<=gr.Q by omega);have hd:=k.d;have hPn:gr.P.toNat-1=P:=by omega
   rw[hPn,hQ,dG]at hd;rw[hP,hQ,hPn,dG,<-Int.natCast_ediv,dG];exact Nat.div_mul_cancel (Ut hd)
  rw[e];exact zCv k.pp (by omega) (by omega) (by omega)
 omega
def zf(gr:am)(key:Int)(c:an)(r:Int):an:=⟨aP gr [c.A,av gr gr.G r],aP gr [c.B,aP gr [1,av gr key r]]⟩
def zDO(k:ao gr)(hk:aK gr key=Z)(hc:b7 gr c=Z)(r:Int):b7 gr (zf gr key c r)=Z:=by
 simp only[b7,bI]at hc⊢;exact⟨qk k hc.1 (kx k (nH k) r),qk k hc.2 (qk k (SO k) (kx k hk r))⟩
def zxA(k:ao gr)(hx:0<=x/\x<gr.P):eg gr [1,x]=J x:=by
 have hp:=k.p;rw[iC k (x:=1) (y:=x) ⟨by omega,by omega⟩ ⟨by omega,by omega⟩,HF k ⟨by omega,by omega⟩ (by omega),UA,qe hx.1 hx.2]
def zGm(k:ao gr)(hk:aK gr key=Z)(hc:b7 gr c=Z)(r:Int):FO gr key c r=J (zf gr key c r):=by
 have oj:=hc;simp only[b7,bI]at oj;unfold FO;rw[(zrv k hk (SO k) r).1,aR];unfold Ok;rw[jT k (dV k oj.1) (bJ k _ _),aR,jT k (dV k oj.2) (nO k ⟨by omega,by omega⟩ (bJ k _ _))];rfl
def zF2(k:ao gr)(hk:aK gr key=Z)(hc:b7 gr c=Z)(r:Int):D1 gr key c r=J (zf gr key c r):=by
 have oj:=hc;simp only[b7,bI]at oj;have hp:=k.p;have b1:=qZ oj.1;have b2:=qZ oj.2;unfold D1;rw[(zrv k hk (SO k) r).2,aR];unfold Ny;simp only[dX,ia,aS];have e0:∀{a b:an},ix [a,b] 0=J a:=λ{a b}=>rfl
 have e1:∀{a b:an},ix [a,b] (0+1)=J b:=λ{a b}=>rfl
 simp only[e0,e1,aR,zxA k (x:=c.A) ⟨by omega,by omega⟩,zxA k (x:=c.B) ⟨by omega,by omega⟩,iC k (dV k oj.1) (bJ k _ _),iC k (dV k oj.2) (nO k (x:=1) ⟨by omega,by omega⟩ (bJ k _ _))];rfl
def uS(k:ao gr)(key:Int)(l:List an):pR gr key l=J (aK gr key&&(cX 1 12 l.length&&l.all (b7 gr))):=by
 unfold pR Jc;rw[J4,NL.2 k,aR,aB rfl,zCt k];simp only[aR];cases aK gr key
 ·rfl
 simp only[aB,rE,aR,gV];show Option.bind (if cX 1 12 l.length=Z then _ else _) _=_;by_cases h:cX 1 12 l.length=Z
 ·rw[aB h,zuP k,h];have h2:l.length<=24:=by simp only[cX,bI,eC]at h;omega
  simp[h2]
 rw[az h];simp only[Bool.not_eq_true]at h;rw[h];rfl
def Gk(k:¬ao gr)(key:Int)(l:List an):pR gr key l=J aa:=by
 unfold pR Jc;rw[J4,oU k,aR,az (by simp)];rfl
def yp(k:ao gr)(l:List an):Ai gr l=J (cX 1 12 l.length&&l.all (b7 gr)):=by
 unfold Ai;rw[tX,aR];show Option.bind (if cX 1 12 l.length=Z then _ else _) _=_;by_cases h:cX 1 12 l.length=Z
 ·rw[aB h,zsV k,h];have h2:l.length<=24:=by simp only[cX,bI,eC]at h;omega
  simp[h2]
 rw[az h];simp only[Bool.not_eq_true]at h;rw[h];rfl
noncomputable def d5(l:List Int):Bool:=l.all (cX 0 ((l.length:Int)-1))&&oH l
def P4(l:List Int)(m:Nat)(hm:m<=1000):EW l (m:Int)=J (decide (l.length=m)&&d5 l):=by
 unfold EW;by_cases h:l.length=m
 ·subst h;rw[aI (n:=(l.length:Int)-1) (by omega) (by omega),Pa,zyf l (by omega)];simp only[AaI,eP,aR,decide_true,gV];show Option.bind (if l.all (cX 0 ((l.length:Int)-1))=Z then _ else _) _=_;unfold d5;cases l.all (cX 0 ((l.length:Int)-1))<;>rfl
 have h2:((l.length:Int)==(m:Int))=aa:=by simp;omega
 simp[h2,h]
def zzU(l:List Int):I7 l=J (decide (l.length<=24)&&d5 l):=by
 unfold I7;by_cases h:l.length<=24
 ·have h2:decide ((l.length:Int)<=24)=Z:=by simp;omega
  rw[h2,aB rfl]
  have e:IC l l=J (l.all (cX 0 ((l.length:Int)-1))):=by
   unfold IC KP MP;refine L9 (p:=cX 0 ((l.length:Int)-1)) (f:=λx=>Ir x l) λx _=>?_
   unfold Ir KU;rw[aI (n:=(l.length:Int)-1) (by omega) (by omega),tX];rfl
  rw[e,Z2 l (by omega)];unfold d5;cases l.all (cX 0 ((l.length:Int)-1))<;>simp[h]
 have h2:decide ((l.length:Int)<=24)=aa:=by simp;omega
 simp[h2,h]
def zL(k:ao gr){n:Nat}(hn:n<=24)(perm rs:List Int):CJ gr perm rs (n:Int)=J (decide (perm.length=n)&&d5 perm&&(decide (rs.length=n)&&rs.all (dq gr))):=by
 have hq:=k.q;have hp:=k.p;unfold CJ;rw[zzU,w9 (by omega) (by omega)];have e1:((perm.length:Int)==(n:Int))=decide (perm.length=n):=by by_cases h:perm.length=n<;>simp[h];omega
 have e2:((rs.length:Int)==(n:Int))=decide (rs.length=n):=by by_cases h:rs.length=n<;>simp[h];omega
 rw[e1,e2];by_cases h1:perm.length=n
 ·have RW:decide (perm.length<=24)=Z:=by simp;omega
  rw[RW];simp only[h1,decide_true,gV];cases d5 perm<;>by_cases h3:rs.length=n<;>simp[h3]
 simp only[h1,decide_false,Aaq];cases (decide (perm.length<=24)&&d5 perm)<;>simp
def PA(h:d5 l=Z){j:Int}(hj:0<=j/\j<l.length):j∈l:=by
 simp only[d5,bI,oH,eC,bm,cX]at h;refine OH λhn=>?_
 have:=zxX (l:=j::l) (v:=(List.range l.length).map λ(i:Nat)=>(i:Int)) (Uv.2 ⟨hn,h.2⟩) (λx hx=>by
  simp only[jE,kp];rcases fK.1 hx with rfl|hx
  ·exact⟨x.toNat,by omega,by omega⟩
  ·have:=h.1 x hx;exact⟨x.toNat,by omega,by omega⟩)
 simp at this;omega
structure m9 (gr:am) (key:Int) (l:List an) (perm rs:List Int):Prop where
 key:aK gr key=Z
 n:1<=l.length/\l.length<=12
 c:∀x∈l,b7 gr x=Z
 pl:perm.length=l.length
 pr:∀x∈perm,0<=x/\x<l.length
 pb:d5 perm=Z
 rl:rs.length=l.length
 re:rs.all (dq gr)=Z
def zHA{l:List an}:((aK gr key&&(cX 1 12 l.length&&l.all (b7 gr)))&&(decide (perm.length=l.length)&&d5 perm&&(decide (rs.length=l.length)&&rs.all (dq gr))))=Z↔m9 gr key l perm rs:=by
 constructor
 ·intro h;simp only[bI,eC,cX]at h;obtain⟨⟨h1,⟨h2,h3⟩,h4⟩,⟨h5,h6⟩,h7,h8⟩:=h;refine⟨h1,by omega,bm.1 h4,h5,λx hx=>?_,h6,h7,h8⟩;simp only[d5,bI]at h6;have:=bm.1 h6.1 x hx;simp only[cX,bI,eC]at this;omega
 intro h;simp only[bI,eC,cX];have:=h.n;exact⟨⟨h.key,⟨by omega,by omega⟩,bm.2 h.c⟩,⟨h.pl,h.pb⟩,h.rl,h.re⟩
def zaR(gr:am)(key:Int)(l:List an)(perm rs:List Int):List an:=(List.range perm.length).map λi=>zf gr key (l.getD (perm.getD i 0).toNat ⟨0,0⟩) (rs.getD i 0)
def WK(k:ao gr){l:List an}(m:m9 gr key l perm rs)(E:an->Int->Option an)(hE:∀c r,b7 gr c=Z->E c r=J (zf gr key c r)):aS (σ:=List an) (λi5 s4=>
 (ix perm i5).bind λaU=>
 (ix l aU).bind λcZ=>
 (ix rs i5).bind λhO=>
 (E cZ hO).bind λeS=>
 gd ((s4.length+1)*16<=140737488355328/\s4.length+1<=4611686018427387904)<|
 J (.go (s4++[eS]))) (λs4=>s4) perm.length 0 []=J (zaR gr key l perm rs):=by
 have hn:=m.n;have dL:=m.pl;have fm:=m.rl;refine zDf (f:=λi=>zf gr key (l.getD (perm.getD i 0).toNat ⟨0,0⟩) (rs.getD i 0)) λi s hi hs=>?_
 have hx:=m.pr _ (e9 hi);obtain⟨j,hj⟩:=fJ hx.1;have rZ:j<l.length:=by omega
 rw[jh hi,aR,hj,jh rZ,aR,jh (show i<rs.length by omega),aR,hE _ _ (m.c _ (e9 rZ)),aR,eK (by omega),bS hi,hj,dG,bS rZ,bS (show i<rs.length by omega)]
def O2(k:ao gr){l:List an}(m:m9 gr key l perm rs):Bd gr key l perm rs=J (zaR gr key l perm rs):=by
 unfold Bd;rw[WK k m (FO gr key) λc r hc=>zGm k m.key hc r];rfl
def P0(k:ao gr){l:List an}(m:m9 gr key l perm rs):CI gr key l perm rs=J (zaR gr key l perm rs):=by
 unfold CI;rw[WK k m (D1 gr key) λc r hc=>zF2 k m.key hc r];rfl
def kK(gr:am)(key:Int)(l:List an)(perm rs:List Int):(zaR gr key l perm rs).length=perm.length:=by simp[zaR]
def t8(k:ao gr){l:List an}(m:m9 gr key l perm rs):∀c∈zaR gr key l perm rs,b7 gr c=Z:=by
 intro c hc;obtain⟨i,hi,rfl⟩:=jE.1 hc;have hi:=kp.1 hi;refine zDO k m.key ?_ _;have hx:=m.pr _ (e9 hi);rw[bS hi,bS (show(perm[i]).toNat<l.length by omega)];exact m.c _ (e9 _)
structure th (gr:am) (n:Nat) (b:ct):Prop where
 h:aK gr b.H=Z
 l:b.Hs.length=n
 s:∀x∈b.Hs,aK gr x=Z
def O5(k:ao gr){n:Nat}(hn:n<=24):∃b t,rY gr (n:Int)=J (b,t)/\kT gr (n:Int)=J (b,t)/\(t=Z->th gr n b):=by
 obtain⟨b,t,h1,h2,h3⟩:=zBc k hn;refine⟨b,t,h1,h2,λht=>?_⟩;obtain⟨c1,c2,c3,c4⟩:=h3 ht;refine⟨Yh k c1 c2,c3.1,λx hx=>?_⟩;obtain⟨j,hj,rfl⟩:=Ou hx;exact Yh k (c3.2 j hj) (c4 _ hx)
def tP(gr:am)(Hs perm ss:List Int)(i:Nat)(s:List Int):List Int:=s.set (perm.getD i 0).toNat (aP gr [av gr gr.G (ss.getD (perm.getD i 0).toNat 0),Hs.getD i 0])
def zez(gr:am)(Hs perm ss:List Int):List Int:=Fc (tP gr Hs perm ss) perm.length (List.replicate perm.length 0)
def ztU(k:ao gr){Hs:List Int}(hp:∀x∈perm,0<=x/\x<perm.length)(hs:ss.length=perm.length)(hH:Hs.length=perm.length)(hb:∀x∈Hs,aK gr x=Z)(P:Int->Int->Option Int)(M:List Int->Option Int)(hP:∀x e,R9 x->P x e=J (av gr x e))(hM:∀x y,R9 x->R9 y->M [x,y]=J (aP gr [x,y])):aS (σ:=(List Int)) (λmj dy=>
 (ix perm mj).bind λfR=>
 (ix ss fR).bind λil=>
 (ix Hs mj).bind λj5=>
 (P gr.G il).bind λeZ=>
 (M [eZ,j5]).bind λgy=>
 (ix dy fR).bind λnY=>
 J (.go (dy.set fR.toNat gy))) (λdy=>dy) perm.length 0 (List.replicate perm.length 0)=J (zez gr Hs perm ss):=by
 refine zDz (tP gr Hs perm ss) (λ_ s=>s.length=perm.length) (by simp) (λi s _ h=>by simp[tP,h]) λi s hi h=>?_
 have hx:=hp _ (e9 hi);obtain⟨j,hj⟩:=fJ hx.1;have rZ:j<perm.length:=by omega
 have hc:=hb _ (e9 (show i<Hs.length by omega));rw[jh hi,aR,hj,jh (show j<ss.length by omega),aR,jh (show i<Hs.length by omega),aR,hP _ _ (fG k),aR,hM _ _ (bJ k _ _) (dV k hc),aR,jh (show j<s.length by omega),aR];unfold tP;rw[bS hi,hj,dG,bS (show j<ss.length by omega),bS (show i<Hs.length by omega)]
def zCn(k:ao gr){b:ct}(hp:∀x∈perm,0<=x/\x<perm.length)(hl:perm.length<=1000)(hs:ss.length=perm.length)(hb:th gr perm.length b):Jx gr b perm ss=J (zez gr b.Hs perm ss):=by
 unfold Jx;rw[eK (by omega),aR,ztU k hp hs hb.l hb.s (cQ gr) (en gr) (λx e hx=>fh k hx e) λx y hx hy=>jT k hx hy];rfl
def zC8(k:ao gr){b:ct}(hp:∀x∈perm,0<=x/\x<perm.length)(hl:perm.length<=1000)(hs:ss.length=perm.length)(hb:th gr perm.length b):IE gr b perm ss=J (zez gr b.Hs perm ss):=by
 unfold IE;rw[eK (by omega),aR,ztU k hp hs hb.l hb.s (cD gr) (eg gr) (λx e hx=>fb k hx e) λx y hx hy=>iC k hx hy];rfl
def zBR(k:ao gr){Hs:List Int}(hp:d5 perm=Z)(hH:Hs.length=perm.length)(hb:∀x∈Hs,aK gr x=Z):(zez gr Hs perm ss).length=perm.length/\∀x∈zez gr Hs perm ss,aK gr x=Z:=by
 have h:=MR (f:=tP gr Hs perm ss) (I:=λm s=>s.length=perm.length/\∀i (hi:i<m) (cF:i<perm.length),aK gr (s.getD (perm[i]).toNat 0)=Z) (s0:=List.replicate perm.length 0) (m:=perm.length) ⟨by simp,λi hi=>by omega⟩ (λm s hm ⟨h1,h2⟩=>by
  refine⟨by simp[tP,h1],λi hi cF=>?_⟩;unfold tP;rw[bS hm];by_cases e:(perm[m]).toNat=(perm[i]).toNat
  ·by_cases hlt:(perm[i]).toNat<s.length
   ·rw[e,nv,Acl hlt,v8];refine qk k (kx k (nH k) _) ?_;rw[bS (show m<Hs.length by omega)];exact hb _ (e9 _)
   ·have hx:=bm.1 (bI _ _▸hp:perm.all _=Z/\oH perm=Z).1 _ (e9 cF);simp only[cX,bI,eC]at hx;omega
  ·rw[nv,Acm e,<-nv];rcases dK i m with h|h
   ·exact h2 i h cF
   ·have:i=m:=by omega
    subst this;exact absurd rfl e) perm.length (cy _)
 refine⟨h.1,λx hx=>?_⟩;obtain⟨j,hj,rfl⟩:=Ou hx;have Ez:j<(zez gr Hs perm ss).length:=hj;have hl:(zez gr Hs perm ss).length=perm.length:=h.1;have hm:=PA hp (j:=(j:Int)) ⟨by omega,by omega⟩;obtain⟨i,hi,he⟩:=Ou hm;have:=h.2 i hi hi;rw[he,dG]at this;have e:(Fc (tP gr Hs perm ss) perm.length (List.replicate perm.length 0)).getD j 0=(zez gr Hs perm ss)[j]:=bS Ez
 rwa [e]at this
def hN(gr:am)(h:Int)(es ts:List Int):Nat->Int
 |0=>h
 |i+1=>aP gr [av gr gr.G (ts.getD i 0),av gr (hN gr h es ts i) (es.getD i 0)]
theorem Mh(k:ao gr)(hh:R9 h)(es ts:List Int):∀i,R9 (hN gr h es ts i)
 |0=>hh
 |i+1=>nO k (bJ k _ _) (bJ k _ _)
theorem Rh{gr:am}(k:ao gr){h:Int}(hh:aK gr h=Z)(es ts:List Int):∀i,aK gr (hN gr h es ts i)=Z
 |0=>hh
 |i+1=>qk k (kx k (nH k) _) (kx k (Rh k hh es ts i) _)
def zcp(gr:am)(h:Int)(es ts:List Int):List Int:=(List.range es.length).map λi=>hN gr h es ts (i+1)
def zDH(k:ao gr)(hh:R9 h){es ts:List Int}(hl:es.length<=1000)(ht:ts.length=es.length):Hg gr h es ts=J (zcp gr h es ts):=by
 unfold Hg;refine bE (ay (ψ:=(· =zcp gr h es ts)) (d9 (λi s=>s=(hN gr h es ts i,(List.range i).map λi=>hN gr h es ts (i+1))) rfl ?_ ?_) λx hx=>aj hx)
 ·rintro i s hi rfl;refine bD hi (bD (show i<ts.length by omega) (ag (fh k (fG k) _) (ag (fh k (Mh k hh es ts i) _) (ag (jT k (bJ k _ _) (bJ k _ _)) (aG (by simp;omega) (aj ?_))))));show _=_;rw[mN,l8];simp only[jD,p8,hN,bS hi,bS (show i<ts.length by omega)]
 rintro s rfl;rfl
def zDv(k:ao gr){b:ct}(hh:R9 b.H){es ts:List Int}(hl:es.length<=1000)(ht:ts.length=es.length):Ki gr b es ts=J (zcp gr b.H es ts):=by
 unfold Ki;refine bE (ay (ψ:=(· =zcp gr b.H es ts)) (d9 (λi s=>s=((List.range i).map λi=>hN gr b.H es ts (i+1),hN gr b.H es ts i)) rfl ?_ ?_) λx hx=>aj hx)
 ·rintro i s hi rfl;refine bD hi (bD (show i<ts.length by omega) (ag (fb k (fG k) _) (ag (fb k (Mh k hh es ts i) _) (ag (iC k (bJ k _ _) (bJ k _ _)) (aG (by simp;omega) (aj ?_))))));show _=_;rw[mN,l8];simp only[jD,p8,hN,bS hi,bS (show i<ts.length by omega)]
 rintro s rfl;rfl
def oA(l:List an):List Int:=l.flatMap λc=>[c.A,c.B]
def zdT(key:Int)(l out:List an)(m:List Int):List Int:=key::(oA l++(oA out++m))
def Ho(l:List an):(oA l).length=2*l.length:=by
 induction l with
 |nil=>rfl
 |cons c l ih=>show([c.A,c.B]++oA l).length=_;simp[ih];omega
def zBZ(l:List an)(c:an):oA (l++[c])=oA l++[c.A,c.B]:=by simp[oA]
def zC2(l m:List an):oA (l++m)=oA l++oA m:=by simp[oA]
def QV{l:List an}(h0:List Int)(hl:l.length<=100000)(hh:h0.length<=1000000):aS (σ:=List Int) (λi5 s4=>
 (ix l i5).bind λaU=>
 gd ((s4.length+2)*8<=140737488355328/\s4.length+2<=4611686018427387904)<|
 J (.go (s4++[aU.A,aU.B]))) (λs4=>s4) l.length 0 h0=J (h0++oA l):=by
 refine bE (d9 (λi s=>s=h0++oA (l.take i)) (by simp[oA]) ?_ ?_)
 ·rintro i s hi rfl;refine bD hi (aG ?_ (aj ?_))
  ·rw[bP,Ho,nu];omega
  show _=_;rw[iO hi,zBZ,gU]
 rintro s rfl;rw[f6]
def Dp{l:List an}(h1:l.length<=1000)(h2:out.length<=1000)(h3:m.length<=1000000):qG key l out m=J (zdT key l out m):=by
 unfold qG Mi;rw[eK (by omega),aR,eK (by omega),aR,QV [key] (by simp;omega) (by simp),aR,eK (by simp[Ho];omega)];simp[zdT,zC2]
def Aa{l:List an}(h1:l.length<=1000)(h2:out.length<=1000)(h3:m.length<=1000000):rP key l out m=J (zdT key l out m):=by
 unfold rP;rw[QV [key] (by omega) (by simp),aR,QV _ (by omega) (by simp[Ho];omega),aR,eK (by simp[Ho];omega)];simp[zdT]
def Gg{l:List an}:(zdT key l out m).length=1+2*l.length+2*out.length+m.length:=by
 simp[zdT,Ho];omega
def DX(k:ao gr)(hk:aK gr key=Z){l:List an}(h1:∀c∈l,b7 gr c=Z)(h2:∀c∈out,b7 gr c=Z)(h3:m.all cC=Z):(zdT key l out m).all cC=Z:=by
 have A:∀l:List an,(∀c∈l,b7 gr c=Z)->(oA l).all cC=Z:=λl h=>by
  refine oa k (bm.2 λx hx=>?_);obtain⟨c,hc,hx⟩:=Aao.1 hx;have:=h c hc;simp only[b7,bI]at this;simp only[fK,jf,jg]at hx;rcases hx with rfl|rfl
  ·exact this.1
  ·exact this.2
 have hd:cC key=Z:=by have:=oa k (l:=[key]) (by simp[hk]);simpa using this
 simp only[zdT,yB,kq,hd,A l h1,A out h2,h3,Ud]
abbrev Kp:ByteArray:=⟨#[109,105,120,32,99,111,108,117,109,110,115]⟩
abbrev C1:ByteArray:=⟨#[109,105,120,32,112,114,111,111,102]⟩
def ziB(gr:am)(s:ByteArray)(l:List Int)(n:Nat):List Int:=(List.range n).map λ(i:Nat)=>chG gr s (l++[(i:Int)])
def zt3(hd:l.all cC=Z){i:Nat}(hi:i<=1000000):(l++[(i:Int)]).all cC=Z:=by
 have:cC (i:Int)=Z:=jr.2 ⟨by omega,by omega⟩;simp[hd,this]
def U9(k:ao gr)(hs:s.size<=40)(hl:l.length<=300)(hd:l.all cC=Z){n:Nat}(h1:1<=n)(hn:n<=1000):Ak gr s l (n:Int)=J (ziB gr s l n,Z):=by
 unfold Ak;rw[az (show¬((n:Int)<1)by omega)];refine bE (ay (ψ:=(· =.inl (ziB gr s l n))) (kv n (λi t=>t=((List.range i).map λ(i:Nat)=>chG gr s (l++[(i:Int)]),(i:Int))) rfl ?_ ?_) ?_)
 ·rintro i t hi rfl;refine fY (by simp;omega) (ag (a:=l) ?_ (aG (by omega) (ag (LV k s (by simp;omega)) ?_)))
  ·unfold uh;rw[eK (by omega)]
  rw[aB (MA k hs (by simp;omega) (zt3 hd (by omega)))];refine bt rfl (aG (by simp;omega) (aj ?_));show _=_;rw[mN,l8,aI (by omega) (by omega)];rfl
 ·rintro t rfl;exact bt (by simp) (aj rfl)
 rintro t rfl;refine aG (by omega) (aG (by simp[ziB]) (aj ?_));rw[dG,KA (by simp[ziB])]
def Ys(k:ao gr)(hs:s.size<=40)(hl:l.length<=300)(hd:l.all cC=Z){n:Nat}(hn:n<=1000):DF gr s l (n:Int)=J (ziB gr s l n):=by
 unfold DF;refine bE (ay (ψ:=(· =ziB gr s l n)) (kv n (λi t=>t=((List.range i).map λ(i:Nat)=>chG gr s (l++[(i:Int)]),(i:Int))) rfl ?_ ?_) λx hx=>aj hx)
 ·rintro i t hi rfl;refine fY (by simp;omega) (ag (K1 (by omega)) (aG (by omega) (ag (Mj k (by omega) (by simp;omega) (zt3 hd (by omega))) (aG (by simp;omega) (aj ?_)))));show _=_;rw[mN,l8,aI (by omega) (by omega)];rfl
 rintro t rfl;exact bt (by simp) (aj rfl)
def zxl(k:ao gr)(s:ByteArray)(l:List Int)(n:Nat):(ziB gr s l n).length=n/\∀x∈ziB gr s l n,0<=x/\x<gr.Q:=by
 refine⟨by simp[ziB],λx hx=>?_⟩;obtain⟨i,_,rfl⟩:=jE.1 hx;exact mG k s _
def E9(q x:Int):Prop:=0<=x/\x<q
def As(h:l.all (dq gr)=Z):∀x∈l,E9 gr.Q x:=λx hx=>XI.1 (bm.1 h x hx)
def iF{z t:Int}(hq:q<=2000000000)(ha:E9 q a)(hz:E9 q z)(ht:E9 q t):i64.wrap (a+i64.wrap (z*t))=a+z*t/\(i64.wrap (a+i64.wrap (z*t))).tmod q=(a+z*t)%q:=by
 obtain⟨a1,a2⟩:=ha;obtain⟨z1,z2⟩:=hz;obtain⟨t1,t2⟩:=ht;have h1:0<=z*t:=sJ z1 t1;have h2:z*t<=2000000000*2000000000:=wg (by omega) (by omega) t1 (by omega);rw[aI (n:=z*t) (by omega) (by omega),aI (n:=a+z*t) (by omega) (by omega)];exact⟨rfl,je (by omega)⟩
def f9(hq:0<q)(x:Int):E9 q (x%q):=⟨nV _ (by omega),sI _ hq⟩
def dtN(q:Int)(l m:List Int):Nat->Int
 |0=>0
 |i+1=>(dtN q l m i+l.getD i 0*m.getD i 0)%q
theorem AA(hq:0<q)(l m:List Int):∀i,E9 q (dtN q l m i)
 |0=>⟨by show(0:Int)<=0;omega,hq⟩
 |i+1=>f9 hq _
def iK{α:Type}{l:List α}{P:α->Prop}(h:∀x∈l,P x){i:Nat}(hi:i<l.length):P l[i]:=h _ (e9 hi)
def OL(hq:0<q/\q<=2000000000)(hl:∀x∈l,E9 q x)(hm:∀x∈m,E9 q x)(hn:m.length=l.length):uA l m q=J (dtN q l m l.length):=by
 unfold uA;refine bE (ay (ψ:=(· =dtN q l m l.length)) (d9 (λi s=>s=dtN q l m i) rfl ?_ λs h=>h) λx hx=>aj hx);rintro i s hi rfl;have ha:=AA hq.1 l m i;have h1:=iK hl hi;have h2:=iK hm (show i<m.length by omega);refine bD hi (bD (show i<m.length by omega) (aG (by omega) (aG (by omega) (aj ?_))));show _=(dtN q l m i+l.getD i 0*m.getD i 0)%q;rw[bS hi,bS (show i<m.length by omega)];have e:=iF hq.2 ⟨A1 0,hq.1⟩ h1 h2;rw[KB,KB]at e
 have e2:i64.wrap (l[i]*m[i])=l[i]*m[i]:=by
  have h3:0<=l[i]*m[i]:=sJ h1.1 h2.1;have h4:l[i]*m[i]<=2000000000*2000000000:=wg (by have:=h1.2;omega) (by have:=h2.2;omega) h2.1 (by omega);exact aI (by omega) (by omega)
 rw[e2,je (sJ h1.1 h2.1)];have h5:=f9 hq.1 (l[i]*m[i]);rw[aI (by have:=ha.1;have:=h5.1;omega) (by have:=ha.2;have:=h5.2;omega),je (by have:=ha.1;have:=h5.1;omega)];rw[o8,eM,<-o8]
def Rq(hq:0<q/\q<=2000000000)(hl:∀x∈l,E9 q x)(hm:∀x∈m,E9 q x)(hn:m.length=l.length):u9 l m q=J (dtN q l m l.length):=by
 unfold u9;refine bE (ay (ψ:=(· =dtN q l m l.length)) (d9 (λi s=>s=dtN q l m i) rfl ?_ λs h=>h) λx hx=>aj hx);rintro i s hi rfl;refine bD hi (bD (show i<m.length by omega) (aG (by omega) (aj ?_)));show _=(dtN q l m i+l.getD i 0*m.getD i 0)%q;rw[bS hi,bS (show i<m.length by omega)];exact(iF hq.2 (AA hq.1 l m i) (iK hl hi) (iK hm (show i<m.length by omega))).2
def smN(q:Int)(l:List Int):Nat->Int
 |0=>0
 |i+1=>(smN q l i+l.getD i 0)%q
theorem NE(hq:0<q)(l:List Int):∀i,E9 q (smN q l i)
 |0=>⟨by show(0:Int)<=0;omega,hq⟩
 |i+1=>f9 hq _
def Ye(hq:0<q/\q<=2000000000)(hl:∀x∈l,E9 q x):Dv l q=J (smN q l l.length)/\E8 l q=J (smN q l l.length):=by
 refine⟨?_,?_⟩
 ·unfold Dv;refine bE (ay (ψ:=(· =smN q l l.length)) (d9 (λi s=>s=smN q l i) rfl ?_ λs h=>h) λx hx=>aj hx);rintro i s hi rfl;have ha:=NE hq.1 l i;have h1:=iK hl hi;refine bD hi (aG (by omega) (aj ?_));show _=(smN q l i+l.getD i 0)%q;rw[bS hi,aI (by have:=ha.1;have:=h1.1;omega) (by have:=ha.2;have:=h1.2;omega),je (by have:=ha.1;have:=h1.1;omega)]
 unfold E8;refine bE (ay (ψ:=(· =smN q l l.length)) (d9 (λi s=>s=smN q l i) rfl ?_ λs h=>h) λx hx=>aj hx);rintro i s hi rfl;have ha:=NE hq.1 l i;have h1:=iK hl hi;refine bD hi (aG (by omega) (aj ?_));show _=(smN q l i+l.getD i 0)%q;rw[bS hi,aI (by have:=ha.1;have:=h1.1;omega) (by have:=ha.2;have:=h1.2;omega),je (by have:=ha.1;have:=h1.1;omega)]
def yN(q:Int)(own t:List Int):Nat->Int
 |0=>0
 |i+1=>(t.getD i 0+own.getD i 0*yN q own t i)%q
theorem Lu(hq:0<q)(own t:List Int):∀i,E9 q (yN q own t i)
 |0=>⟨by show(0:Int)<=0;omega,hq⟩
 |i+1=>f9 hq _
def pX(e perm:List Int):List Int:=perm.map λj=>e.getD j.toNat 0
def zLT{e:List Int}(hp:∀x∈perm,0<=x/\x<e.length)(hl:perm.length<=1000):Ey e perm=J (pX e perm):=by
 unfold Ey;rw[zCT (l:=perm) (f:=λj=>e.getD j.toNat 0) []]
 ·rw[mL];rfl
 intro i hi s hs;have hx:=iK hp hi;obtain⟨j,hj⟩:=fJ hx.1;rw[jh hi,aR,hj,jh (show j<e.length by omega),aR,eK (by simp at hs;omega),dG,bS (show j<e.length by omega)]
def sdV(l:List an):List Int×List Int:=(l.map (·.A),l.map (·.B))
def rU{l:List an}(hl:l.length<=1000):v4 l=J (sdV l)/\uw l=J (sdV l):=by
 have h:aS (σ:=(List Int)×List Int) (λi5 s4=>
  (ix l i5).bind λaU=>
  gd ((s4.1.length+1)*8<=140737488355328/\s4.1.length+1<=4611686018427387904)<|
  gd ((s4.2.length+1)*8<=140737488355328/\s4.2.length+1<=4611686018427387904)<|
  J (.go (s4.1++[aU.A],s4.2++[aU.B]))) (λs4=>(s4.1,s4.2)) (l.length) 0 ([],[])=J (sdV l):=by
  refine bE (d9 (λi s=>s=sdV (l.take i)) rfl ?_ ?_)
  ·rintro i s hi rfl;refine bD hi (aG (by simp[sdV];omega) (aG (by simp[sdV];omega) (aj ?_)));show _=_;rw[iO hi];simp only[sdV,l8,jD,p8]
  ·rintro s rfl;rw[f6]
 unfold v4 uw;rw[h];exact⟨rfl,rfl⟩
def sA(k:ao gr){l:List an}(h:∀c∈l,b7 gr c=Z):(∀x∈(sdV l).1,0<=x/\x<=2000000000)/\∀x∈(sdV l).2,0<=x/\x<=2000000000:=by
 refine⟨λx hx=>?_,λx hx=>?_⟩<;>obtain⟨c,hc,rfl⟩:=jE.1 hx<;>obtain⟨b1,b2,b3,b4⟩:=zBy k (h c hc)
 ·exact⟨b1,b2⟩
 exact⟨b3,b4⟩
theorem Xm{gr:am}(k:ao gr):∀(l m:List Int) (o:Int),0<=o/\o<gr.P->R9 (zaO gr l m o)
 |[],_,o,h=>by have:=k.p;unfold zaO;exact⟨h.1,by omega⟩
 |_::_,[],o,h=>by have:=k.p;unfold zaO;exact⟨h.1,by omega⟩
 |x::l,e::m,o,h=>by
  have:=k.p;unfold zaO;exact Xm k l m _ ⟨nV _ (by omega),sI _ (by omega)⟩
def fy(k:ao gr)(l m:List Int):R9 (zaO gr l m 1):=Xm k l m 1 (by have:=k.p;exact⟨by omega,by omega⟩)
def mD{a r:List Int}{n:Nat}(h:a.length=n):iT (a++r) (n:Int)=J (a,r):=by
 unfold iT;rw[dG,eK (by omega),eK (by simp;omega),eK (by omega),eK (by simp;omega)];simp[h,KA]
def zBx{a:List Int}{n:Nat}(h:a.length=n):iT a (n:Int)=J (a,[]):=by
 have:=mD (r:=[]) h
 rwa [rc]at this
def yH(x:Int)(r:List Int):sw (x::r)=J (x,r):=by
 unfold sw;have h:=mD (a:=[x]) (r:=r) (n:=1) rfl;show(iT ([x]++r) ((1:Nat):Int)).bind _=_;rw[h];rfl
structure XT (gr:am) (n:Nat) (s t w x:List Int) (a b d f:Int):Prop where
 s:s.length=n/\∀z∈s,E9 gr.Q z
 t:t.length=n/\∀z∈t,E9 gr.Q z
 w:w.length=n/\∀z∈w,E9 gr.Q z
 x:x.length=n/\∀z∈x,E9 gr.Q z
 a:E9 gr.Q a
 b:E9 gr.Q b
 d:E9 gr.Q d
 f:E9 gr.Q f
def Yu{n:Nat}{aH:List Int}(hl:aH.length=4*n+4)(he:aH.all (dq gr)=Z):∃s t w x a b d f,aH=s++(t++(a::b::d::f::(w++x)))/\XT gr n s t w x a b d f:=by
 have h:=As he;obtain⟨s,r,rfl,hs⟩:∃s r,aH=s++r/\s.length=n:=⟨aH.take n,aH.drop n,(De n aH).symm,by simp;omega⟩
 obtain⟨t,r,rfl,ht⟩:∃t r',r=t++r'/\t.length=n:=⟨r.take n,r.drop n,(De n r).symm,by simp at hl⊢;omega⟩
 simp only[bP]at hl
 match r,hl with
 |a::b::d::f::r,hl=>
  obtain⟨w,x,rfl,hw⟩:∃w x,r=w++x/\w.length=n:=⟨r.take n,r.drop n,(De n r).symm,by simp at hl⊢;omega⟩
  simp only[dX,bP]at hl;refine⟨s,t,w,x,a,b,d,f,rfl,⟨hs,λz hz=>h z ?_⟩,⟨ht,λz hz=>h z ?_⟩,⟨hw,λz hz=>h z ?_⟩,⟨by omega,λz hz=>h z ?_⟩,h a ?_,h b ?_,h d ?_,h f ?_⟩<;>simp_all
 |[],hl=>simp at hl;omega
 |[_],hl=>simp at hl;omega
 |[_,_],hl=>simp at hl;omega
 |[_,_,_],hl=>simp at hl;omega
section
attribute [local irreducible] chG ziB zez zaR zdT zcp zaO dtN smN yN
def pmL(gr:am)(key:Int)(B:ct)(l:List an)(perm rs s:List Int):List Int:=zdT key l (zaR gr key l perm rs) (zez gr B.Hs perm s)
def pmE(gr:am)(key:Int)(B:ct)(l:List an)(perm rs s:List Int):List Int:=ziB gr Kp (pmL gr key B l perm rs s) l.length
def pmO(gr:am)(key:Int)(B:ct)(l:List an)(perm rs s:List Int):List Int:=pX (pmE gr key B l perm rs s) perm
def zj5(gr:am)(h:Int)(own t w x:List Int)(i:Nat):Int:=aP gr [av gr gr.G (w.getD i 0),av gr (hN gr h own t i) (x.getD i 0)]
def xv(gr:am)(key:Int)(Hs:List Int)(out:List an)(x:List Int)(a b d f:Int):List Int:=[av gr gr.G a,aP gr [av gr gr.G b,zaO gr Hs x 1],av gr gr.G d,aP gr [av gr gr.G (i64.wrap (0-f)),zaO gr (sdV out).1 x 1],aP gr [av gr key (i64.wrap (0-f)),zaO gr (sdV out).2 x 1]]
def pmC(gr:am)(key:Int)(B:ct)(l:List an)(perm rs s t w x:List Int)(a b d f:Int):List Int:=xv gr key B.Hs (zaR gr key l perm rs) x a b d f++(List.range l.length).map (zj5 gr B.H (pmO gr key B l perm rs s) t w x)
def pmZ(gr:am)(key:Int)(B:ct)(l:List an)(perm rs s t w x:List Int)(a b d f:Int):Int:=chG gr C1 (pmL gr key B l perm rs s++zcp gr B.H (pmO gr key B l perm rs s) t++pmC gr key B l perm rs s t w x a b d f)
def rsF(q z:Int)(w t:List Int)(i:Nat):Int:=(w.getD i 0+z*t.getD i 0)%q
def uq(gr:am)(z:Int)(n:Nat)(e own rs s t w x:List Int)(a b d f:Int):List Int:=[(a+z*smN gr.Q s n)%gr.Q,(b+z*dtN gr.Q s e n)%gr.Q,(d+z*yN gr.Q own t n)%gr.Q,(f+z*dtN gr.Q rs own n)%gr.Q]++(List.range n).map (rsF gr.Q z w t)++(List.range n).map (rsF gr.Q z x own)
def j6(gr:am)(key:Int)(B:ct)(l:List an)(perm rs s t w x:List Int)(a b d f:Int):cH:=
 ⟨zez gr B.Hs perm s,zcp gr B.H (pmO gr key B l perm rs s) t,⟨pmC gr key B l perm rs s t w x a b d f,[pmZ gr key B l perm rs s t w x a b d f],uq gr (pmZ gr key B l perm rs s t w x a b d f) l.length (pmE gr key B l perm rs s) (pmO gr key B l perm rs s) rs s t w x a b d f⟩⟩
structure dP (gr:am) (key:Int) (B:ct) (l:List an) (perm rs s t w x:List Int) (a b d f:Int):Prop where
 m:m9 gr key l perm rs
 bs:th gr l.length B
 c:XT gr l.length s t w x a b d f
section
variable {gr:am}{key:Int}{B:ct}{l:List an}{perm rs s t w x:List Int}{a b d f:Int}
def dP.Lw(P:dP gr key B l perm rs s t w x a b d f):∀z∈perm,0<=z/\z<perm.length:=λz hz=>by have:=P.m.pr z hz;have:=P.m.pl;omega
def dP.bl(P:dP gr key B l perm rs s t w x a b d f):th gr perm.length B:=by rw[P.m.pl];exact P.bs
def dP.fM(k:ao gr)(P:dP gr key B l perm rs s t w x a b d f):(zez gr B.Hs perm s).length=l.length/\∀z∈zez gr B.Hs perm s,aK gr z=Z:=by
 have h:=zBR k (ss:=s) P.m.pb (by rw[P.m.pl];exact P.bs.l) P.bs.s;exact⟨by rw[h.1,P.m.pl],h.2⟩
def dP.len(k:ao gr)(P:dP gr key B l perm rs s t w x a b d f):(pmL gr key B l perm rs s).length=1+5*l.length:=by
 have h1:=(P.fM k).1;have h2:=P.m.pl;unfold pmL;rw[Gg,kK,h1];omega
def dP.zC(k:ao gr)(P:dP gr key B l perm rs s t w x a b d f):(pmL gr key B l perm rs s).all cC=Z:=
 DX k P.m.key P.m.c (t8 k P.m) (oa k (bm.2 (P.fM k).2))
def dP.e(k:ao gr)(P:dP gr key B l perm rs s t w x a b d f):(pmE gr key B l perm rs s).length=l.length/\∀z∈pmE gr key B l perm rs s,E9 gr.Q z:=zxl k _ _ _
def dP.o(k:ao gr)(P:dP gr key B l perm rs s t w x a b d f):(pmO gr key B l perm rs s).length=l.length/\∀z∈pmO gr key B l perm rs s,E9 gr.Q z:=by
 obtain⟨h1,h2⟩:=P.e k;refine⟨by rw[<-P.m.pl];simp[pmO,pX],λz hz=>?_⟩;obtain⟨j,hj,rfl⟩:=jE.1 hz;have:=P.m.pr j hj;rw[bS (show j.toNat<_ by omega)];exact h2 _ (e9 _)
def dP.mA(k:ao gr)(P:dP gr key B l perm rs s t w x a b d f):(zcp gr B.H (pmO gr key B l perm rs s) t).length=l.length/\∀z∈zcp gr B.H (pmO gr key B l perm rs s) t,aK gr z=Z:=by
 unfold zcp;refine⟨by simp[(P.o k).1],λz hz=>?_⟩;obtain⟨j,hj,rfl⟩:=jE.1 hz;exact Rh k P.bs.h _ _ _
def zDd{h:Int}{es ts:List Int}{i:Nat}(hi:i<es.length):ix ([h]++zcp gr h es ts) (i:Int)=J (hN gr h es ts i):=by
 unfold zcp;cases i with
 |zero=>rfl
 |succ i=>exact HU (by simp[show i<es.length by omega])
def dP.oX(k:ao gr)(P:dP gr key B l perm rs s t w x a b d f):(pmC gr key B l perm rs s t w x a b d f).length=l.length+5/\∀z∈pmC gr key B l perm rs s t w x a b d f,R9 z:=by
 have hh:=dV k P.bs.h;refine⟨by simp[pmC,xv],λz hz=>?_⟩;rcases jY.1 hz with h|h
 ·simp only[xv,fK,jf,jg]at h;rcases h with rfl|rfl|rfl|rfl|rfl
  ·exact bJ k _ _
  ·exact nO k (bJ k _ _) (fy k _ _)
  ·exact bJ k _ _
  ·exact nO k (bJ k _ _) (fy k _ _)
  exact nO k (bJ k _ _) (fy k _ _)
 obtain⟨i,_,rfl⟩:=jE.1 h;exact nO k (bJ k _ _) (bJ k _ _)
def dP.FL(k:ao gr)(P:dP gr key B l perm rs s t w x a b d f):(pmL gr key B l perm rs s++zcp gr B.H (pmO gr key B l perm rs s) t++pmC gr key B l perm rs s t w x a b d f).length=6+7*l.length/\(pmL gr key B l perm rs s++zcp gr B.H (pmO gr key B l perm rs s) t++pmC gr key B l perm rs s t w x a b d f).all cC=Z:=by
 have h1:=P.len k;have h2:=(P.mA k).1;have h3:=(P.oX k).1;refine⟨by rw[bP,bP,h1,h2,h3];omega,?_⟩;rw[kq,kq,P.zC k,oa k (bm.2 (P.mA k).2),Wh (P.oX k).2];rfl
def RB(P:dP gr key B l perm rs s t w x a b d f)(k:ao gr):qG key l (zaR gr key l perm rs) (zez gr B.Hs perm s)=J (pmL gr key B l perm rs s)/\rP key l (zaR gr key l perm rs) (zez gr B.Hs perm s)=J (pmL gr key B l perm rs s):=by
 have hn:=P.m.n;have dL:=P.m.pl;exact⟨Dp (by omega) (by rw[kK];omega) (by rw[(P.fM k).1];omega),Aa (by omega) (by rw[kK];omega) (by rw[(P.fM k).1];omega)⟩
def Zm(P:dP gr key B l perm rs s t w x a b d f)(k:ao gr):Ak gr Kp (pmL gr key B l perm rs s) (l.length:Int)=J (pmE gr key B l perm rs s,Z)/\DF gr Kp (pmL gr key B l perm rs s) (l.length:Int)=J (pmE gr key B l perm rs s):=by
 have hn:=P.m.n;exact⟨U9 k (by decide) (by rw[P.len k];omega) (P.zC k) (by omega) (by omega),Ys k (by decide) (by rw[P.len k];omega) (P.zC k) (by omega)⟩
def zHX(P:dP gr key B l perm rs s t w x a b d f)(k:ao gr):Ey (pmE gr key B l perm rs s) perm=J (pmO gr key B l perm rs s):=by
 have hn:=P.m.n;have dL:=P.m.pl;have h:=(P.e k).1;exact zLT (e:=pmE gr key B l perm rs s) (λz hz=>by have:=P.m.pr z hz;omega) (by omega)
def zDB(P:dP gr key B l perm rs s t w x a b d f)(k:ao gr):pS [pmL gr key B l perm rs s,zcp gr B.H (pmO gr key B l perm rs s) t,pmC gr key B l perm rs s t w x a b d f]=J (pmL gr key B l perm rs s++zcp gr B.H (pmO gr key B l perm rs s) t++pmC gr key B l perm rs s t w x a b d f):=by
 have hfl:[pmL gr key B l perm rs s,zcp gr B.H (pmO gr key B l perm rs s) t,pmC gr key B l perm rs s t w x a b d f].flatten=pmL gr key B l perm rs s++zcp gr B.H (pmO gr key B l perm rs s) t++pmC gr key B l perm rs s t w x a b d f:=by simp
 have h:=P.FL k;have hn:=P.m.n;rw[Fk _ (by rw[hfl];omega),hfl]
def UU(P:dP gr key B l perm rs s t w x a b d f)(k:ao gr):mg gr C1 (pmL gr key B l perm rs s++zcp gr B.H (pmO gr key B l perm rs s) t++pmC gr key B l perm rs s t w x a b d f)=J (pmZ gr key B l perm rs s t w x a b d f,Z)/\pU gr C1 (pmL gr key B l perm rs s++zcp gr B.H (pmO gr key B l perm rs s) t++pmC gr key B l perm rs s t w x a b d f)=J (pmZ gr key B l perm rs s t w x a b d f):=by
 have h:=P.FL k;have hn:=P.m.n;refine⟨?_,Mj k (by decide) (by omega) h.2⟩;rw[LV k _ (by omega),aB (MA k (by decide) (by rw[show C1.size=9 from rfl];omega) h.2)];rfl
def dP.z(P:dP gr key B l perm rs s t w x a b d f)(k:ao gr):E9 gr.Q (pmZ gr key B l perm rs s t w x a b d f):=mG k _ _
theorem ZB:xv gr key B.Hs (zaR gr key l perm rs) x a b d f++(List.range l.length).map (zj5 gr B.H (pmO gr key B l perm rs s) t w x)=pmC gr key B l perm rs s t w x a b d f:=rfl
end
variable{n:Nat}
def zCG{gr:am}(k:ao gr){own t:List Int}(ho:own.length=n)(ht:t.length=n)(uO:∀z∈own,E9 gr.Q z)(hte:∀z∈t,E9 gr.Q z):aS (σ:=Int) (λqO eD=>
 (ix t qO).bind λFu=>
 (ix own qO).bind λfR=>
 (eQ gr (i64.wrap (Fu+(i64.wrap (fR*eD))))).bind λfO=>
 J (.go fO)) (λeD=>eD) n 0 0=J (yN gr.Q own t n):=by
 have hp:=k.p;have hq:=k.q;refine bE (d9 (λi y=>y=yN gr.Q own t i) (by unfold yN;rfl) ?_ λy h=>h);rintro i y hi rfl;refine bD (show i<t.length by omega) (bD (show i<own.length by omega) (ag (lT k _) (aj ?_)));rw[(iF (q:=gr.Q) (by omega) (iK hte (by omega)) (iK uO (by omega)) (Lu (by omega) _ _ _)).1];show _=yN gr.Q own t (i+1);conv=>rhs;unfold yN
 rw[bS (show i<t.length by omega),bS (show i<own.length by omega)]
def zyb{gr:am}(k:ao gr){h:Int}(hh:R9 h){own t w x A D E c5:List Int}(ho:own.length=n)(hw:w.length=n)(hx:x.length=n)(h5:c5.length=5)(hn:n<=100):aS (σ:=(List Int)×List Int×List Int×List Int×List Int) (λTx qT=>
 (ix w Tx).bind λHR=>
 (ix ([h]++zcp gr h own t) Tx).bind λx69=>
 (ix x Tx).bind λQJ=>
 (cQ gr gr.G HR).bind λuR=>
 (cQ gr x69 QJ).bind λo0=>
 (en gr [uR,o0]).bind λrj=>
 gd ((qT.2.2.1.length+1)*8<=140737488355328/\qT.2.2.1.length+1<=4611686018427387904)<|
 J (.go (qT.1,qT.2.1,qT.2.2.1++[rj],qT.2.2.2.1,qT.2.2.2.2))) (λqT=>(qT.1,qT.2.1,qT.2.2.1,qT.2.2.2.1,qT.2.2.2.2)) n 0 (A,zcp gr h own t,c5,D,E)=J (A,zcp gr h own t,c5++(List.range n).map (zj5 gr h own t w x),D,E):=by
 refine bE (d9 (λi y=>y=(A,zcp gr h own t,c5++(List.range i).map (zj5 gr h own t w x),D,E)) (by simp) ?_ (by rintro y rfl;rfl));rintro i y hi rfl;refine bD (show i<w.length by omega) (ag (zDd (by omega)) (bD (show i<x.length by omega) (ag (fh k (fG k) _) (ag (fh k (Mh k hh _ _ _) _) (ag (jT k (bJ k _ _) (bJ k _ _)) (aG (by simp;omega) (aj ?_)))))));show _=_;rw[mN,l8,<-gU];simp only[jD,p8,zj5,bS (show i<w.length by omega),bS (show i<x.length by omega)]
def zxH{gr:am}(k:ao gr){h:Int}(hh:R9 h){own t w x A D E c5:List Int}(ho:own.length=n)(hw:w.length=n)(hx:x.length=n)(h5:c5.length=5)(hn:n<=100):aS (σ:=(List Int)×List Int×List Int×List Int×List Int×Int) (λuT eL=>
 (ix w uT).bind λN9=>
 (ix x uT).bind λqn=>
 (cD gr gr.G N9).bind λCK=>
 (cD gr eL.2.2.2.2.2 qn).bind λBS=>
 (eg gr [CK,BS]).bind λH7=>
 gd ((eL.2.2.1.length+1)*8<=140737488355328/\eL.2.2.1.length+1<=4611686018427387904)<|
 (ix eL.2.1 uT).bind λqj=>
 J (.go (eL.1,eL.2.1,eL.2.2.1++[H7],eL.2.2.2.1,eL.2.2.2.2.1,qj))) (λeL=>(eL.1,eL.2.1,eL.2.2.1,eL.2.2.2.1,eL.2.2.2.2.1)) n 0 (A,zcp gr h own t,c5,D,E,h)=J (A,zcp gr h own t,c5++(List.range n).map (zj5 gr h own t w x),D,E):=by
 have gR:(zcp gr h own t).length=n:=by simp[zcp,ho]
 refine bE (d9 (λi y=>y=(A,zcp gr h own t,c5++(List.range i).map (zj5 gr h own t w x),D,E,hN gr h own t i)) (by simp[hN]) ?_ (by rintro y rfl;rfl));rintro i y hi rfl;have oj:(zcp gr h own t)[i]'(by omega)=hN gr h own t (i+1):=by simp[zcp]
 refine bD (show i<w.length by omega) (bD (show i<x.length by omega) (ag (fb k (fG k) _) (ag (fb k (Mh k hh _ _ _) _) (ag (iC k (bJ k _ _) (bJ k _ _)) (aG (by simp;omega) (bD (l:=zcp gr h own t) (show i<_ by omega) (aj ?_)))))));show _=_;rw[oj,mN,l8,<-gU];simp only[jD,p8,zj5,bS (show i<w.length by omega),bS (show i<x.length by omega)]
def U7{gr:am}(k:ao gr){z:Int}(hz:E9 gr.Q z){w t A B C D R:List Int}(hw:w.length=n/\∀z∈w,E9 gr.Q z)(ht:t.length=n/\∀z∈t,E9 gr.Q z)(hR:R.length<=1000)(hn:n<=100):aS (σ:=(List Int)×List Int×List Int×List Int×List Int) (λUM qM=>
 (ix w UM).bind λAb3=>
 (ix t UM).bind λL4=>
 (eQ gr (i64.wrap (Ab3+(i64.wrap (z*L4))))).bind λL0=>
 gd ((qM.2.2.2.2.length+1)*8<=140737488355328/\qM.2.2.2.2.length+1<=4611686018427387904)<|
 J (.go (qM.1,qM.2.1,qM.2.2.1,qM.2.2.2.1,qM.2.2.2.2++[L0]))) (λqM=>(qM.1,qM.2.1,qM.2.2.1,qM.2.2.2.1,qM.2.2.2.2)) n 0 (A,B,C,D,R)=J (A,B,C,D,R++(List.range n).map (rsF gr.Q z w t)):=by
 have hp:=k.p;have hq:=k.q;refine bE (d9 (λi y=>y=(A,B,C,D,R++(List.range i).map (rsF gr.Q z w t))) (by simp) ?_ (by rintro y rfl;rfl));rintro i y hi rfl;refine bD (show i<w.length by omega) (bD (show i<t.length by omega) (ag (lT k _) (aG (by simp;omega) (aj ?_))));rw[(iF (q:=gr.Q) (by omega) (iK (i:=i) hw.2 (by omega)) hz (iK (i:=i) ht.2 (by omega))).1];show _=_;rw[mN,l8,<-gU];simp only[jD,p8,rsF,bS (show i<w.length by omega),bS (show i<t.length by omega)]
def Y1{gr:am}(k:ao gr){z:Int}(hz:E9 gr.Q z){w t A B C D R:List Int}(hw:w.length=n/\∀z∈w,E9 gr.Q z)(ht:t.length=n/\∀z∈t,E9 gr.Q z)(hR:R.length<=1000)(hn:n<=100):aS (σ:=(List Int)×List Int×List Int×List Int×List Int) (λzn fq=>
 (ix w zn).bind λxt=>
 (ix t zn).bind λxM=>
 gd (gr.Q≠0)<|
 gd ((fq.2.2.2.2.length+1)*8<=140737488355328/\fq.2.2.2.2.length+1<=4611686018427387904)<|
 J (.go (fq.1,fq.2.1,fq.2.2.1,fq.2.2.2.1,fq.2.2.2.2++[(i64.wrap (xt+(i64.wrap (z*xM)))).tmod gr.Q]))) (λfq=>(fq.1,fq.2.1,fq.2.2.1,fq.2.2.2.1,fq.2.2.2.2)) n 0 (A,B,C,D,R)=J (A,B,C,D,R++(List.range n).map (rsF gr.Q z w t)):=by
 have hp:=k.p;have hq:=k.q;refine bE (d9 (λi y=>y=(A,B,C,D,R++(List.range i).map (rsF gr.Q z w t))) (by simp) ?_ (by rintro y rfl;rfl));rintro i y hi rfl;refine bD (show i<w.length by omega) (bD (show i<t.length by omega) (aG (by omega) (aG (by simp;omega) (aj ?_))));rw[(iF (q:=gr.Q) (by omega) (iK (i:=i) hw.2 (by omega)) hz (iK (i:=i) ht.2 (by omega))).2];show _=_;rw[mN,l8,<-gU];simp only[jD,p8,rsF,bS (show i<w.length by omega),bS (show i<t.length by omega)]
def zzT{gr:am}(k:ao gr){e t perm own:List Int}(hp:perm.length=n)(ht:t.length=n/\∀z∈t,E9 gr.Q z)(hb:∀z∈perm,0<=z/\z<e.length)(uO:∀z∈e,E9 gr.Q z)(ho:own=pX e perm)(hn:n<=100):aS (σ:=(List Int)×Int) (λzI cK=>
 (ix perm zI).bind λl4=>
 (ix e l4).bind λoZ=>
 gd ((cK.1.length+1)*8<=140737488355328/\cK.1.length+1<=4611686018427387904)<|
 (ix t zI).bind λfE=>
 gd (gr.Q≠0)<|
 J (.go (cK.1++[oZ],(i64.wrap (fE+(i64.wrap (oZ*cK.2)))).tmod gr.Q))) (λcK=>(cK.1,cK.2)) perm.length 0 ([],0)=J (own,yN gr.Q own t n):=by
 have hP:=k.p;have hq:=k.q;have hol:own.length=n:=by rw[ho];simp[pX,hp]
 refine bE (d9 (λi y=>y=(own.take i,yN gr.Q own t i)) (by unfold yN;rfl) ?_ ?_)
 ·rintro i y hi rfl;have lU:=iK hb hi;obtain⟨j,hj⟩:=fJ lU.1;have rZ:j<e.length:=by omega
  have E6:own[i]'(by omega)=e[j]:=by
   simp only[ho,pX,List.getElem_map,hj,dG];exact bS rZ
  refine bD hi ?_;rw[hj];refine bD rZ (aG (by simp;omega) (bD (show i<t.length by omega) (aG (by omega) (aj ?_))));rw[(iF (q:=gr.Q) (by omega) (iK (i:=i) ht.2 (by omega)) (iK (i:=j) uO rZ) (Lu (by omega) _ _ _)).2];show _=(own.take (i+1),yN gr.Q own t (i+1));conv=>rhs;unfold yN
  rw[bS (show i<t.length by omega),bS (show i<own.length by omega),iO (show i<own.length by omega),E6]
 rintro y rfl;rw[KA (by omega),hp]
attribute [local irreducible] pmL pmE pmO pmC pmZ zj5 rsF sdV hN
section
variable {gr:am}{key:Int}{B:ct}{l:List an}{perm rs s t w x:List Int}{a b d f:Int}
def mJ(l:List an):(sdV l).1.length=l.length/\(sdV l).2.length=l.length:=by unfold sdV;simp
set_option maxHeartbeats 4000000 in
def zAp(k:ao gr)(P:dP gr key B l perm rs s t w x a b d f):DY gr B key l perm rs (s++(t++(a::b::d::f::(w++x))))=J (j6 gr key B l perm rs s t w x a b d f,Z):=by
 have hp:=k.p;have hq:=k.q;have cL:0<gr.Q/\gr.Q<=2000000000:=by omega
 have hn:=P.m.n;have dL:=P.m.pl;have fm:=P.m.rl;have hk:=dV k P.m.key;have hH:=dV k P.bs.h;have EN:=t8 k P.m;have kM:(zaR gr key l perm rs).length=l.length:=by rw[kK,P.m.pl]
 have gi:=sA k EN;have eY:=mJ (zaR gr key l perm rs);rw[kM]at eY;obtain⟨hol,uO⟩:=P.o k;obtain⟨sk,zY⟩:=P.e k;have hz:=P.z k;have Na:=P.c.x.1;have KY:=P.c.w.1;have Q9:=P.c.t.1;have zq:=P.c.s.1;have hB:=FG k P.bs.s;have QE:=P.bs.l;have c1:=O2 k P.m;have c2:=zCn (ss:=s) k P.Lw (by omega) (by omega) P.bl;have c3:=(RB P k).1;have c4:=(Zm P k).1;have c5:=zHX P k;have c6:=zDH k hH (es:=pmO gr key B l perm rs s) (ts:=t) (by omega) (by omega);have c7:=zCG k hol Q9 uO P.c.t.2;have c8:=(rU (l:=zaR gr key l perm rs) (by omega)).1;have c9:=zDB P k;have xA:=(UU P k).1;have sx:=zyb (A:=zez gr B.Hs perm s) (D:=[]) (E:=[]) (t:=t) k hH hol KY Na (show(xv gr key B.Hs (zaR gr key l perm rs) x a b d f).length=5 from rfl) (by omega);rw[ZB]at sx;have p1:=oV (m:=x) k hB (by omega);have p2:=oV (m:=x) k gi.1 (by omega);have p3:=oV (m:=x) k gi.2 (by omega);have d1:=((Ye cL P.c.s.2).1.trans (by rw[zq]):Dv s gr.Q=J (smN gr.Q s l.length))
 have d2:=((OL cL (m:=pmE gr key B l perm rs s) P.c.s.2 zY (by omega)).trans (by rw[zq]):uA s (pmE gr key B l perm rs s) gr.Q=J (dtN gr.Q s (pmE gr key B l perm rs s) l.length))
 have d3:=((OL cL (l:=rs) (m:=pmO gr key B l perm rs s) (As P.m.re) uO (by omega)).trans (by rw[P.m.rl]):uA rs (pmO gr key B l perm rs s) gr.Q=J (dtN gr.Q rs (pmO gr key B l perm rs s) l.length))
 have Sl:=NE cL.1 s l.length;have t9:=AA cL.1 s (pmE gr key B l perm rs s) l.length;have kG:=AA cL.1 rs (pmO gr key B l perm rs s) l.length;have hy:=Lu cL.1 (pmO gr key B l perm rs s) t l.length;have hcn:(zcp gr B.H (pmO gr key B l perm rs s) t).length=l.length:=(P.mA k).1;have x1:=(lT k _).trans (gn (λv=>J (v%gr.Q)) (iF (by omega) P.c.a hz Sl).1);have x2:=(lT k _).trans (gn (λv=>J (v%gr.Q)) (iF (by omega) P.c.b hz t9).1);have x3:=(lT k _).trans (gn (λv=>J (v%gr.Q)) (iF (by omega) P.c.d hz hy).1);have x4:=(lT k _).trans (gn (λv=>J (v%gr.Q)) (iF (by omega) P.c.f hz kG).1);have r1:=λR hR=>U7 (A:=zez gr B.Hs perm s) (B:=zcp gr B.H (pmO gr key B l perm rs s) t) (C:=pmC gr key B l perm rs s t w x a b d f) (D:=[pmZ gr key B l perm rs s t w x a b d f]) (R:=R) k hz P.c.w P.c.t hR (by omega)
 have r2:=λR hR=>U7 (A:=zez gr B.Hs perm s) (B:=zcp gr B.H (pmO gr key B l perm rs s) t) (C:=pmC gr key B l perm rs s t w x a b d f) (D:=[pmZ gr key B l perm rs s t w x a b d f]) (R:=R) k hz P.c.x ⟨hol,uO⟩ hR (by omega)
 clear eY gi EN hB;unfold DY;refine bE (ag (mD zq) (ag (mD Q9) (ag (yH _ _) (ag (yH _ _) (ag (yH _ _) (ag (yH _ _) (ag (mD KY) (ag (zBx Na) ?_))))))));dsimp only;refine ag c1 (ag c2 (ag c3 (ag c4 (bt rfl (ag c5 (ag c6 (ag c7 (ag c8 ?_))))))));refine ag (fh k (fG k) _) (ag (fh k (fG k) _) (ag p1 (ag (jT k (bJ k _ _) (fy k _ _)) (ag (fh k (fG k) _) (ag (fh k (fG k) _) (ag p2 (ag (jT k (bJ k _ _) (fy k _ _)) (ag (fh k hk _) (ag p3 (ag (jT k (bJ k _ _) (fy k _ _)) (aG ?_ (ag rfl (ag sx (ag c9 (ag xA (bt rfl ?_))))))))))))))))
 ·simp only[dX,ia];omega
 refine ag d1 (ag x1 (ag d2 (ag x2 (ag x3 (ag d3 (ag x4 (ag (r1 _ ?_) (ag (r2 _ ?_) (aj ?_)))))))))
 ·simp
 ·simp;omega
 unfold j6 uq;rfl
end
end
section
attribute [local irreducible] chG ziB zez zaR zdT zcp zaO dtN smN yN
section
variable {gr:am}{key:Int}{B:ct}{l:List an}{perm rs s t w x:List Int}{a b d f:Int}
def cM{m:Nat}(h:m<=1000000){z:Int}(e:z=(m:Int)):i64.wrap z=(m:Int):=by rw[e];exact aI (by omega) (by omega)
def zCY(k:ao gr)(P:dP gr key B l perm rs s t w x a b d f):Ax gr key l (zaR gr key l perm rs) (zez gr B.Hs perm s)=J (pmE gr key B l perm rs s):=by
 unfold Ax;exact bE (ag (RB P k).2 (ag (Zm P k).2 (aj rfl)))
def zDa(k:ao gr)(P:dP gr key B l perm rs s t w x a b d f){ch rr:List Int}:zM gr key l (zaR gr key l perm rs) ⟨zez gr B.Hs perm s,zcp gr B.H (pmO gr key B l perm rs s) t,⟨pmC gr key B l perm rs s t w x a b d f,ch,rr⟩⟩=J (pmZ gr key B l perm rs s t w x a b d f):=by
 have hn:=P.m.n;have h1:=P.len k;have h2:=(P.mA k).1;have h3:=(P.oX k).1;unfold zM;dsimp only;exact bE (ag (RB P k).2 (aG (by rw[h1,h2];omega) (aG (by rw[bP,h1,h2,h3];omega) (ag (UU P k).2 (aj rfl)))))
theorem zCA:pmO gr key B l perm rs s=pX (pmE gr key B l perm rs s) perm:=rfl
attribute [local irreducible] pmL pmE pmO pmC pmZ zj5 rsF sdV hN
set_option maxHeartbeats 4000000 in
def zH4(k:ao gr)(P:dP gr key B l perm rs s t w x a b d f):DW gr key B l perm rs (s++(t++(a::b::d::f::(w++x))))=J (j6 gr key B l perm rs s t w x a b d f):=by
 have hp:=k.p;have hq:=k.q;have cL:0<gr.Q/\gr.Q<=2000000000:=by omega
 have hn:=P.m.n;have dL:=P.m.pl;have fm:=P.m.rl;have hk:=dV k P.m.key;have hH:=dV k P.bs.h;have EN:=t8 k P.m;have kM:(zaR gr key l perm rs).length=l.length:=by rw[kK,P.m.pl]
 have gi:=sA k EN;have eY:=mJ (zaR gr key l perm rs);rw[kM]at eY;obtain⟨hol,uO⟩:=P.o k;obtain⟨sk,zY⟩:=P.e k;have hz:=P.z k;have Na:=P.c.x.1;have KY:=P.c.w.1;have Q9:=P.c.t.1;have zq:=P.c.s.1;have hB:=FG k P.bs.s;have QE:=P.bs.l;have c1:=P0 k P.m;have c2:=zC8 (ss:=s) k P.Lw (by omega) (by omega) P.bl;have c3:=zCY k P;have c6:=zDv k hH (es:=pmO gr key B l perm rs s) (ts:=t) (by omega) (by omega);have c7:=zzT (e:=pmE gr key B l perm rs s) (own:=pmO gr key B l perm rs s) k dL P.c.t (λz hz=>by have:=P.m.pr z hz;omega) zY zCA (by omega);have c8:=(rU (l:=zaR gr key l perm rs) (by omega)).2;have c9:=zDa k P (ch:=[]) (rr:=[]);have sx:=zxH (A:=zez gr B.Hs perm s) (D:=[]) (E:=[]) (t:=t) k hH hol KY Na (show(xv gr key B.Hs (zaR gr key l perm rs) x a b d f).length=5 from rfl) (by omega);rw[ZB]at sx;have p1:=oF (m:=x) k hB (by omega);have p2:=oF (m:=x) k gi.1 (by omega);have p3:=oF (m:=x) k gi.2 (by omega);have d1:=((Ye cL P.c.s.2).2.trans (by rw[zq]):E8 s gr.Q=J (smN gr.Q s l.length))
 have d2:=((Rq cL (m:=pmE gr key B l perm rs s) P.c.s.2 zY (by omega)).trans (by rw[zq]):u9 s (pmE gr key B l perm rs s) gr.Q=J (dtN gr.Q s (pmE gr key B l perm rs s) l.length))
 have d3:=((Rq cL (l:=rs) (m:=pmO gr key B l perm rs s) (As P.m.re) uO (by omega)).trans (by rw[P.m.rl]):u9 rs (pmO gr key B l perm rs s) gr.Q=J (dtN gr.Q rs (pmO gr key B l perm rs s) l.length))
 have Sl:=NE cL.1 s l.length;have t9:=AA cL.1 s (pmE gr key B l perm rs s) l.length;have kG:=AA cL.1 rs (pmO gr key B l perm rs s) l.length;have hy:=Lu cL.1 (pmO gr key B l perm rs s) t l.length;have x1:=(iF (by omega) P.c.a hz Sl).2;have x2:=(iF (by omega) P.c.b hz t9).2;have x3:=(iF (by omega) P.c.d hz hy).2;have x4:=(iF (by omega) P.c.f hz kG).2;have r1:=λR hR=>Y1 (A:=zez gr B.Hs perm s) (B:=zcp gr B.H (pmO gr key B l perm rs s) t) (C:=pmC gr key B l perm rs s t w x a b d f) (D:=[pmZ gr key B l perm rs s t w x a b d f]) (R:=R) k hz P.c.w P.c.t hR (by omega)
 have r2:=λR hR=>Y1 (A:=zez gr B.Hs perm s) (B:=zcp gr B.H (pmO gr key B l perm rs s) t) (C:=pmC gr key B l perm rs s t w x a b d f) (D:=[pmZ gr key B l perm rs s t w x a b d f]) (R:=R) k hz P.c.x ⟨hol,uO⟩ hR (by omega)
 have hQ:gr.Q≠0:=by omega
 clear eY gi EN hB;have w2:i64.wrap (2*(l.length:Int))=((2*l.length:Nat):Int):=cM (by omega) (by omega);have w21:i64.wrap (((2*l.length:Nat):Int)+1)=((2*l.length+1:Nat):Int):=cM (by omega) (by omega);have w22:i64.wrap (((2*l.length:Nat):Int)+2)=((2*l.length+2:Nat):Int):=cM (by omega) (by omega);have w23:i64.wrap (((2*l.length:Nat):Int)+3)=((2*l.length+3:Nat):Int):=cM (by omega) (by omega);have w24:i64.wrap (((2*l.length:Nat):Int)+4)=((2*l.length+4:Nat):Int):=cM (by omega) (by omega);have w3:i64.wrap (3*(l.length:Int))=((3*l.length:Nat):Int):=cM (by omega) (by omega);have w34:i64.wrap (((3*l.length:Nat):Int)+4)=((3*l.length+4:Nat):Int):=cM (by omega) (by omega);generalize hc:s++(t++(a::b::d::f::(w++x)))=aH;have AbH:aH.length=4*l.length+4:=by rw[<-hc];simp;omega
 have hs:(aH.take l.length).drop 0=s:=by rw[<-hc,<-zq];simp
 have ht:(aH.take (2*l.length)).drop l.length=t:=by
  rw[<-hc,<-gU,AaJ (by simp;omega),OI zq]
 have hw:(aH.take (3*l.length+4)).drop (2*l.length+4)=w:=by
  have e:aH=(s++(t++[a,b,d,f]))++(w++x):=by rw[<-hc];simp
  rw[e,<-gU,AaJ (by simp;omega),OI (by simp;omega)]
 have hx:(aH.take aH.length).drop (3*l.length+4)=x:=by
  have e:aH=(s++(t++([a,b,d,f]++w)))++x:=by rw[<-hc];simp
  rw[f6,e,OI (by simp;omega)]
 have s8:∀(i:Nat) (y:Int),i<4->[a,b,d,f][i]? =J y->ix aH ((2*l.length+i:Nat):Int)=J y:=λi y hi hy=>by
  have e:aH=(s++t)++([a,b,d,f]++(w++x)):=by rw[<-hc];simp
  refine HU ?_;have h0:(s++t).length=2*l.length:=by simp;omega
  rw[e,fT (by omega),h0,UB,fw (by simpa using hi),hy]
 unfold DW;simp only[w2,w21,w22,w23,w24,w3,w34,dG,hs,ht,hw,hx];refine bE (ag c1 (aG (by omega) (aG (by omega) (aG (by omega) (aG (by omega) (aG (by omega) (ag (s8 0 a (by omega) rfl) (ag (s8 1 b (by omega) rfl) (ag (s8 2 d (by omega) rfl) (ag (s8 3 f (by omega) rfl) (aG (by omega) (aG (by omega) (aG (by omega) (aG (by omega) (aG (by omega) ?_)))))))))))))));refine ag c2 (ag c3 (ag c7 (ag c6 (ag c8 ?_))));refine ag (fb k (fG k) _) (ag (fb k (fG k) _) (ag p1 (ag (iC k (bJ k _ _) (fy k _ _)) (ag (fb k (fG k) _) (ag (fb k (fG k) _) (ag p2 (ag (iC k (bJ k _ _) (fy k _ _)) (ag (fb k hk _) (ag p3 (ag (iC k (bJ k _ _) (fy k _ _)) (ag sx (ag c9 ?_))))))))))));refine aG hQ (ag d1 (aG hQ (ag d2 (aG hQ (ag d3 (aG hQ ?_))))));dsimp only;rw[x1,x2,x3,x4];refine ag (r1 _ ?_) (ag (r2 _ ?_) (aj ?_))
 ·simp
 ·simp;omega
 unfold j6 uq;rfl
end
end
abbrev rN:cH:=⟨[],[],⟨[],[],[]⟩⟩
def fC(gr:am)(key:Int)(l:List an):Bool:=aK gr key&&(cX 1 12 l.length&&l.all (b7 gr))
noncomputable def km(gr:am)(n:Nat)(perm rs:List Int):Bool:=decide (perm.length=n)&&d5 perm&&(decide (rs.length=n)&&rs.all (dq gr))
def vu{gr:am}(k:ao gr)(key:Int)(l:List an){B:ct}{tb:Bool}(hB:kT gr (l.length:Int)=J (B,tb)):tE gr key l=J (if fC gr key l=Z then(B,tb)else(⟨0,[]⟩,aa)):=by
 unfold tE;rw[YU,NL.2 k,Mp k,yp k,hB];unfold fC;cases aK gr key<;>cases (cX 1 12 l.length&&l.all (b7 gr))<;>rfl
def M5{gr:am}(k:¬ao gr)(key:Int)(l:List an):tE gr key l=J (⟨0,[]⟩,aa):=by
 unfold tE;rw[YU,oU k];rfl
def Oj{gr:am}{key:Int}{l:List an}{perm rs:List Int}:(fC gr key l&&km gr l.length perm rs)=Z↔m9 gr key l perm rs:=zHA
structure YK (gr:am) (key:Int) (l:List an) (perm rs aH:List Int) (p:cH):Prop where
 k:ao gr
 x:∃(B:ct) (s t w x:List Int) (a b d f:Int),aH=s++(t++(a::b::d::f::(w++x)))/\dP gr key B l perm rs s t w x a b d f/\p=j6 gr key B l perm rs s t w x a b d f/\kT gr (l.length:Int)=J (B,Z)
def zLw(gr:am)(key:Int){l:List an}(hl:l.length<=20)(perm rs aH:List Int):∃p t,pN gr key l perm rs aH=J (p,t)/\uJ gr key l perm rs aH=J (p,t)/\(t=aa->p=rN)/\(t=Z->YK gr key l perm rs aH p):=by
 have w4:i64.wrap (i64.wrap (4*(l.length:Int))+4)=((4*l.length+4:Nat):Int):=by
  rw[aI (n:=4*(l.length:Int)) (by omega) (by omega)];exact cM (by omega) (by omega)
 by_cases k:ao gr
 ·have hq:=k.q;have hp:=k.p;obtain⟨B,tb,b1,b2,b3⟩:=O5 k (n:=l.length) (by omega);have e2:((rs.length:Int) !=(l.length:Int))= !decide (rs.length=l.length):=by by_cases h:rs.length=l.length<;>simp[h];omega
  have e3:((aH.length:Int) !=((4*l.length+4:Nat):Int))= !decide (aH.length=4*l.length+4):=by by_cases h:aH.length=4*l.length+4<;>simp[h];omega
  cases h1:fC gr key l
  ·refine⟨rN,aa,?_,?_,λ_=>rfl,λh=>by cases h⟩
   ·unfold pN;rw[vu k key l b2,h1];rfl
   unfold uJ;rw[uS k,show(aK gr key&&(cX 1 12 l.length&&l.all (b7 gr)))=fC gr key l from rfl,h1];rfl
  cases h2:km gr l.length perm rs
  ·refine⟨rN,aa,?_,?_,λ_=>rfl,λh=>by cases h⟩
   ·unfold pN;rw[vu k key l b2,h1,zL k (by omega),show(decide (perm.length=l.length)&&d5 perm&&(decide (rs.length=l.length)&&rs.all (dq gr)))=km gr l.length perm rs from rfl,h2];cases tb<;>rfl
   unfold uJ;rw[uS k,show(aK gr key&&(cX 1 12 l.length&&l.all (b7 gr)))=fC gr key l from rfl,h1,P4 perm l.length (by omega),yO (by omega) (by omega),e2];unfold km at h2;cases h3:(decide (perm.length=l.length)&&d5 perm)
   ·simp
   cases h4:decide (rs.length=l.length)
   ·simp
   rw[h3,h4]at h2;have h2:rs.all (dq gr)=aa:=by simpa using h2
   simp[h2]
  have m:=Oj.1 (show(fC gr key l&&km gr l.length perm rs)=Z by rw[h1,h2];rfl)
  have I:∀cc,vz gr aH=J cc->pN gr key l perm rs aH=if(tb&&(decide (aH.length=4*l.length+4)&&cc))=Z then(DY gr B key l perm rs aH).bind (λz=>J (z.1,z.2))else J (rN,aa):=by
   intro cc SI;unfold pN;rw[vu k key l b2,h1,zL k (by omega),show(decide (perm.length=l.length)&&d5 perm&&(decide (rs.length=l.length)&&rs.all (dq gr)))=km gr l.length perm rs from rfl,h2,w4,e3,SI];cases tb<;>cases decide (aH.length=4*l.length+4)<;>cases cc<;>rfl
  have S:∀cc,ru gr aH=J cc->uJ gr key l perm rs aH=if(tb&&(decide (aH.length=4*l.length+4)&&cc))=Z then(DW gr key B l perm rs aH).bind (λz=>J (z,Z))else J (rN,aa):=by
   intro cc SI;unfold uJ;have h4:decide (rs.length=l.length)=Z:=by simp[m.rl]
   have h5:(decide (perm.length=l.length)&&d5 perm)=Z:=by simp[m.pl,m.pb]
   rw[uS k,show(aK gr key&&(cX 1 12 l.length&&l.all (b7 gr)))=fC gr key l from rfl,h1,P4 perm l.length (by omega),yO (l:=rs) (by omega) (by omega),e2,h4,h5,m.re,w4,e3,SI,b1];cases tb<;>cases decide (aH.length=4*l.length+4)<;>cases cc<;>rfl
  have I2:=I _ (w9 (by omega) (by omega) aH);have S2:=S _ (yO (by omega) (by omega) aH);by_cases hc:(tb&&(decide (aH.length=4*l.length+4)&&aH.all (dq gr)))=Z
  ·rw[aB hc]at I2 S2;simp only[bI,eC]at hc;obtain⟨ht,Fj,oj⟩:=hc;subst ht;obtain⟨s,t,w,x,a,b,d,f,rfl,hC⟩:=Yu Fj oj;have P:dP gr key B l perm rs s t w x a b d f:=⟨m,b3 rfl,hC⟩
   rw[zAp k P]at I2;rw[zH4 k P]at S2;refine⟨j6 gr key B l perm rs s t w x a b d f,Z,I2,S2,λh=>(by cases h),λ_=>⟨k,B,s,t,w,x,a,b,d,f,rfl,P,rfl,b2⟩⟩
  rw[az hc]at I2 S2;refine⟨rN,aa,I2,S2,λ_=>rfl,λh=>by cases h⟩
 refine⟨rN,aa,?_,?_,λ_=>rfl,λh=>by cases h⟩
 ·unfold pN;rw[M5 k];rfl
 unfold uJ;rw[Gk k];rfl
def zDb{gr:am}{key:Int}{l:List an}(hl:l.length<=20){perm rs aH:List Int}{p:cH}(h:YK gr key l perm rs aH p):p.cq.length<=1000/\p.aF.length<=1000/\p.Pi.aC.length<=1000/\p.Pi.aV.length<=1000/\p.Pi.aE.length<=1000:=by
 obtain⟨k,B,s,t,w,x,a,b,d,f,_,P,rfl,_⟩:=h;have h1:=(P.fM k).1;have h2:=(P.mA k).1;have h3:=(P.oX k).1;refine⟨?_,?_,?_,by simp[j6],by simp[j6,uq];omega⟩
 ·show(zez gr B.Hs perm s).length<=_;omega
 ·show(zcp gr B.H (pmO gr key B l perm rs s) t).length<=_;omega
 show(pmC gr key B l perm rs s t w x a b d f).length<=_;omega
def oq(gr:am)(n:Nat)(p:cH):Bool:=decide (p.cq.length=n)&&(decide (p.aF.length=n)&&(decide (p.Pi.aC.length=n+5)&&(decide (p.Pi.aV.length=1)&&(decide (p.Pi.aE.length=2*n+4)&&(p.cq.all (aK gr)&&(p.aF.all (aK gr)&&(p.Pi.aC.all (aK gr)&&p.Pi.aE.all (dq gr))))))))
def iJ(a b:Nat):((a:Int)==(b:Int))=decide (a=b):=by by_cases h:a=b<;>simp[h];omega
def zG2{gr:am}(k:ao gr){n:Nat}(hn:n<=1000)(p:cH):JW gr p (n:Int)=J (oq gr n p):=by
 have hq:=k.q;have hp:=k.p;have e1:i64.wrap ((n:Int)+5)=((n+5:Nat):Int):=cM (by omega) (by omega)
 have e2:i64.wrap (i64.wrap (2*(n:Int))+4)=((2*n+4:Nat):Int):=by
  rw[aI (n:=2*(n:Int)) (by omega) (by omega)];exact cM (by omega) (by omega)
 unfold JW;have e3:((p.Pi.aV.length:Int)==1)=decide (p.Pi.aV.length=1):=iJ _ 1;rw[e1,e2,iJ,iJ,iJ,iJ,e3,Cc k,Cc k,Cc k,w9 (by omega) (by omega)];unfold oq;generalize decide (p.cq.length=n)=a1;generalize decide (p.aF.length=n)=a2;generalize decide (p.Pi.aC.length=n+5)=a3;generalize decide (p.Pi.aV.length=1)=a4;generalize decide (p.Pi.aE.length=2*n+4)=a5;generalize p.cq.all (aK gr)=a6;generalize p.aF.all (aK gr)=a7;generalize p.Pi.aC.all (aK gr)=a8;generalize p.Pi.aE.all (dq gr)=a9;cases a1<;>cases a2<;>cases a3<;>cases a4<;>cases a5<;>cases a6<;>cases a7<;>cases a8<;>rfl
def zEx{gr:am}(k:ao gr){n:Nat}(hn:n<=1000)(p:cH):Is gr (n:Int) p=J (oq gr n p):=by
 have hq:=k.q;have hp:=k.p;have e1:i64.wrap ((n:Int)+5)=((n+5:Nat):Int):=cM (by omega) (by omega)
 have e2:i64.wrap (i64.wrap (2*(n:Int))+4)=((2*n+4:Nat):Int):=by
  rw[aI (n:=2*(n:Int)) (by omega) (by omega)];exact cM (by omega) (by omega)
 unfold Is;have e3:((p.Pi.aV.length:Int)==1)=decide (p.Pi.aV.length=1):=iJ _ 1;rw[e1,e2,iJ,iJ,iJ,iJ,e3,xW k,xW k,xW k,yO (by omega) (by omega)];unfold oq;generalize decide (p.cq.length=n)=a1;generalize decide (p.aF.length=n)=a2;generalize decide (p.Pi.aC.length=n+5)=a3;generalize decide (p.Pi.aV.length=1)=a4;generalize decide (p.Pi.aE.length=2*n+4)=a5;generalize p.cq.all (aK gr)=a6;generalize p.aF.all (aK gr)=a7;generalize p.Pi.aC.all (aK gr)=a8;generalize p.Pi.aE.all (dq gr)=a9;cases a1<;>cases a2<;>cases a3<;>cases a4<;>cases a5<;>cases a6<;>cases a7<;>cases a8<;>rfl
def alN(q:Int)(e:List Int):Nat->Int
 |0=>1
 |i+1=>(alN q e i*e.getD i 0)%q
theorem NB{q:Int}(hq:1<q)(e:List Int):∀i,E9 q (alN q e i)
 |0=>⟨by show(0:Int)<=1;omega,hq⟩
 |i+1=>f9 (by omega) _
def ve{q a b:Int}(hq:q<=2000000000)(ha:E9 q a)(hb:E9 q b):i64.wrap (a*b)=a*b/\(i64.wrap (a*b)).tmod q=(a*b)%q:=by
 have h1:0<=a*b:=sJ ha.1 hb.1;have h2:a*b<=2000000000*2000000000:=wg (by have:=ha.2;omega) (by have:=hb.2;omega) hb.1 (by omega);rw[aI (n:=a*b) (by omega) (by omega)];exact⟨rfl,je h1⟩
def zzL{gr:am}(k:ao gr){e:List Int}(he:∀z∈e,E9 gr.Q z):aS (σ:=Int) (λfP bV=>
 (ix e fP).bind λil=>
 (eQ gr (i64.wrap (bV*il))).bind λnQ=>
 J (.go nQ)) (λbV=>bV) e.length 0 1=J (alN gr.Q e e.length):=by
 have hp:=k.p;have hq:=k.q;refine bE (d9 (λi y=>y=alN gr.Q e i) rfl ?_ λy h=>h);rintro i y hi rfl;refine bD hi (ag (lT k _) (aj ?_));rw[(ve (q:=gr.Q) (by omega) (NB (by omega) _ _) (iK he hi)).1];show _=(alN gr.Q e i*e.getD i 0)%gr.Q;rw[bS hi]
def zzc{gr:am}(k:ao gr){e:List Int}(he:∀z∈e,E9 gr.Q z):aS (σ:=Int) (λi16 rD=>
 (ix e i16).bind λLE=>
 gd (gr.Q≠0)<|
 J (.go ((i64.wrap (rD*LE)).tmod gr.Q))) (λrD=>rD) e.length 0 1=J (alN gr.Q e e.length):=by
 have hp:=k.p;have hq:=k.q;refine bE (d9 (λi y=>y=alN gr.Q e i) rfl ?_ λy h=>h);rintro i y hi rfl;refine bD hi (aG (by omega) (aj ?_));rw[(ve (q:=gr.Q) (by omega) (NB (by omega) _ _) (iK he hi)).2];show _=(alN gr.Q e i*e.getD i 0)%gr.Q;rw[bS hi]
def U1{gr:am}(k:ao gr){x:Int}(h:aK gr x=Z){s:Int}(hs:0<=s):av gr (av gr x s) (-1)=av gr x (0-s):=by
 have hq:=k.q;have e1:(-1:Int)%gr.Q=(gr.Q-1)%gr.Q:=by rw[show gr.Q-1=-1+gr.Q by omega,Uq]
 have h1:av gr (av gr x s) (-1)=av gr (av gr x s) (gr.Q-1):=Yz _ e1;rw[h1,U6 k h hs (by omega)];refine Yz _ ?_;rw[show s*(gr.Q-1)=(0-s)+gr.Q*s by grind,GC]
def bef(h:Int)(ch:List Int)(i:Nat):Int:=([h]++ch).getD i 0
def Gh{gr:am}(k:ao gr){h:Int}(hh:aK gr h=Z){ch:List Int}(hc:∀z∈ch,aK gr z=Z)(i:Nat)(hi:i<=ch.length):ix ([h]++ch) (i:Int)=J (bef h ch i)/\R9 (bef h ch i):=by
 have hl:i<([h]++ch).length:=by simp;omega
 unfold bef;rw[jh hl,bS hl];refine⟨rfl,dV k ?_⟩;rcases jY.1 (e9 hl)with h1|h1
 ·rw[gB]at h1;rw[h1];exact hh
 exact hc _ h1
section
attribute [local irreducible] chG ziB zdT zaO alN sdV
def wvL(key:Int)(l out:List an)(p:cH):List Int:=zdT key l out p.cq
def wvE(gr:am)(key:Int)(l out:List an)(p:cH):List Int:=ziB gr Kp (wvL key l out p) l.length
def wvZ(gr:am)(key:Int)(l out:List an)(p:cH):Int:=chG gr C1 (wvL key l out p++p.aF++p.Pi.aC)
def Jt(gr:am)(B:ct)(l:List an)(e fM:List Int)(last al:Int):List Int:=[aP gr [aP gr fM,av gr (aP gr B.Hs) (-1)],zaO gr fM e 1,aP gr [last,av gr B.H (0-al)],zaO gr (sdV l).1 e 1,zaO gr (sdV l).2 e 1]
def Dx(gr:am)(key:Int)(B:ct)(out:List an)(x r:List Int):List Int:=[av gr gr.G (r.getD 0 0),aP gr [av gr gr.G (r.getD 1 0),zaO gr B.Hs x 1],av gr gr.G (r.getD 2 0),aP gr [av gr gr.G (i64.wrap (0-r.getD 3 0)),zaO gr (sdV out).1 x 1],aP gr [av gr key (i64.wrap (0-r.getD 3 0)),zaO gr (sdV out).2 x 1]]
def zjH(gr:am)(h:Int)(ch x r:List Int)(i:Nat):Int:=aP gr [av gr gr.G (r.getD (4+i) 0),av gr (bef h ch i) (x.getD i 0)]
def hlB(gr:am)(z c b d:Int):Bool:=aP gr [c,av gr b z]==d
def pJ(gr:am)(z:Int)(c left right:List Int)(i:Nat):Bool:=hlB gr z (c.getD i 0) (left.getD i 0) (right.getD i 0)
def mF(gr:am)(B:ct)(l:List an)(e:List Int)(p:cH):List Int:=Jt gr B l e p.cq (p.aF.getD (l.length-1) 0) (alN gr.Q e e.length)++p.aF
def np(gr:am)(key:Int)(B:ct)(n:Nat)(out:List an)(p:cH):List Int:=Dx gr key B out (p.Pi.aE.drop (n+4)) p.Pi.aE++(List.range n).map (zjH gr B.H p.aF (p.Pi.aE.drop (n+4)) p.Pi.aE)
def tT(gr:am)(key:Int)(B:ct)(l out:List an)(p:cH):Bool:=
 decide (out.length=l.length)&&(oq gr l.length p&&((p.Pi.aV.getD 0 0==wvZ gr key l out p)&&(List.range (5+l.length)).all (pJ gr (wvZ gr key l out p) p.Pi.aC (mF gr B l (wvE gr key l out p) p) (np gr key B l.length out p))))
structure k8 (gr:am) (key:Int) (B:ct) (l out:List an) (p:cH):Prop where
 key:aK gr key=Z
 n:1<=l.length/\l.length<=12
 lc:∀c∈l,b7 gr c=Z
 oc:∀c∈out,b7 gr c=Z
 ol:out.length=l.length
 bs:th gr l.length B
 fM:p.cq.length=l.length/\∀z∈p.cq,aK gr z=Z
 mA:p.aF.length=l.length/\∀z∈p.aF,aK gr z=Z
 oX:p.Pi.aC.length=l.length+5/\∀z∈p.Pi.aC,aK gr z=Z
 cO:p.Pi.aV.length=1
 Xf:p.Pi.aE.length=2*l.length+4/\∀z∈p.Pi.aE,E9 gr.Q z
section
variable {gr:am}{key:Int}{B:ct}{l out:List an}{p:cH}
def k8.len(V:k8 gr key B l out p):(wvL key l out p).length=1+5*l.length:=by
 have h1:=V.fM.1;have h2:=V.ol;unfold wvL;rw[Gg,h1];omega
def k8.zC(k:ao gr)(V:k8 gr key B l out p):(wvL key l out p).all cC=Z:=DX k V.key V.lc V.oc (oa k (bm.2 V.fM.2))
def k8.QO(V:k8 gr key B l out p):qG key l out p.cq=J (wvL key l out p)/\rP key l out p.cq=J (wvL key l out p):=by
 have hn:=V.n;have h1:=V.fM.1;have h2:=V.ol;exact⟨Dp (by omega) (by omega) (by omega),Aa (by omega) (by omega) (by omega)⟩
def k8.W2(k:ao gr)(V:k8 gr key B l out p):Ak gr Kp (wvL key l out p) (l.length:Int)=J (wvE gr key l out p,Z)/\Ax gr key l out p.cq=J (wvE gr key l out p):=by
 have hn:=V.n;refine⟨U9 k (by decide) (by rw[V.len];omega) (V.zC k) (by omega) (by omega),?_⟩;unfold Ax;exact bE (ag V.QO.2 (ag (Ys k (by decide) (by rw[V.len];omega) (V.zC k) (by omega)) (aj rfl)))
def k8.e(k:ao gr)(V:k8 gr key B l out p):(wvE gr key l out p).length=l.length/\∀z∈wvE gr key l out p,E9 gr.Q z:=zxl k _ _ _
def k8.FL(k:ao gr)(V:k8 gr key B l out p):(wvL key l out p++p.aF++p.Pi.aC).length=6+7*l.length/\(wvL key l out p++p.aF++p.Pi.aC).all cC=Z:=by
 have h1:=V.len;have h2:=V.mA.1;have h3:=V.oX.1;refine⟨by rw[bP,bP,h1,h2,h3];omega,?_⟩;rw[kq,kq,V.zC k,oa k (bm.2 V.mA.2),oa k (bm.2 V.oX.2)];rfl
def k8.cat(k:ao gr)(V:k8 gr key B l out p):pS [wvL key l out p,p.aF,p.Pi.aC]=J (wvL key l out p++p.aF++p.Pi.aC):=by
 have hfl:[wvL key l out p,p.aF,p.Pi.aC].flatten=wvL key l out p++p.aF++p.Pi.aC:=by simp
 have h:=V.FL k;have hn:=V.n;rw[Fk _ (by rw[hfl];omega),hfl]
def k8.AbO(k:ao gr)(V:k8 gr key B l out p):mg gr C1 (wvL key l out p++p.aF++p.Pi.aC)=J (wvZ gr key l out p,Z):=by
 have h:=V.FL k;have hn:=V.n;rw[LV k _ (by omega),aB (MA k (by decide) (by rw[show C1.size=9 from rfl];omega) h.2)];rfl
def k8.AaN(k:ao gr)(V:k8 gr key B l out p):zM gr key l out p=J (wvZ gr key l out p):=by
 have h:=V.FL k;have hn:=V.n;have h1:=V.len;have h2:=V.mA.1;have h3:=V.oX.1;unfold zM;exact bE (ag V.QO.2 (aG (by rw[h1,h2];omega) (aG (by rw[bP,h1,h2,h3];omega) (ag (Mj k (by decide) (by omega) h.2) (aj rfl)))))
def OX(hk:aK gr key=Z)(hn:1<=l.length/\l.length<=12)(lc:∀c∈l,b7 gr c=Z)(oc:∀c∈out,b7 gr c=Z)(hb:th gr l.length B)(ho:out.length=l.length)(hs:oq gr l.length p=Z):k8 gr key B l out p:=by
 simp only[oq,bI,eC]at hs;obtain⟨a1,a2,a3,a4,a5,a6,a7,a8,a9⟩:=hs;exact⟨hk,hn,lc,oc,ho,hb,⟨a1,bm.1 a6⟩,⟨a2,bm.1 a7⟩,⟨a3,bm.1 a8⟩,a4,⟨a5,As a9⟩⟩
def ER(k:ao gr){x y w z:Int}(hx:R9 x)(hy:R9 y):sT x y w gr.P gr.Q gr.G z=J (hlB gr z x y w):=by
 unfold sT;show(cQ gr y z).bind _=_;rw[fh k hy,aR];show(en gr _).bind _=_;rw[jT k hx (bJ k _ _),aR];rfl
def zxw(k:ao gr){h z:Int}(hh:aK gr h=Z){ch c x r:List Int}{n:Nat}(hc:c.length=n+5/\∀z∈c,aK gr z=Z)(Bu:ch.length=n/\∀z∈ch,aK gr z=Z)(hx:x.length=n)(hr:r.length=2*n+4)(hn:n<=100)(b:Bool):aS (σ:=Bool) (λGD Sy=>
 ((if Sy=Z then(
 (ix c (i64.wrap (5+GD))).bind λmh=>
 (ix ch GD).bind λiV=>
 (ix r (i64.wrap (4+GD))).bind λjt=>
 (ix ([h]++ch) GD).bind λxt=>
 (ix x GD).bind λxM=>
 (cQ gr gr.G jt).bind λz96=>
 (cQ gr xt xM).bind λz97=>
 (en gr [z96,z97]).bind λRe=>
 (sT mh iV Re gr.P gr.Q gr.G z).bind λPZ=>
 J PZ)else(
 J aa):Option Bool).bind λxJ=>
 J (.go xJ))) (λSy=>Sy) n 0 b=J (b&&(List.range n).all λi=>hlB gr z (c.getD (5+i) 0) (ch.getD i 0) (zjH gr h ch x r i)):=by
 refine bE (d9 (λi y=>y=(b&&(List.range i).all λi=>hlB gr z (c.getD (5+i) 0) (ch.getD i 0) (zjH gr h ch x r i))) (by simp) ?_ λy h=>h);rintro i y hi hy;have h5:5+i<c.length:=by omega
 have h4:4+i<r.length:=by omega
 have G5:i<ch.length:=by omega
 have Bw:i<x.length:=by omega
 have hb:=Gh k hh Bu.2 i (by omega);refine ay (ψ:=λy'=>y'=(y&&hlB gr z (c.getD (5+i) 0) (ch.getD i 0) (zjH gr h ch x r i))) (aZ (λg=>?_) λg=>aj (by rw[g];rfl)) λy' iA=>aj ?_
 ·rw[show i64.wrap (5+(i:Int))=((5+i:Nat):Int)from cM (by omega) (by omega),show i64.wrap (4+(i:Int))=((4+i:Nat):Int)from cM (by omega) (by omega)];refine bD h5 (bD G5 (bD h4 (ag hb.1 (bD Bw (ag (fh k (fG k) _) (ag (fh k hb.2 _) (ag (jT k (bJ k _ _) (bJ k _ _)) (ag (ER k (dV k (iK hc.2 h5)) (dV k (iK Bu.2 G5))) (aj ?_)))))))));rw[g,gV,bS h5,bS G5];unfold zjH;rw[bS h4,bS Bw]
 show y'=_;rw[iA,hy,mN,kq];simp[KG]
def zx4(p:Nat->Bool)(n:Nat):(List.range (5+n)).all p=((p 0&&(p 1&&(p 2&&(p 3&&p 4))))&&(List.range n).all λi=>p (5+i)):=by
 rw[Aam,kq,Uj]
 have:(List.range 5).all p=(p 0&&(p 1&&(p 2&&(p 3&&p 4)))):=by
  show(p 0&&(p 1&&(p 2&&(p 3&&(p 4&&Z)))))=_;rw[A2]
 rw[this];rfl
end
attribute [local irreducible] wvL wvE wvZ hlB zjH bef
section
variable {gr:am}{key:Int}{B:ct}{l out:List an}{p:cH}
set_option maxHeartbeats 4000000 in
def Xn(k:ao gr)(hk:aK gr key=Z)(hn:1<=l.length/\l.length<=12)(lc:∀c∈l,b7 gr c=Z)(oc:∀c∈out,b7 gr c=Z)(hb:th gr l.length B):F4 gr B key l out p=J (tT gr key B l out p):=by
 have hp:=k.p;have hq:=k.q;unfold F4;refine bE (ay (ψ:=(· = !(decide (out.length=l.length)&&oq gr l.length p))) ?_ ?_)
 ·rw[show((out.length:Int) !=(l.length:Int))= !decide (out.length=l.length)by rw[bne,iJ]];refine aZ (λg=>aj ?_) λg=>ag (zG2 k (by omega) p) (aj ?_)
  ·have:decide (out.length=l.length)=aa:=by simpa using g
   rw[this];rfl
  have:decide (out.length=l.length)=Z:=by simpa using g
  rw[this];rfl
 rintro b rfl;refine aZ (λg=>aj ?_) λg=>?_
 ·rw[qc]at g;unfold tT;rw[<-KG,g];rfl
 have g:(decide (out.length=l.length)&&oq gr l.length p)=Z:=by simpa using g
 obtain⟨g1,g2⟩:=A3.1 g;have V:=OX (p:=p) hk hn lc oc hb (we g1) g2;have hv:tT gr key B l out p=((p.Pi.aV.getD 0 0==wvZ gr key l out p)&&(List.range (5+l.length)).all (pJ gr (wvZ gr key l out p) p.Pi.aC (mF gr B l (wvE gr key l out p) p) (np gr key B l.length out p))):=by unfold tT;rw[g1,g2];rfl
 rw[hv];obtain⟨sk,zY⟩:=V.e k;have kh:0<p.Pi.aV.length:=by rw[V.cO];omega
 refine ag V.QO.1 (ag (V.W2 k).1 (ag (V.cat k) (ag (V.AbO k) (ay (ψ:=(· =(p.Pi.aV.getD 0 0 !=wvZ gr key l out p))) (bt rfl (bt rfl (bD (k:=0) kh (aj (by rw[bS kh]))))) ?_))));rintro b rfl;refine aZ (λg=>aj ?_) λg=>?_
 ·rw[bne,qc]at g;rw[g];rfl
 rw[bne,Bool.not_eq_false']at g;rw[g,gV];have w4:i64.wrap ((l.length:Int)+4)=((l.length+4:Nat):Int):=cM (by omega) (by omega);have w1:i64.wrap ((l.length:Int)-1)=((l.length-1:Nat):Int):=cM (by omega) (by omega);have zo:(p.Pi.aE.take p.Pi.aE.length).drop (l.length+4)=p.Pi.aE.drop (l.length+4):=by rw[f6]
 have fm:=V.Xf.1;have g9:(p.Pi.aE.drop (l.length+4)).length=l.length:=by rw[OC,fm];omega
 rw[w4,w1,dG,zo];generalize hX:p.Pi.aE.drop (l.length+4)=x at g9;refine aG (by omega) (aG (by omega) (ag (zzL k zY) (ag (rU (by omega)).1 (ag (rU (by rw[V.ol];omega)).1 ?_))));have eY:=sA k lc;have k7:=sA k oc;have rX:=mJ l;have hol:=mJ out;rw[V.ol]at hol;have hH:=dV k hb.h;have hK:=dV k hk;have Cz:=FG k hb.s;have CV:=FG k V.fM.2;have QE:=hb.l;have gR:=V.fM.1;have X0:=V.mA.1;have CN:∀i,i<5->∃h:i<p.Pi.aC.length,R9 p.Pi.aC[i]:=λi hi=>⟨by rw[V.oX.1];omega,dV k (iK V.oX.2 (by rw[V.oX.1];omega))⟩
 obtain⟨m0,t0⟩:=CN 0 (by omega);obtain⟨m1,t1⟩:=CN 1 (by omega);obtain⟨m2,t2⟩:=CN 2 (by omega);obtain⟨m3,t3⟩:=CN 3 (by omega);obtain⟨m4,t4⟩:=CN 4 (by omega);have r0:0<p.Pi.aE.length:=by omega
 have r1:1<p.Pi.aE.length:=by omega
 have r2:2<p.Pi.aE.length:=by omega
 have r3:3<p.Pi.aE.length:=by omega
 have B8:l.length-1<p.aF.length:=by omega
 have Cy:=NB (show 1<gr.Q by omega) (wvE gr key l out p) (wvE gr key l out p).length;have ya:=dV k (iK V.mA.2 B8);have qB:=Fy k Cz;have qC:=Fy k CV
 have f0:pJ gr (wvZ gr key l out p) p.Pi.aC (mF gr B l (wvE gr key l out p) p) (np gr key B l.length out p) 0=hlB gr (wvZ gr key l out p) p.Pi.aC[0] (aP gr [aP gr p.cq,av gr (aP gr B.Hs) (-1)]) (av gr gr.G p.Pi.aE[0]):=by
  rw[<-bS (d:=0) m0,<-bS (d:=0) r0];rfl
 have f1:pJ gr (wvZ gr key l out p) p.Pi.aC (mF gr B l (wvE gr key l out p) p) (np gr key B l.length out p) 1=hlB gr (wvZ gr key l out p) p.Pi.aC[1] (zaO gr p.cq (wvE gr key l out p) 1) (aP gr [av gr gr.G p.Pi.aE[1],zaO gr B.Hs x 1]):=by
  rw[<-bS (d:=0) m1,<-bS (d:=0) r1,<-hX];rfl
 have f2:pJ gr (wvZ gr key l out p) p.Pi.aC (mF gr B l (wvE gr key l out p) p) (np gr key B l.length out p) 2=hlB gr (wvZ gr key l out p) p.Pi.aC[2] (aP gr [p.aF[l.length-1],av gr (av gr B.H (alN gr.Q (wvE gr key l out p) (wvE gr key l out p).length)) (-1)]) (av gr gr.G p.Pi.aE[2]):=by
  rw[U1 k hb.h Cy.1,<-bS (d:=0) m2,<-bS (d:=0) r2,<-bS (d:=0) B8];rfl
 have f3:pJ gr (wvZ gr key l out p) p.Pi.aC (mF gr B l (wvE gr key l out p) p) (np gr key B l.length out p) 3=hlB gr (wvZ gr key l out p) p.Pi.aC[3] (zaO gr (sdV l).1 (wvE gr key l out p) 1) (aP gr [av gr gr.G (i64.wrap (0-p.Pi.aE[3])),zaO gr (sdV out).1 x 1]):=by
  rw[<-bS (d:=0) m3,<-bS (d:=0) r3,<-hX];rfl
 have f4:pJ gr (wvZ gr key l out p) p.Pi.aC (mF gr B l (wvE gr key l out p) p) (np gr key B l.length out p) 4=hlB gr (wvZ gr key l out p) p.Pi.aC[4] (zaO gr (sdV l).2 (wvE gr key l out p) 1) (aP gr [av gr key (i64.wrap (0-p.Pi.aE[3])),zaO gr (sdV out).2 x 1]):=by
  rw[<-bS (d:=0) m4,<-bS (d:=0) r3,<-hX];rfl
 have f5:((List.range l.length).all λi=>pJ gr (wvZ gr key l out p) p.Pi.aC (mF gr B l (wvE gr key l out p) p) (np gr key B l.length out p) (5+i))=(List.range l.length).all λi=>hlB gr (wvZ gr key l out p) (p.Pi.aC.getD (5+i) 0) (p.aF.getD i 0) (zjH gr B.H p.aF x p.Pi.aE i):=by
  rw[UC,bm,bm];refine forall_congr' λi=>forall_congr' λhi=>?_
  have hi:=kp.1 hi
  have a1:(mF gr B l (wvE gr key l out p) p).getD (5+i) 0=p.aF.getD i 0:=by
   unfold mF;rw[nv,fT (by simp[Jt]),nv];congr 2;simp[Jt]
  have a2:(np gr key B l.length out p).getD (5+i) 0=zjH gr B.H p.aF x p.Pi.aE i:=by
   unfold np;rw[nv,fT (by simp[Dx]),hX];have:5+i-(Dx gr key B out x p.Pi.aE).length=i:=by simp[Dx]
   rw[this];simp[hi]
  unfold pJ;rw[a1,a2]
 rw[zx4,f0,f1,f2,f3,f4,f5];have p0:=OJ k (b:=aP gr p.cq) (x:=aP gr B.Hs) qC.1 qC.2 qB.1 qB.2;have p2:=OJ k (b:=p.aF[l.length-1]) (x:=av gr B.H (alN gr.Q (wvE gr key l out p) (wvE gr key l out p).length)) ya.1 ya.2 (bJ k _ _).1 (bJ k _ _).2;have u1:=oV k (m:=wvE gr key l out p) CV (by omega);have u2:=oV k (m:=x) Cz (by omega);have u3:=oV k (m:=wvE gr key l out p) eY.1 (by omega);have u4:=oV k (m:=wvE gr key l out p) eY.2 (by omega);have u5:=oV k (m:=x) k7.1 (by omega);have u6:=oV k (m:=x) k7.2 (by omega);have mm:=λa b ha hb=>jT k (x:=a) (y:=b) ha hb
 generalize yo:hlB gr (wvZ gr key l out p) p.Pi.aC[0] (aP gr [aP gr p.cq,av gr (aP gr B.Hs) (-1)]) (av gr gr.G p.Pi.aE[0])=b0;generalize eI:hlB gr (wvZ gr key l out p) p.Pi.aC[1] (zaO gr p.cq (wvE gr key l out p) 1) (aP gr [av gr gr.G p.Pi.aE[1],zaO gr B.Hs x 1])=b1;generalize fV:hlB gr (wvZ gr key l out p) p.Pi.aC[2] (aP gr [p.aF[l.length-1],av gr (av gr B.H (alN gr.Q (wvE gr key l out p) (wvE gr key l out p).length)) (-1)]) (av gr gr.G p.Pi.aE[2])=b2;generalize rz:hlB gr (wvZ gr key l out p) p.Pi.aC[3] (zaO gr (sdV l).1 (wvE gr key l out p) 1) (aP gr [av gr gr.G (i64.wrap (0-p.Pi.aE[3])),zaO gr (sdV out).1 x 1])=b3;generalize ti:hlB gr (wvZ gr key l out p) p.Pi.aC[4] (zaO gr (sdV l).2 (wvE gr key l out p) 1) (aP gr [av gr key (i64.wrap (0-p.Pi.aE[3])),zaO gr (sdV out).2 x 1])=b4;refine ay (ψ:=(· =(b0&&(b1&&(b2&&(b3&&b4)))))) ?_ ?_
 ·refine bD (k:=0) m0 (bD (k:=0) r0 (ag (Ap k CV) (ag (Ap k Cz) (ag p0 (ag (fh k (fG k) _) (ag ((ER k t0 (nO k qC (bJ k _ _))).trans (gn J yo)) (aZ (λg=>?_) λg=>aj (by rw[g];rfl))))))));rw[g,gV];refine bD (k:=1) m1 (bD (k:=1) r1 (ag u1 (ag (fh k (fG k) _) (ag u2 (ag (jT k (bJ k _ _) (fy k _ _)) (ag ((ER k t1 (fy k _ _)).trans (gn J eI)) (aZ (λg=>?_) λg=>aj (by rw[g];rfl))))))));rw[g,gV];refine bD (k:=2) m2 (bD B8 (bD (k:=2) r2 (ag (fh k hH _) (ag p2 (ag (fh k (fG k) _) (ag ((ER k t2 (nO k ya (bJ k _ _))).trans (gn J fV)) (aZ (λg=>?_) λg=>aj (by rw[g];rfl))))))));rw[g,gV];refine bD (k:=3) m3 (bD (k:=3) r3 (ag u3 (ag (fh k (fG k) _) (ag u5 (ag (jT k (bJ k _ _) (fy k _ _)) (ag ((ER k t3 (fy k _ _)).trans (gn J rz)) (aZ (λg=>?_) λg=>aj (by rw[g];rfl))))))));rw[g,gV];exact bD (k:=4) m4 (ag u4 (ag (fh k hK _) (ag u6 (ag (jT k (bJ k _ _) (fy k _ _)) (ag ((ER k t4 (fy k _ _)).trans (gn J ti)) (aj rfl))))))
 rintro b rfl;exact aG (by simp only[dX,ia];omega) (ag rfl (ag (zxw k hb.h V.oX V.mA g9 fm (by omega) _) (aj rfl)))
end
end
end Go.Pm
