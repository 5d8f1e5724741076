/-
  FnStages: plain laws.
  No condition.
-/
import Derived.Test.YtnojafnlicbhpaaGreatM41c
import Derived.Test.YtnojafnlicbhpaaGreatPmZ
namespace Go.Pm
set_option linter.defProp false
open Go.Am IntKind
open Bool renaming false→aa,true→Z
open Option renaming some→J
def eM:=@Int.emod_emod
def f6:=@List.take_length
def iO:=@List.take_succ_eq_append_getElem
def je:=@Int.tmod_eq_emod_of_nonneg
def jf:=@List.not_mem_nil
def jg:=@or_false
def kq:=@List.all_append
def mN:=@List.range_succ
def mO:=@Int.mul_emod
def nv:=@List.getD_eq_getElem?_getD
def nV:=@Int.emod_nonneg
def o6:=@Int.natCast_emod
def o7:=@Nat.pow_mul
def o8:=@Int.add_emod
def qd:=@Nat.pow_mod
def qe:=@Int.emod_eq_of_lt
def sH:=@Int.sub_emod
def sI:=@Int.emod_lt_of_pos
def sJ:=@Int.mul_nonneg
def t6:=@Nat.mul_mod
def we:=@of_decide_eq_true
def wg:=@Int.mul_le_mul
def yC:=@List.all_eq_false
def A1:=@Int.le_refl
def A2:=@Bool.and_true
def A3:=@Bool.and_eq_true_iff
def Dd:=@decide_eq_false
def De:=@List.take_append_drop
def GA:=@List.foldl_append
def GB:=@Nat.one_pow
def GC:=@Int.add_mul_emod_self_left
def KD:=@List.mem_iff_getElem
def KE:=@List.all_nil
def KF:=@Int.mul_assoc
def KG:=@Bool.and_assoc
def OE:=@Nat.mod_mod
def OG:=@Nat.pow_add
def OH:=@Classical.byContradiction
def OI:=@List.drop_left'
def Uo:=@Int.tdiv_eq_ediv_of_nonneg
def Up:=@Nat.mod_mul_mod
def Uq:=@Nat.pow_two
def Ur:=@Nat.pow_zero
def Us:=@Int.tmod_lt_of_pos
def Ut:=@Int.lt_tmod_of_pos
def Uu:=@Int.add_emod_right
def Uv:=@Int.sub_zero
def Uw:=@of_decide_eq_false
def Ux:=@Nat.dvd_of_mod_eq_zero
def Uy:=@Int.mul_one
def Uz:=@List.nodup_cons
def UA:=@Int.dvd_of_emod_eq_zero
def UB:=@List.pairwise_map
def UC:=@Int.natCast_pow
def UD:=@Int.mul_le_mul_of_nonneg_left
def UE:=@Int.one_mul
def UF:=@Nat.add_sub_cancel_left
def UG:=@Bool.eq_iff_iff
def Aaz:=@BitVec.toNat_and
def AaA:=@Int.fdiv_eq_ediv_of_nonneg
def AaB:=@Int.tmod_def
def AaC:=@Int.mul_emod_right
def AaD:=@Int.ofNat_dvd_left
def AaE:=@Int.emod_eq_zero_of_dvd
def AaF:=@Int.pow_succ
def AaG:=@List.Pairwise.imp_of_mem
def AaH:=@List.take_append_getElem
def AaI:=@Int.mul_comm
def AaJ:=@beq_self_eq_true
def AaK:=@List.take_left'
def Acg:=@Nat.mod_eq_zero_of_dvd
def Ach:=@Bool.and_eq_false_iff
def Aci:=@List.nodup_iff_pairwise_ne
def Acj:=@List.pairwise_iff_getElem
def Ack:=@List.pairwise_lt_range
def Acl:=@Int.mul_tdiv_cancel
def Acm:=@List.mem_erase_of_ne
def Acn:=@List.length_erase_of_mem
def Aco:=@List.getElem?_set_self
def Acp:=@List.getElem?_set_ne
set_option linter.unusedVariables false
set_option linter.unusedSimpArgs false
variable{a at_ b h i key n q dC x y:Int}{c:an}{c0 code l m perm rs ss:List Int}{e k p:Nat}{gr:am}{out:List an}{s:ByteArray}
def zxl{r:List Int}(h1:k<l.length)(h2:k<r.length)(h:l.take k=r.take k)(he:l[k]=r[k]):l.take (k+1)=r.take (k+1):=by
 rw[iO h1,iO h2,h,he]
def GW(a b:List Int):Bd a b=J (decide (a=b)):=by
 unfold Bd;by_cases hl:a.length=b.length
 ·have e:((a.length:Int) !=(b.length:Int))=aa:=by simp[hl]
  simp only[e,p7,l7]
  obtain⟨r,hb,hp⟩:=UN (σ:=Unit) (β:=Unit ⊕ Bool) (body:=λi16 rS=>
   (ix a i16).bind λqx=>
   (ix b i16).bind λoG=>
   if(qx !=oG)=Z then(
   J (.out (.inr aa)))else(
   J (.go ()))) (stop:=λrS=>.inl ()) (m:=a.length) (i0:=0) (s0:=()) (λk _=>a.take k=b.take k)
   (λr=>Sum.elim (λ_=>a=b) (λr=>r=aa/\a≠b) r) (by simp)
   (by
     rintro k s hk hI;have Ak:k<b.length:=by omega
     rw[KB];simp only[jx hk,jx Ak,aR];by_cases he:a[k]=b[k]
     ·exact .inl ⟨(),by simp[he],zxl hk Ak hI he⟩
     ·exact .inr ⟨.inr aa,by simp[he],rfl,λh=>by subst h;exact he rfl⟩)
   (by
     rintro s hI;rw[f6,hl,f6]at hI
     exact hI)
  rw[hb,aR];cases r with
  |inl u=>have hp:a=b:=hp;simp[hp]
  |inr r=>
   obtain⟨h1,h2⟩:r=aa/\a≠b:=hp;simp[h1,h2]
 have e:((a.length:Int) !=(b.length:Int))=Z:=by simp;omega
 have:a≠b:=λh=>hl (by rw[h])
 simp[e,this]
def tP(a b c:Int):pK a b c=J (decide (b<=a)&&decide (a<=c)):=by
 unfold pK;by_cases h:b<=a<;>simp[h]
def rZ(a b c:Int):oz a b c=J (decide (b<=a)&&decide (a<=c)):=by
 unfold oz;by_cases h:b<=a<;>simp[h]
def Vh(a:Int):Iu a=J (decide (2<=a)&&decide (a<=2000000000)):=by
 unfold Iu;rw[tP];rfl
def o9(a b:Nat):(a:Int).tmod (b:Int)=((a%b:Nat):Int):=by rw[je (by omega)];exact(o6 _ _).symm
def zxo(a b:Nat):(a:Int).tdiv (b:Int)=((a/b:Nat):Int):=by rw[Uo (by omega)];exact(Int.natCast_ediv _ _).symm
def zN(a b:Nat):(a:Int)*(b:Int)=((a*b:Nat):Int):=(C8 _ _).symm
def zBI(he:e<=9223372036854775807):i64.wrap (BitVec.ofInt IntKind.i64.bits (e:Int)&&&BitVec.ofInt IntKind.i64.bits 1).toNat=((e%2:Nat):Int):=by
 have h1:(BitVec.ofInt IntKind.i64.bits (e:Int)&&&BitVec.ofInt IntKind.i64.bits 1).toNat=e%2:=by
  rw[Aaz]
  have a1:(BitVec.ofInt IntKind.i64.bits (e:Int)).toNat=e:=by
   rw[BitVec.toNat_ofInt];have:IntKind.i64.bits=64:=rfl;rw[this];omega
  have a2:(BitVec.ofInt IntKind.i64.bits 1).toNat=1:=by decide
  rw[a1,a2,Nat.and_one_is_mod]
 rw[h1,aI (by omega) (by omega)]
def zBL{a m:Nat}(ha:a<=2000000000)(hm:1<=m)(qN:m<=2000000000)(he:e<=9223372036854775807):nQ (a:Int) (e:Int) (m:Int)=J ((a^e%m:Nat):Int):=by
 unfold nQ
 refine bE (aG (by omega) (ay (φ:=(· =((a^e%m:Nat):Int))) (tH (φ:=(· =((a^e%m:Nat):Int))) (λs=>∃x y o:Nat,s=((x:Int),(y:Int),(o:Int))/\x<=2000000000/\y<=e/\o<m/\o*x^y%m=a^e%m) (λs=>s.2.1.toNat)
  ⟨a,e,1%m,by rw[show(1:Int)=((1:Nat):Int)from rfl,o9],ha,cy _,mM _ (by omega),by rw[Up,Kt]⟩ ?_) λx hx=>aj hx))
 rintro s ⟨x,y,o,rfl,hx,hy,ho,hi⟩;refine aZ (λh0=>?_) λh0=>?_
 ·have h0:0<y:=by simpa using h0
  have hox:o*x<=4000000000000000000:=gj (ri (show o<=2000000000 by omega) hx) (by decide);have hxx:x*x<=4000000000000000000:=gj (ri hx hx) (by decide);refine ay (ψ:=λo'=>∃k:Nat,o'=(k:Int)/\k<m/\k*(x*x)^(y/2)%m=a^e%m) ?_ ?_
  ·simp only[zBI (show y<=9223372036854775807 by omega)];refine aZ (λh1=>aG (by omega) (aj ⟨o*x%m,?_,mM _ (by omega),?_⟩)) λh1=>aj ⟨o,rfl,ho,?_⟩
   ·rw[zN,aI (by omega) (by omega),o9]
   ·have h1:y%2=1:=by
     have:((y%2:Nat):Int)=1:=by simpa using h1
     omega
    rw[Up,<-hi,<-Uq,<-o7,Nat.mul_assoc,<-Nat.pow_succ'];congr 3;omega
   have h1:y%2=0:=by
    have:¬((y%2:Nat):Int)=1:=by simpa using h1
    omega
   rw[<-hi,<-Uq,<-o7];congr 3;omega
  rintro o' ⟨k,rfl,hk,Ak⟩;refine aG (by omega) (aj ⟨⟨x*x%m,y/2,k,?_,by have:=mM (x*x) (show 0<m by omega);omega,by omega,hk,?_⟩,?_⟩)
  ·rw[zN,aI (by omega) (by omega),o9];have e3:(y:Int).fdiv 2=((y/2:Nat):Int):=by rw[AaA _ (by omega)];rfl
   show(_,(y:Int).fdiv 2,_)=_;rw[e3]
  ·rw[t6,<-qd,<-t6];exact Ak
  show((y:Int).fdiv 2).toNat<(y:Int).toNat;rw[AaA _ (by omega)];omega
 have h0:y=0:=by
  have:¬(0<y):=by simpa using h0
  omega
 subst h0;refine aj ?_;show(o:Int)=_;rw[Ur,Kv,nT ho]at hi;rw[hi]
def zze{a m:Nat}(ha:a<=2000000000)(hm:1<=m)(qN:m<=2000000000)(he:e<=9223372036854775807):kW (a:Int) (e:Int) (m:Int)=J ((a^e%m:Nat):Int):=by
 unfold kW
 refine bE (aG (by omega) (ay (φ:=(· =((a^e%m:Nat):Int))) (tH (φ:=(· =((a^e%m:Nat):Int))) (λs=>∃x y o:Nat,s=((x:Int),(y:Int),(o:Int))/\x<=2000000000/\y<=e/\o<m/\o*x^y%m=a^e%m) (λs=>s.2.1.toNat)
  ⟨a,e,1%m,by rw[show(1:Int)=((1:Nat):Int)from rfl,o9],ha,cy _,mM _ (by omega),by rw[Up,Kt]⟩ ?_) λx hx=>aj hx))
 rintro s ⟨x,y,o,rfl,hx,hy,ho,hi⟩;refine aZ (λh0=>?_) λh0=>?_
 ·have h0:0<y:=by simpa using h0
  have hox:o*x<=4000000000000000000:=gj (ri (show o<=2000000000 by omega) hx) (by decide);have hxx:x*x<=4000000000000000000:=gj (ri hx hx) (by decide);have e2:(y:Int).tmod 2=((y%2:Nat):Int):=o9 y 2;refine ay (ψ:=λo'=>∃k:Nat,o'=(k:Int)/\k<m/\k*(x*x)^(y/2)%m=a^e%m) ?_ ?_
  ·simp only[e2];refine aZ (λh1=>aG (by omega) (aj ⟨o*x%m,?_,mM _ (by omega),?_⟩)) λh1=>aj ⟨o,rfl,ho,?_⟩
   ·rw[zN,aI (by omega) (by omega),o9]
   ·have h1:y%2=1:=by
     have:((y%2:Nat):Int)=1:=by simpa using h1
     omega
    rw[Up,<-hi,<-Uq,<-o7,Nat.mul_assoc,<-Nat.pow_succ'];congr 3;omega
   have h1:y%2=0:=by
    have:¬((y%2:Nat):Int)=1:=by simpa using h1
    omega
   rw[<-hi,<-Uq,<-o7];congr 3;omega
  rintro o' ⟨k,rfl,hk,Ak⟩;have e3:(y:Int).tdiv 2=((y/2:Nat):Int):=zxo y 2;refine aG (by omega) (aj ⟨⟨x*x%m,y/2,k,?_,by have:=mM (x*x) (show 0<m by omega);omega,by omega,hk,?_⟩,?_⟩)
  ·simp only[e3];rw[zN,aI (n:=((x*x:Nat):Int)) (by omega) (by omega),o9,aI (n:=((y/2:Nat):Int)) (by omega) (by omega)]
  ·rw[t6,<-qd,<-t6];exact Ak
  show(i64.wrap ((y:Int).tdiv 2)).toNat<(y:Int).toNat;rw[e3,aI (by omega) (by omega)];omega
 have h0:y=0:=by
  have:¬(0<y):=by simpa using h0
  omega
 subst h0;refine aj ?_;show(o:Int)=_;rw[Ur,Kv,nT ho]at hi;rw[hi]
def SS(h0:0<q)(h1:q<=2000000000):zo a q=J (a%q):=by
 unfold zo;rw[eE (by omega),eE (by omega)];have b1:a.tmod q<q:=Us a h0
 have b2: -q<a.tmod q:=by
  have:=Ut a h0;omega
 rw[aI (by omega) (by omega),je (by omega)];congr 1;rw[Uu];rw[AaB,sH,AaC,Uv,eM]
def BQ(h0:0<q)(h1:q<=2000000000):qk a q=J (a%q):=by
 unfold qk;rw[eE (by omega),eE (by omega)];have b1:a.tmod q<q:=Us a h0
 have b2: -q<a.tmod q:=by
  have:=Ut a h0;omega
 rw[aI (by omega) (by omega),je (by omega)];congr 1;rw[Uu];rw[AaB,sH,AaC,Uv,eM]
def Pr(n:Nat):Prop:=2<=n/\∀d,2<=d->d*d<=n->n%d≠0
open Classical in
noncomputable def kU(n:Int):Bool:=decide (Pr n.toNat)
def mX{n:Nat}:kU (n:Int)=Z↔Pr n:=by simp[kU]
def Dy(n:Int)(h:n<=2000000000):zy n=J (kU n):=by
 unfold zy;refine bE (aZ (λh0=>aj ?_) λh0=>?_)
 ·have h0:n<2:=by simpa using h0
  symm;unfold kU;rw[wd];intro hp;have:=hp.1;omega
 have h0:¬n<2:=by simpa using h0
 obtain⟨n,rfl⟩:=fJ (show 0<=n by omega);refine ay (ψ:=λb=>(b=.inl ()/\Pr n)\/(b=.inr aa/\¬Pr n)) (tH (λs=>∃d:Nat,s=(d:Int)/\2<=d/\d<=44723/\∀k,2<=k->k<d->k*k<=n->n%k≠0) (λs=>50000-s.toNat) ⟨2,rfl,by omega,by omega,λk h1 h2=>by omega⟩ ?_) ?_
 ·rintro s ⟨d,rfl,hd,kP,hi⟩;have hdd:d*d<=2000146729:=gj (ri kP kP) (by decide);rw[zN,aI (by omega) (by omega)];refine aZ (λh1=>aG (by omega) (aZ (λh2=>aj (.inr ⟨rfl,?_⟩)) λh2=>aj ?_)) λh1=>aj (.inl ⟨rfl,by omega,λk hk Aj=>?_⟩)
  ·have h1:d*d<=n:=by have:=we h1;omega
   rw[o9]at h2
   have h2 : n % d = 0 := by have:((n%d:Nat):Int)=0:=by simpa using h2
                             omega
   exact λhp=>hp.2 d hd h1 h2
  ·have h1:d*d<=n:=by have:=we h1;omega
   rw[o9]at h2
   have h2 : n % d ≠ 0 := by have:¬((n%d:Nat):Int)=0:=by simpa using h2
                             omega
   have hd3:d<=44722:=by
    rcases dK d 44723 with h|h
    ·omega
    ·have:44723*44723<=d*d:=ri h h;omega
   rw[aI (by omega) (by omega)];refine⟨⟨d+1,rfl,by omega,by omega,λk h3 h4 h5=>?_⟩,by omega⟩;rcases dK k d with h|h
   ·exact hi k h3 h h5
   have:k=d:=by omega
   subst this;exact h2
  have h1:n<d*d:=by have:=Uw h1;omega
  rcases dK k d with h|h
  ·exact hi k hk h Aj
  have:=ri h h;omega
 rintro b (⟨rfl,hp⟩|⟨rfl,hp⟩)
 ·exact aj (mX.2 hp).symm
 refine aj ?_;symm;unfold kU;rw[wd];exact hp
def V3(n:Int):Do n=J (decide (n<=2000000000)&&kU n):=by
 unfold Do;by_cases h:2<=n/\n<=2000000000
 ·obtain⟨n,rfl⟩:=fJ (show 0<=n by omega);have e2:((n:Int)).tmod 2=((n%2:Nat):Int):=o9 n 2;have em:(decide (2<=(n:Int))&&decide ((n:Int)<=2000000000))=Z:=by simp only[bI,eC];exact h
  rw[show(decide ((n:Int)<=2000000000)&&kU (n:Int))=kU (n:Int)by simp[h.2]];refine bE (ay (ψ:=λb=>b=decide (n%2=0/\n≠2)) (ag (Vh _) ?_) ?_)
  ·rw[em];refine bt rfl ?_;rw[e2];refine aZ (λh1=>aj ?_) λh1=>aj ?_
   ·have h1 : n % 2 = 0 := by have:((n%2:Nat):Int)=0:=by simpa using h1
                              omega
    have:((n:Int) !=2)=decide (n≠2):=by
     by_cases hn:n=2
     ·subst hn;rfl
     ·have Jl:¬(n:Int)=2:=by omega
      simp[hn,Jl]
    rw[this];simp[h1]
   have h1 : n % 2 ≠ 0 := by have:¬((n%2:Nat):Int)=0:=by simpa using h1
                             omega
   simp[h1]
  rintro b rfl;refine aZ (λh1=>aj ?_) λh1=>?_
  ·have h1:=we h1;symm;unfold kU;rw[wd];intro hp;have hn:4<=n:=by omega
   exact hp.2 2 (by omega) hn h1.1
  have h1:=Uw h1;refine ay (ψ:=λb=>(b=.inl ()/\Pr n)\/(b=.inr aa/\¬Pr n)) (tH (λs=>∃d:Nat,s=(d:Int)/\3<=d/\d%2=1/\d<=44725/\∀k,2<=k->k<d->k*k<=n->n%k≠0) (λs=>50000-s.toNat) ⟨3,rfl,by omega,by omega,by omega,λk h2 h3 h4=>?_⟩ ?_) ?_
  ·have:k=2:=by omega
   subst this;intro h5;exact h1 ⟨h5,by omega⟩
  ·rintro s ⟨d,rfl,hd,Aig,kP,hi⟩;have hdd:d*d<=2000325625:=gj (ri kP kP) (by decide);rw[zN,aI (by omega) (by omega)];refine aZ (λh1=>aG (by omega) (aZ (λh2=>aj (.inr ⟨rfl,?_⟩)) λh2=>aj ?_)) λh1=>aj (.inl ⟨rfl,by omega,λk hk Aj=>?_⟩)
   ·have h1:d*d<=n:=by have:=we h1;omega
    rw[o9]at h2
    have h2 : n % d = 0 := by have:((n%d:Nat):Int)=0:=by simpa using h2
                              omega
    exact λhp=>hp.2 d (by omega) h1 h2
   ·have h3:d*d<=n:=by have:=we h1;omega
    rw[o9]at h2
    have h2 : n % d ≠ 0 := by have:¬((n%d:Nat):Int)=0:=by simpa using h2
                              omega
    have hd3:d<=44722:=by
     rcases dK d 44723 with h|h
     ·omega
     ·have:44723*44723<=d*d:=ri h h;omega
    rw[aI (by omega) (by omega)];refine⟨⟨d+2,rfl,by omega,by omega,by omega,λk h4 h5 h6 h7=>?_⟩,by omega⟩;rcases dK k d with h|h
    ·exact hi k h4 h h6 h7
    rcases(show k=d\/k=d+1 by omega)with e|e
    ·subst e;exact h2 h7
    have h8:n%2=0:=by
     have a1:k∣n:=Ux h7;have a2:2∣k:=Ux (by omega);exact Acg (Nat.dvd_trans a2 a1)
    have h9:2*2<=n:=by
     have:=ri h4 h4;omega
    exact hi 2 (by omega) (by omega) h9 h8
   have h1:n<d*d:=by have:=Uw h1;omega
   rcases dK k d with h|h
   ·exact hi k hk h Aj
   have:=ri h h;omega
  rintro b (⟨rfl,hp⟩|⟨rfl,hp⟩)
  ·exact aj (mX.2 hp).symm
  refine aj ?_;symm;unfold kU;rw[wd];exact hp
 have em:(decide (2<=n)&&decide (n<=2000000000))=aa:=by
  rw[Ach,wd,wd];omega
 rw[Vh,em];simp only[aR,Bool.not_false,eP];congr 1;symm;rw[Ach,wd];by_cases hn:n<=2000000000
 ·right;unfold kU;rw[wd];intro hp;have:=hp.1;omega
 exact .inl hn
structure ao (gr:am):Prop where
 p:3<=gr.P/\gr.P<=2000000000
 q:2<=gr.Q/\gr.Q<=gr.P-1
 d:(gr.P.toNat-1)%gr.Q.toNat=0
 g:2<=gr.G/\gr.G<=gr.P-1
 pp:Pr gr.P.toNat
 pq:Pr gr.Q.toNat
 o:gr.G.toNat^gr.Q.toNat%gr.P.toNat=1
open Classical in
noncomputable def vu(gr:am):Bool:=decide (ao gr)
def LU :vu gr=Z↔ao gr:=by simp[vu]
def oO(h:¬ao gr):vu gr=aa:=by simp[vu,h]
def zxU{b:Bool}(h1:b=Z->ao gr)(h2:ao gr->b=Z):b=vu gr:=by
 cases hb:b with
 |true=>exact(LU.2 (h1 hb)).symm
 |false=>exact(oO λh=>by rw[h2 h]at hb;cases hb).symm
def oe(h:0<=a):a=((a.toNat:Nat):Int):=by omega
def pT{e m:Int}(ha:0<=a)(ha2:a<=2000000000)(hm:1<=m)(qN:m<=2000000000)(he:0<=e)(he2:e<=9223372036854775807):nQ a e m=J ((a.toNat^e.toNat%m.toNat:Nat):Int)/\kW a e m=J ((a.toNat^e.toNat%m.toNat:Nat):Int):=by
 have h1:=zBL (a:=a.toNat) (e:=e.toNat) (m:=m.toNat) (by omega) (by omega) (by omega) (by omega);have h2:=zze (a:=a.toNat) (e:=e.toNat) (m:=m.toNat) (by omega) (by omega) (by omega) (by omega);rw[<-oe ha,<-oe he,<-oe (show 0<=m by omega)]at h1 h2;exact⟨h1,h2⟩
def Mk{a b:Bool}:(a&&b)=Z↔a=Z/\b=Z:=by simp
def VE(gr:am):Jd gr=J (vu gr):=by
 unfold Jd;refine bE (ay (ψ:=λb=>b=vu gr) ?_ λb hb=>aj hb);refine ag (tP _ _ _) (aZ (λh=>?_) λh=>?_)
 ·have hp:3<=gr.P/\gr.P<=2000000000:=by simpa using h
  rw[aI (n:=gr.P-1) (by omega) (by omega)];refine ag (tP _ _ _) (aZ (λh=>?_) λh=>?_)
  ·have hq:2<=gr.Q/\gr.Q<=gr.P-1:=by simpa using h
   have ed:(gr.P-1).tmod gr.Q=(((gr.P.toNat-1)%gr.Q.toNat:Nat):Int):=by
    rw[oe (show 0<=gr.P-1 by omega),oe (show 0<=gr.Q by omega),o9];simp only[dG];congr 2;omega
   refine aG (by omega) ?_;rw[ed];refine aZ (λh=>?_) λh=>?_
   ·have hd:(gr.P.toNat-1)%gr.Q.toNat=0:=by
     have:(((gr.P.toNat-1)%gr.Q.toNat:Nat):Int)=0:=by simpa using h
     omega
    refine ag (tP _ _ _) (aZ (λh=>?_) λh=>?_)
    ·have hg:2<=gr.G/\gr.G<=gr.P-1:=by simpa using h
     refine ag (V3 _) (aZ (λh=>?_) λh=>?_)
     ·have Qv:Pr gr.P.toNat:=by
       rw[Mk,oe (show 0<=gr.P by omega),mX]at h;exact h.2
      refine ag (V3 _) (aZ (λh=>?_) λh=>?_)
      ·have pu:Pr gr.Q.toNat:=by
        rw[Mk,oe (show 0<=gr.Q by omega),mX]at h;exact h.2
       refine ag (pT (a:=gr.G) (e:=gr.Q) (m:=gr.P) (by omega) (by omega) (by omega) (by omega) (by omega) (by omega)).1 (aj (zxU (λh=>⟨hp,hq,hd,hg,Qv,pu,?_⟩) λh=>?_))
       ·have:((gr.G.toNat^gr.Q.toNat%gr.P.toNat:Nat):Int)=1:=by simpa using h
        omega
       rw[h.o];rfl
      refine aj (oO λhk=>?_).symm
      have:(decide (gr.Q<=2000000000)&&kU gr.Q)=Z:=by
       rw[Mk,oe (show 0<=gr.Q by omega),mX];exact⟨by simp;omega,hk.pq⟩
      rw[this]at h;cases h
     refine aj (oO λhk=>?_).symm
     have:(decide (gr.P<=2000000000)&&kU gr.P)=Z:=by
      rw[Mk,oe (show 0<=gr.P by omega),mX];exact⟨by simp;omega,hk.pp⟩
     rw[this]at h;cases h
    refine aj (oO λhk=>?_).symm;have:=hk.g;simp at h;omega
   refine aj (oO λhk=>?_).symm;rw[hk.d]at h;cases h
  refine aj (oO λhk=>?_).symm;have:=hk.q;simp at h;omega
 refine aj (oO λhk=>?_).symm;have:=hk.p;simp at h;omega
def J5(gr:am):An gr=J (vu gr):=by
 unfold An;refine bE (ay (ψ:=λb=>b=vu gr) ?_ λb hb=>aj hb);refine ag (rZ _ _ _) (aZ (λh=>?_) λh=>?_)
 ·have hp:3<=gr.P/\gr.P<=2000000000:=by simpa using h
  rw[aI (n:=gr.P-1) (by omega) (by omega)];refine ag (rZ _ _ _) (aZ (λh=>?_) λh=>?_)
  ·have hq:2<=gr.Q/\gr.Q<=gr.P-1:=by simpa using h
   have ed:(gr.P-1).tmod gr.Q=(((gr.P.toNat-1)%gr.Q.toNat:Nat):Int):=by
    rw[oe (show 0<=gr.P-1 by omega),oe (show 0<=gr.Q by omega),o9];simp only[dG];congr 2;omega
   refine aG (by omega) ?_;rw[ed];refine aZ (λh=>?_) λh=>?_
   ·have hd:(gr.P.toNat-1)%gr.Q.toNat=0:=by
     have:(((gr.P.toNat-1)%gr.Q.toNat:Nat):Int)=0:=by simpa using h
     omega
    refine ag (rZ _ _ _) (aZ (λh=>?_) λh=>?_)
    ·have hg:2<=gr.G/\gr.G<=gr.P-1:=by simpa using h
     refine ag (pT (a:=gr.G) (e:=gr.Q) (m:=gr.P) (by omega) (by omega) (by omega) (by omega) (by omega) (by omega)).2 (aZ (λh=>?_) λh=>?_)
     ·have ho:gr.G.toNat^gr.Q.toNat%gr.P.toNat=1:=by
       have:((gr.G.toNat^gr.Q.toNat%gr.P.toNat:Nat):Int)=1:=by simpa using h
       omega
      refine ag (Dy _ (by omega)) (aZ (λh=>?_) λh=>?_)
      ·have pu:Pr gr.Q.toNat:=by
        rw[oe (show 0<=gr.Q by omega),mX]at h;exact h
       refine ag (Dy _ (by omega)) (aj (zxU (λh=>⟨hp,hq,hd,hg,?_,pu,ho⟩) λh=>?_))
       ·rw[oe (show 0<=gr.P by omega),mX]at h;exact h
       rw[oe (show 0<=gr.P by omega),mX];exact h.pp
      refine aj (oO λhk=>?_).symm
      have:kU gr.Q=Z:=by
       rw[oe (show 0<=gr.Q by omega),mX];exact hk.pq
      rw[this]at h;cases h
     refine aj (oO λhk=>?_).symm;rw[hk.o]at h;cases h
    refine aj (oO λhk=>?_).symm;have:=hk.g;simp at h;omega
   refine aj (oO λhk=>?_).symm;rw[hk.d]at h;cases h
  refine aj (oO λhk=>?_).symm;have:=hk.q;simp at h;omega
 refine aj (oO λhk=>?_).symm;have:=hk.p;simp at h;omega
def aK(gr:am)(x:Int):Bool:=decide (1<=x)&&decide (x<=gr.P-1)&&decide (x.toNat^gr.Q.toNat%gr.P.toNat=1)
def dn(gr:am)(x:Int):Bool:=decide (0<=x)&&decide (x<=gr.Q-1)
def LB(k:ao gr)(x:Int):zi gr x=J (aK gr x):=by
 have hp:=k.p;have hq:=k.q;unfold zi aK;rw[aI (n:=gr.P-1) (by omega) (by omega),tP];refine bE (ay (ψ:=λb=>b=_) ?_ λb hb=>aj hb);refine ag rfl (aZ (λh=>?_) λh=>?_)
 ·have hx:1<=x/\x<=gr.P-1:=by simpa using h
  refine ag (pT (a:=x) (e:=gr.Q) (m:=gr.P) (by omega) (by omega) (by omega) (by omega) (by omega) (by omega)).1 (aj ?_);rw[h,gV];by_cases h1:x.toNat^gr.Q.toNat%gr.P.toNat=1
  ·simp[h1]
  have:¬((x.toNat^gr.Q.toNat%gr.P.toNat:Nat):Int)=1:=by omega
  rw[beq_false_of_ne this,Dd h1]
 rw[h];exact aj rfl
def xD(k:ao gr)(l:List Int):pW gr l=J (l.all (aK gr)):=by
 have hp:=k.p;have hq:=k.q;unfold pW;rw[aI (n:=gr.P-1) (by omega) (by omega)];refine bE (ay (ψ:=λb=>(b=.inl ()/\l.all (aK gr)=Z)\/(b=.inr aa/\l.all (aK gr)=aa)) (d7 (λi s=>(l.take i).all (aK gr)=Z) rfl ?_ ?_) ?_)
 ·rintro i s hi hI;refine bD hi (ay (ψ:=λb=>b= !aK gr l[i]) ?_ ?_)
  ·refine ag (rZ _ _ _) (aZ (λh=>aj ?_) λh=>?_)
   ·have h:(decide (1<=l[i])&&decide (l[i]<=gr.P-1))=aa:=by rwa [qc]at h
    simp[aK,h]
   have h:(decide (1<=l[i])&&decide (l[i]<=gr.P-1))=Z:=by simpa using h
   have hx:1<=l[i]/\l[i]<=gr.P-1:=by simpa using h
   refine ag (pT (a:=l[i]) (e:=gr.Q) (m:=gr.P) (by omega) (by omega) (by omega) (by omega) (by omega) (by omega)).2 (aj ?_);simp only[aK,h,gV];by_cases h1:l[i].toNat^gr.Q.toNat%gr.P.toNat=1
   ·simp[h1]
   have:¬((l[i].toNat^gr.Q.toNat%gr.P.toNat:Nat):Int)=1:=by omega
   simp only[bne,beq_false_of_ne this,Dd h1]
  rintro b rfl;refine aZ (λh=>aj (.inr ⟨rfl,?_⟩)) λh=>aj ?_
  ·have h:aK gr l[i]=aa:=by simpa using h
   rw[yC];exact⟨l[i],e9 hi,by simp[h]⟩
  have h:aK gr l[i]=Z:=by simpa using h
  show(l.take (i+1)).all (aK gr)=Z;rw[iO hi,kq,hI];simp[h]
 ·rintro s hI;rw[f6]at hI;exact .inl ⟨rfl,hI⟩
 rintro b (⟨rfl,h⟩|⟨rfl,h⟩)
 ·exact aj h.symm
 exact aj h.symm
def Pq(l:List Int)(a b:Int):A5 l a b=J (l.all λx=>decide (a<=x)&&decide (x<=b)):=by
 unfold A5;refine bE (ay (ψ:=λc=>(c=.inl ()/\(l.all λx=>decide (a<=x)&&decide (x<=b))=Z)\/(c=.inr aa/\(l.all λx=>decide (a<=x)&&decide (x<=b))=aa)) (d7 (λi s=>((l.take i).all λx=>decide (a<=x)&&decide (x<=b))=Z) rfl ?_ ?_) ?_)
 ·rintro i s hi hI;refine bD hi (ag (rZ _ _ _) (aZ (λh=>aj (.inr ⟨rfl,?_⟩)) λh=>aj ?_))
  ·rw[yC];exact⟨l[i],e9 hi,by rw[qc]at h;rw[h];simp⟩
  show((l.take (i+1)).all λx=>decide (a<=x)&&decide (x<=b))=Z;rw[iO hi,kq,hI];simpa using h
 ·rintro s hI;rw[f6]at hI;exact .inl ⟨rfl,hI⟩
 rintro c (⟨rfl,h⟩|⟨rfl,h⟩)
 ·exact aj h.symm
 exact aj h.symm
def zH(h:0<=gr.Q)(h2:gr.Q<=2000000000)(l:List Int):r6 gr l=J (l.all (dn gr)):=by
 unfold r6;rw[aI (by omega) (by omega),Pq];rfl
def zBf(h:0<=gr.Q)(h2:gr.Q<=2000000000)(x:Int):HS gr x=J (dn gr x):=by
 unfold HS;rw[aI (by omega) (by omega),tP];rfl
def av(gr:am)(x e:Int):Int:=((x.toNat^(e%gr.Q).toNat%gr.P.toNat:Nat):Int)
def zR(k:ao gr)(x e:Int):0<=av gr x e/\av gr x e<=gr.P-1:=by
 have hp:=k.p;unfold av;have:=mM (x.toNat^(e%gr.Q).toNat) (y:=gr.P.toNat) (by omega);omega
def Dr(k:ao gr)(h0:0<=x)(h1:x<=2000000000)(e:Int):cP gr x e=J (av gr x e)/\cC gr x e=J (av gr x e):=by
 have hp:=k.p;have hq:=k.q;have b1:0<=e%gr.Q:=nV _ (by omega);have b2:e%gr.Q<gr.Q:=sI _ (by omega);have hw:=pT (a:=x) (e:=e%gr.Q) (m:=gr.P) (by omega) (by omega) (by omega) (by omega) b1 (by omega);unfold cP cC;rw[SS (by omega) (by omega),BQ (by omega) (by omega),aR,aR,hw.1,hw.2];exact⟨rfl,rfl⟩
def zC8(k:ao gr)(h0:0<=x)(h1:x<=2000000000)(e:Int):cC gr x e=J (av gr x e):=by
 have hp:=k.p;have hq:=k.q;have b1:0<=e%gr.Q:=nV _ (by omega);have b2:e%gr.Q<gr.Q:=sI _ (by omega);have hw:=pT (a:=x) (e:=e%gr.Q) (m:=gr.P) (by omega) (by omega) (by omega) (by omega) b1 (by omega);unfold cC;rw[BQ (by omega) (by omega),aR,hw.2];rfl
def aP(gr:am)(l:List Int):Int:=l.foldl (λo x=>o*x%gr.P) 1
def ZL(h:1<=gr.P):∀(l:List Int) (o:Int),0<=o->o<=gr.P->(∀x∈l,0<=x)->0<=l.foldl (λo x=>o*x%gr.P) o/\l.foldl (λo x=>o*x%gr.P) o<=gr.P:=by
 intro l;induction l with
 |nil=>intro o h0 h1 _;exact⟨h0,h1⟩
 |cons x l ih=>
  intro o h0 h1 h2;exact ih _ (nV _ (by omega)) (Int.le_of_lt (sI (o*x) (show 0<gr.P by omega))) λy hy=>h2 y (nU _ hy)
theorem zDj(gr:am)(l:List Int):ej gr l=d9 gr l:=rfl
def AL(k:ao gr)(hl:∀x∈l,0<=x/\x<=2000000000):d9 gr l=J (aP gr l):=by
 have hp:=k.p;unfold d9;refine bE (ay (ψ:=λb=>b=aP gr l) (d7 (λi s=>s=(l.take i).foldl (λo x=>o*x%gr.P) 1) rfl ?_ ?_) λb hb=>aj hb)
 ·rintro i s hi rfl;have hb:=ZL (gr:=gr) (by omega) (l.take i) 1 (by omega) (by omega) λx hx=>(hl x (Gv hx)).1
  have hx:=hl l[i] (e9 hi);refine bD hi (aG (by omega) (aj ?_));show _=(l.take (i+1)).foldl _ _;rw[iO hi,GA];generalize (l.take i).foldl (λo x=>o*x%gr.P) 1=o at hb⊢;have b1:0<=o*l[i]:=sJ hb.1 hx.1;have b2:o*l[i]<=2000000000*2000000000:=wg (by omega) hx.2 hx.1 (by omega);show(i64.wrap (o*l[i])).tmod gr.P=o*l[i]%gr.P;rw[aI (by omega) (by omega),je b1]
 rintro s rfl;rw[f6];rfl
def Ix(k:ao gr)(hl:∀x∈l,0<=x/\x<=2000000000):ej gr l=J (aP gr l):=by rw[zDj];exact AL k hl
def zBu(k:ao gr)(hl:∀x∈l,0<=x/\x<=2000000000):0<=aP gr l/\aP gr l<=gr.P:=by
 have hp:=k.p;exact ZL (by omega) l 1 (by omega) (by omega) λx hx=>(hl x hx).1
def A8(k:ao gr)(l:List Int):tD gr l=J (l.all (aK gr)):=by
 unfold tD Nn Nq La;refine bE (ay (ψ:=λb=>b=l.all (aK gr)) (ay (ψ:=λb=>b= !l.all (aK gr)) (ay (ψ:=λj=>(j=-1/\l.all (aK gr)=Z)\/(0<=j/\l.all (aK gr)=aa)) (ay (ψ:=λb=>(b=.inl ()/\l.all (aK gr)=Z)\/(∃j,b=.inr j/\0<=j/\l.all (aK gr)=aa)) (d7 (λi s=>(l.take i).all (aK gr)=Z) rfl ?_ ?_) ?_) ?_) ?_) ?_)
 ·rintro i s hi hI
  have hc:GT l[i] gr=J (!aK gr l[i]):=by
   unfold GT;rw[LB k];rfl
  refine bD hi (ag hc (aZ (λh=>aj (.inr ⟨i,rfl,by omega,?_⟩)) λh=>aj ?_))
  ·rw[yC];exact⟨l[i],e9 hi,by rw[qc]at h;rw[h];simp⟩
  show(l.take (i+1)).all (aK gr)=Z;rw[iO hi,kq,hI];simpa using h
 ·rintro s hI;rw[f6]at hI;exact .inl ⟨rfl,hI⟩
 ·rintro b (⟨rfl,h⟩|⟨j,rfl,h0,h⟩)
  ·exact aj (.inl ⟨rfl,h⟩)
  exact aj (.inr ⟨h0,h⟩)
 ·rintro j (⟨rfl,h⟩|⟨h0,h⟩)
  ·exact aj (by rw[h];rfl)
  exact aj (by rw[h];simpa using h0)
 ·rintro b rfl;exact aj (by simp)
 rintro b rfl;exact aj rfl
def qF(h:aK gr x=Z):1<=x/\x<=gr.P-1:=by
 simp only[aK,bI,eC]at h;exact h.1
def Wo(k:ao gr){m:Int}(hy:aK gr y=Z)(hm:aK gr m=Z)(r:Int):
 I8 gr y m r=J (an.mk (av gr gr.G r) (aP gr [m,av gr y r]))/\IU gr y m r=J (an.mk (av gr gr.G r) (aP gr [m,av gr y r])):=by
 have hp:=k.p;have hg:=k.g;have b1:=qF hy;have b2:=qF hm;have e1:=Dr k (x:=gr.G) (by omega) (by omega) r;have e2:=Dr k (x:=y) (by omega) (by omega) r
 have hl:∀x∈[m,av gr y r],0<=x/\x<=2000000000:=λx hx=>by
  simp only[fK,jf,jg]at hx;rcases hx with rfl|rfl
  ·omega
  ·have:=zR k y r;omega
 unfold I8 IU;rw[e1.1,e1.2,aR,aR,e2.1,e2.2,aR,aR,AL k hl,Ix k hl];exact⟨rfl,rfl⟩
def Sm{α:Type}(b:Bool)(u v:α):(if b=Z then J u else J v)=J (if(!b)=Z then v else u):=by cases b<;>rfl
def zFa{α:Type}(b:Bool)(u v:α):(if(!b)=Z then J u else J v)=J (if b=Z then v else u):=by cases b<;>rfl
def GL{β:Type}{body:Int->Unit->Option (fe Unit (Unit ⊕ β))}(m:Nat)(p:Nat->Bool)(val:Nat->β)(h:∀k,k<m->body (k:Int) ()=J (if p k=Z then .go ()else .out (.inr (val k)))):
 (aS body (λ_=>.inl ()) m 0 ()=J (.inl ())/\∀k,k<m->p k=Z)\/∃k,k<m/\p k=aa/\(∀j,j<k->p j=Z)/\aS body (λ_=>.inl ()) m 0 ()=J (.inr (val k)):=by
 have key:Rn (aS body (λ_=>Sum.inl ()) m 0 ()) (λb=>(b=.inl ()/\∀k,k<m->p k=Z)\/∃k,k<m/\p k=aa/\(∀j,j<k->p j=Z)/\b=.inr (val k)):=by
  refine d7 (λk _=>∀j,j<k->p j=Z) (λj hj=>by omega) ?_ λs hs=>.inl ⟨rfl,hs⟩
  intro k s hk hI;refine⟨_,h k hk,?_⟩;cases hp:p k with
  |true=>
   intro j hj;rcases dK j k with h|h
   ·exact hI j h
   ·have:j=k:=by omega
    rw[this];exact hp
  |false=>exact .inr ⟨k,hk,hp,hI,rfl⟩
 obtain⟨b,e,h1|⟨k,h1,h2,h3,h4⟩⟩:=key
 ·exact .inl ⟨by rw[e,h1.1],h1.2⟩
 exact .inr ⟨k,h1,h2,h3,by rw[e,h4]⟩
def ZT{α:Type}(l:List α)(p:α->Bool)(c:Bool){body:Int->Unit->Option (fe Unit (Unit ⊕ Bool))}(h:∀k (hk:k<l.length),body (k:Int) ()=J (if p l[k]=Z then .go ()else .out (.inr c))):
 (aS body (λ_=>.inl ()) l.length 0 ()).bind (Sum.elim (λ_=>J (!c)) J)=J (if l.all p=Z then !c else c):=by
 rcases GL (body:=body) l.length (λk=>(l[k]?).any p) (λ_=>c) (λk hk=>by rw[h k hk,cE hk];rfl)with⟨e,h1⟩|⟨k,h1,h2,h3,e⟩
 ·rw[e]
  have:l.all p=Z:=by
   rw[bm];intro x hx;obtain⟨k,hk,rfl⟩:=KD.1 hx;have:=h1 k hk;rw[cE hk]at this;exact this
  rw[this];rfl
 rw[e]
 have:l.all p=aa:=by
  rw[yC];refine⟨l[k],e9 h1,?_⟩;rw[cE h1]at h2;simpa using h2
 rw[this];rfl
def Zv(l:List Int)(x:Int):Fc l x=J (l.contains x):=by
 unfold Fc
 have:=ZT l (λy=> !(y==x)) Z (body:=λi8 s7=>(ix l i8).bind λbG=>if(bG==x)=Z then J (.out (.inr Z))else J (.go ())) λk hk=>by
  rw[jx hk,aR];exact Sm _ _ _
 rw[show(!Z)=aa from rfl]at this;refine this.trans ?_;congr 1;cases hc:l.contains x with
 |true=>
  have hm:x∈l:=by simpa using hc
  have:(l.all λy=> !(y==x))=aa:=by
   rw[yC];exact⟨x,hm,by simp⟩
  rw[this];rfl
 |false=>
  have hm:¬x∈l:=by simpa using hc
  have:(l.all λy=> !(y==x))=Z:=by
   rw[bm];intro y hy;have:y≠x:=λe=>hm (e▸hy)
   simp[this]
  rw[this];rfl
def zA5(l:List Int)(x:Int):(FG l x=J (-1)/\¬x∈l)\/∃k,∃h:k<l.length,FG l x=J (k:Int)/\l[k]=x/\∀j (hj:j<k),l[j]'(by omega)≠x:=by
 unfold FG
 rcases GL l.length (λk=>(l[k]?).any λy=> !(x==y)) (λk=>(k:Int)) (body:=λi8 s7=>(ix l i8).bind λbG=>if(x==bG)=Z then J (.out (.inr i8))else J (.go ())) (λk hk=>by
  rw[jx hk,aR,cE hk]
  exact Sm _ _ _)with⟨e,h1⟩|⟨k,h1,h2,h3,e⟩
 ·refine .inl ⟨by rw[e];rfl,λhx=>?_⟩;obtain⟨k,hk,rfl⟩:=KD.1 hx;have:=h1 k hk;rw[cE hk]at this;simp at this
 refine .inr ⟨k,h1,by rw[e];rfl,?_,λj hj=>?_⟩
 ·rw[cE h1]at h2;simp at h2;exact h2.symm
 have:=h3 j hj;rw[cE (by omega)]at this;simp at this;exact λe=>this e.symm
def VB(l:List Int)(x:Int):G2 l x=J (l.contains x):=by
 unfold G2;rcases zA5 l x with⟨e,h⟩|⟨k,hk,e,h,_⟩
 ·rw[e];have:l.contains x=aa:=by simpa using h
  rw[this];rfl
 rw[e]
 have:l.contains x=Z:=by
  have:=e9 hk;rw[h]at this;simpa using this
 rw[this];simp
def zA8(l:List Int):Gk l=DZ l:=by
 unfold Gk DZ;simp only[Zv,VB]
open Classical in
noncomputable def n6(l:List Int):Bool:=decide l.Nodup
def VG{C:List Int->Int->Option Bool}(hC:∀l x,C l x=J (l.contains x))(l:List Int)(hl:l.length<=1000000000000):
 ((aS (σ:=Unit) (λi5 s4=>
 (ix l i5).bind λaU=>
 gd (0<=i5)<|
 gd (0<=i5.toNat/\i5.toNat<=l.length)<|
 (C ((l.take i5.toNat).drop 0) aU).bind λbH=>
 if bH=Z then(
 J (.out (.inr aa)))else(
 J (.go ()))) (λs4=>.inl ()) (l.length) 0 ():Option (Unit ⊕ Bool)).bind (Sum.elim (λx3=>
 J Z) J))=J (n6 l):=by
 rcases GL l.length (λk=>(l[k]?).any λy=> !(l.take k).contains y) (λ_=>aa) (body:=λi8 s7=>
  (ix l i8).bind λbG=>
  gd (0<=i8)<|
  gd (0<=i8.toNat/\i8.toNat<=l.length)<|
  (C ((l.take i8.toNat).drop 0) bG).bind λiT=>
  if iT=Z then(
  J (.out (.inr aa)))else(
  J (.go ()))) (λk hk=>by
   rw[jx hk,aR,eE (by omega),eE (by simp;omega),hC,cE hk,aR,dG,OA]
   exact Sm _ _ _)with⟨e,h1⟩|⟨k,h1,h2,h3,e⟩
 ·rw[e]
  have:n6 l=Z:=by
   unfold n6;rw[eC,Aci,Acj];intro i j hi hj SK e;have:=h1 j hj;rw[cE hj]at this
   have hm:l[j]∈l.take j:=by
    rw[<-e];exact KD.2 ⟨i,by simp;omega,by simp⟩
   have hc:(l.take j).contains l[j]=Z:=by simpa using hm
   simp only[Option.any_some,hc]at this;cases this
  rw[this];rfl
 rw[e]
 have:n6 l=aa:=by
  unfold n6;rw[wd,Aci,Acj];intro hd;rw[cE h1]at h2;have hc:(l.take k).contains l[k]=Z:=by simpa using h2
  have hm:l[k]∈l.take k:=by simpa using hc
  obtain⟨i,hi,e⟩:=KD.1 hm;simp at hi e;exact hd i k (by omega) h1 (by omega) e
 rw[this];rfl
def WM(l:List Int)(hl:l.length<=1000000000000):DZ l=J (n6 l):=VG VB l hl
def zxA(l:List Int)(hl:l.length<=1000000000000):Gk l=J (n6 l):=by rw[zA8,WM l hl]
def M0{p:Int->Bool}{f:Int->Option Bool}(hf:∀x∈l,f x=J (!p x)):
 ((((aS (σ:=Unit) (β:=Unit ⊕ Int) (λi8 s7=>(ix l i8).bind λbG=>(f bG).bind λoi=>if oi=Z then(J (.out (.inr i8)))else(J (.go ()))) (λs7=>.inl ()) (l.length) 0 ():Option (Unit ⊕ Int)).bind (Sum.elim (λ(x5:Unit)=>J (-1)) J)).bind λz1=>J (decide (0<=z1))).bind λz1=>J (!z1))=J (l.all p):=by
 rcases GL l.length (λk=>(l[k]?).any p) (λk=>(k:Int)) (body:=λi8 s7=>(ix l i8).bind λbG=>(f bG).bind λoi=>if oi=Z then(J (.out (.inr i8)))else(J (.go ()))) (λk hk=>by
  rw[jx hk,aR,hf _ (e9 hk),aR,cE hk]
  exact zFa _ _ _)with⟨e,h1⟩|⟨k,h1,h2,h3,e⟩
 ·rw[e]
  have:l.all p=Z:=by
   rw[bm];intro x hx;obtain⟨k,hk,rfl⟩:=KD.1 hx;have:=h1 k hk;rw[cE hk]at this;exact this
  rw[this];rfl
 rw[e]
 have:l.all p=aa:=by
  rw[yC];refine⟨l[k],e9 h1,?_⟩;rw[cE h1]at h2;simpa using h2
 rw[this];simp
def RK(x:Int):Bool:=decide (1<=x)&&decide (x<=7)
def dg(q:Nat):Nat->Nat->List Int
 |0,_=>[]
 |k+1,n=>((n%q:Nat):Int)::dg q k (n/q)
def evI(f:List Int)(x:Int):Int:=f.foldr (λc a=>a*x+c) 0
def zDn{c d:Int}(h:a%q=b%q)(h':c%q=d%q):(a+c)%q=(b+d)%q:=by rw[o8,h,h',<-o8]
structure Aa2 (q:Int) (QY:List Int):Prop where
 q8:7<q
 q2:q<=2000000000
 pr:Pr q.toNat
 bd:∀p∈QY,0<=p/\p<=7
 nd:QY.Nodup
 ln:QY.length<=10000000
def zus(k:ao gr)(c:an):Jz gr c=J (aK gr c.A&&aK gr c.B):=by
 unfold Jz;rw[LB k,LB k];cases aK gr c.A<;>simp
def zCP(k:ao gr)(m:Int):pW gr [m]=J (aK gr m):=by
 rw[xD k];simp
def yd(h:0<=gr.Q)(h2:gr.Q<=2000000000)(l:List Int):vf gr l=J (l.all (dn gr)):=by
 have h1:ND l gr=J (l.all (dn gr)):=M0 (f:=λx=>JL x gr) λx _=>by
  unfold JL;rw[zBf h h2];rfl
 unfold vf;rw[h1];rfl
def J0{a n:Nat}(h:a^n%p=1):a^(e%n)%p=a^e%p:=by
 have hp:1%p=1:=by rw[<-h,OE]
 conv=>rhs;rw[<-OB e n]
 rw[OG,o7,t6,qd (a^n),h,GB,hp,Kt,OE]
def ES(h:aK gr x=Z):1<=x/\x<=gr.P-1/\x.toNat^gr.Q.toNat%gr.P.toNat=1:=by
 unfold aK at h;simp only[bI,eC]at h;exact⟨h.1.1,h.1.2,h.2⟩
def Wh(k:ao gr)(h:aK gr x=Z){s l:Int}(hs:0<=s)(hl:0<=l):av gr (av gr x s) l=av gr x (s*l):=by
 obtain⟨_,_,h3⟩:=ES h;have hq:=k.q;obtain⟨a,rfl⟩:=fJ hs;obtain⟨b,rfl⟩:=fJ hl;obtain⟨n,hn⟩:=fJ (show 0<=gr.Q by omega);unfold av;rw[hn]at h3⊢;rw[dG]at h3;have e:∀c:Nat,((c:Int)%(n:Int)).toNat=c%n:=λc=>by rw[<-o6,dG]
 rw[zN,e,e,e,dG,J0 h3,J0 h3,<-qd,<-o7];congr 1;rw[o7,qd,J0 (n:=n) (e:=b)]
 ·rw[<-qd,<-o7]
 rw[<-qd,<-o7,wb,o7,qd,h3,GB,<-h3,OE]
def zCw(k:ao gr)(h0:0<=x)(h1:x<=2000000000):IW gr x=J (av gr x (-1)):=by
 have hq:=k.q;have hp:=k.p
 have e:(-1:Int)%gr.Q=gr.Q-1:=by
  have:=GC (-1) gr.Q 1;rw[<-this,Uy];rw[qe (by omega) (by omega)];omega
 unfold IW;rw[aI (by omega) (by omega),(pT h0 h1 (by omega) hp.2 (by omega) (by omega)).2];unfold av;rw[e];rfl
def RM(k:ao gr)(hb:0<=b)(fW:b<=2000000000)(h0:0<=x)(h1:x<=2000000000):BM gr b x=J (aP gr [b,av gr x (-1)]):=by
 have hp:=k.p;obtain⟨p1,p2⟩:=zR k x (-1);unfold BM Mi;rw[(Dr k h0 h1 _).1];simp only[aR];rw[AL k];rfl;intro y hy;simp only[fK,jf,jg]at hy;rcases hy with rfl|rfl<;>omega
structure Xi (gr:am) (c:an) (m:Int) (vh sh:List Int) (i:Int):Prop where
 k:ao gr
 q:7<gr.Q
 a:aK gr c.A=Z
 b:aK gr c.B=Z
 m:aK gr m=Z
 w:vh.all RK=Z
 d:n6 vh=Z
 l:sh.length=vh.length
 e:sh.all (dn gr)=Z
 i:RK i=Z
def Xi.lg{m:Int}{vh sh:List Int}(h:Xi gr c m vh sh i)(hl:vh.length<=1048576):Aa2 gr.Q ([0]++vh):=by
 have hq:=h.k.q;have hp:=h.k.p
 have hw:∀x∈vh,1<=x/\x<=7:=λx hx=>by
  have:=bm.1 h.w x hx;simpa[RK]using this
 have hd:vh.Nodup:=by simpa[n6]using h.d
 refine⟨h.q,by omega,h.k.pq,λp hp=>?_,?_,by simp;omega⟩
 ·rcases jY.1 hp with h1|h1
  ·rw[gB.1 h1];omega
  have:=hw p h1;omega
 show(0::vh).Nodup;refine Uz.2 ⟨λh0=>?_,hd⟩;have:=hw 0 h0;omega
structure Bt (code:List Int):Prop where
 b:∀x∈code,0<=x/\x<=255
 l:code.length<=1048576
structure Cu (code:List Int) (n:Int) (c:List Int×Int×Int):Prop where
 e:c.1=code
 lo:0<=c.2.1
 hi:c.2.1<=n
def Cu.mono{m:Int}{c:List Int×Int×Int}(h:Cu code n c)(hn:n<=m):Cu code m c:=⟨h.e,h.lo,Int.le_trans h.hi hn⟩
def UK(x:BitVec IntKind.u64.bits):0<=i64.wrap (IntKind.u64.wrap ((x&&&BitVec.ofInt IntKind.u64.bits 255).toNat:Int))/\i64.wrap (IntKind.u64.wrap ((x&&&BitVec.ofInt IntKind.u64.bits 255).toNat:Int))<=255:=by
 have hy:(x&&&BitVec.ofInt IntKind.u64.bits 255).toNat<=255:=by
  rw[Aaz];exact gj Nat.and_le_right (by decide)
 generalize (x&&&BitVec.ofInt IntKind.u64.bits 255).toNat=y at hy⊢;rw[wrU (by omega) (by omega),aI (by omega) (by omega)];omega
def VF(hb:Bt code)(h:Cu code n (c0,at_,dC))(hn:n<=9000000000000000):Rn (Dq c0 at_ dC) (λz=>0<=z.1/\z.1<=255/\Cu code (n+1) z.2):=by
 obtain⟨h1,h2,h3⟩:=h;have h1:c0=code:=h1;have h2:0<=at_:=h2;have h3:at_<=n:=h3;subst h1;have hw:i64.wrap (at_+1)=at_+1:=aI (by omega) (by omega);unfold Dq;refine ay (ψ:=λv=>0<=v/\v<=255) ?_ λv hv=>?_
 ·refine aZ (λg=>?_) λg=>aj (by omega)
  obtain⟨k,rfl⟩:=fJ h2;have hk:k<c0.length:=by simp at g;omega
  have:=hb.b _ (e9 hk);exact bD hk (aj (by rw[aI (by omega) (by omega)];exact this))
 simp only[hw];refine aZ (λg=>aj ⟨hv.1,hv.2,rfl,by show 0<=at_+1;omega,by show at_+1<=n+1;omega⟩) λg=>aj ?_
 exact⟨(UK _).1,(UK _).2,rfl,by show 0<=at_+1;omega,by show at_+1<=n+1;omega⟩
def jF{m:Int}(hb:Bt code)(h:Cu code n (c0,at_,dC))(hn:n<=8000000000000000):Rn (gH c0 at_ dC m) (λz=>0<=z.1/\(m<=1->z.1=0)/\(1<m->z.1<m)/\z.1<=65535/\Cu code (n+2) z.2):=by
 unfold gH;refine aZ (λg=>aj ⟨A1 0,λ_=>rfl,λh=>by simp at g;omega,by show(0:Int)<=_;omega,h.mono (by omega)⟩) λg=>?_
 have g:1<m:=by simpa using g
 refine ay (VF hb h (by omega)) λz ⟨z1,z2,z3⟩=>?_
 refine ay (ψ:=λx=>0<=x.2/\x.2<=65535/\Cu code (n+2) x.1) ?_ λx ⟨x1,x2,x3⟩=>?_
 ·refine aZ (λ_=>ay (VF hb z3 (by omega)) λy ⟨y1,y2,y3⟩=>aj ?_) λ_=>aj ⟨z1,by show z.1<=_;omega,z3.mono (by omega)⟩
  rw[aI (n:=z.1*256) (by omega) (by omega),aI (by omega) (by omega)];exact⟨by show 0<=z.1*256+y.1;omega,by show z.1*256+y.1<=_;omega,y3.mono (by omega)⟩
 refine aG (by omega) (aj ?_);rw[je x1];have b1:=nV x.2 (show m≠0 by omega);have b2:=sI x.2 (show 0<m by omega)
 have b3:x.2%m<=x.2:=by
  rcases Int.lt_or_le x.2 m with h|h
  ·rw[qe x1 h];exact A1 _
  ·omega
 exact⟨b1,λh=>by omega,λ_=>b2,by show x.2%m<=_;omega,x3⟩
def LD{m:Int}(hb:Bt code)(h:Cu code n (c0,at_,dC))(hn:n<=8000000000000000):Rn (zT c0 at_ dC m) (λz=>Cu code (n+2) z.2):=by
 unfold zT;exact ay (jF hb h hn) λz hz=>aj hz.2.2.2.2
def oB(hb:Bt code)(h:Cu code n (c0,at_,dC))(hn:n<=8000000000000000)(hl:l≠[]):Rn (pZ c0 at_ dC l) (λz=>z.1∈l/\Cu code (n+2) z.2):=by
 unfold pZ;refine ay (jF hb h hn) λz ⟨z1,z2,z3,z4,z5⟩=>?_
 have h0:0<l.length:=List.length_pos_iff.2 hl;obtain⟨k,hk⟩:=fJ z1
 have hlt:k<l.length:=by
  rcases dK 1 l.length with h|h
  ·have:=z3 (by omega);omega
  ·have:=z2 (by omega);omega
 rw[hk];exact bD hlt (aj ⟨e9 hlt,z5⟩)
def XZ{n d:Nat}(h:Pr n)(hd:d%n≠0):Nat.gcd n d=1:=by
 obtain⟨k,hk⟩:=Nat.gcd_dvd_left n d;have hn:=h.1;have h0:0<Nat.gcd n d:=Nat.gcd_pos_of_pos_left d (by omega);have Ca:=Nat.gcd_dvd_right n d;generalize Nat.gcd n d=g at hk h0 Ca;apply OH;intro hg;have Ct:2<=g:=by omega
 have Ak:2<=k:=by
  rcases dK k 2 with h|h
  ·have:k=0\/k=1:=by omega
   rcases this with rfl|rfl
   ·omega
   ·rw[Kv]at hk;rw[<-hk]at Ca;exact absurd (Acg Ca) hd
  ·exact h
 rcases Nat.le_total g k with h'|h'
 ·exact h.2 g Ct (by rw[hk];exact Oz g h') (by rw[hk];exact Nat.mul_mod_right g k)
 exact h.2 k Ak (by rw[hk];exact gA k h') (by rw[hk];exact Nat.mul_mod_left g k)
def DW{n:Nat}(h:Pr n)(nI:(a*b)%(n:Int)=0):a%(n:Int)=0\/b%(n:Int)=0:=by
 have h1:n∣a.natAbs*b.natAbs:=by
  rw[<-Int.natAbs_mul];exact AaD.1 (UA nI)
 by_cases ha:a.natAbs%n=0
 ·exact .inl (AaE (AaD.2 (Ux ha)))
 exact .inr (AaE (AaD.2 (Nat.Coprime.dvd_of_dvd_mul_left (XZ h ha) h1)))
def iQ(f:List Int)(x:Int):Int:=f.foldr (λc a=>a*x+c) 0
theorem Vf(c:Int)(f:List Int)(x:Int):iQ (c::f) x=iQ f x*x+c:=rfl
def n5(r:Int):List Int->List Int
 |[]=>[]
 |[_]=>[]
 |_::c::f=>iQ (c::f) r::n5 r (c::f)
theorem VY(r:Int):∀f:List Int,(n5 r f).length=f.length-1
 |[]=>rfl
 |[_]=>rfl
 |_::c::f=>by
  show(n5 r (c::f)).length+1=_;rw[VY r (c::f)];simp
theorem W1(r x:Int):∀f:List Int,iQ f x=iQ (n5 r f) x*(x-r)+iQ f r
 |[]=>by simp[n5,iQ]
 |[c]=>by simp[n5,iQ]
 |d::c::f=>by
  have ih:=W1 r x (c::f);show iQ (c::f) x*x+d=(iQ (n5 r (c::f)) x*x+iQ (c::f) r)*(x-r)+(iQ (c::f) r*r+d);rw[ih];grind
theorem WI(r:Int):∀f:List Int,2<=f.length->(n5 r f).getLastD 0=f.getLastD 0
 |[],h=>absurd h (by simp)
 |[_],h=>absurd h (by simp)
 |[d,c],_=>by simp[n5,iQ]
 |e::d::c::f,_=>by
  have ih:=WI r (d::c::f) (by simp);show(iQ (d::c::f) r::iQ (c::f) r::n5 r (c::f)).getLastD 0=_;have:n5 r (d::c::f)=iQ (c::f) r::n5 r (c::f):=rfl;rw[this]at ih;simpa[List.getLastD]using ih
theorem VH{p:Nat}(hp:Pr p):∀(n:Nat) (f:List Int),f.length=n+1->f.getLastD 0%(p:Int)≠0->∀rs:List Int,rs.Pairwise (λa b=>(b-a)%(p:Int)≠0)->(∀r∈rs,iQ f r%(p:Int)=0)->rs.length<=n
 |0,f,hl,hf,rs,hd,hr=>by
  match f,hl with
  |[c],_=>
   cases rs with
   |nil=>simp
   |cons r rs=>
    have:=hr r (p9 ..);simp[iQ]at this;exact absurd (by first|exact this|exact AaE this) (by simpa[List.getLastD]using hf)
 |n+1,f,hl,hf,rs,hd,hr=>by
  cases rs with
  |nil=>simp
  |cons r rs=>
   have h1:=List.pairwise_cons.1 hd
   have:=VH hp n (n5 r f) (by rw[VY];omega) (by rw[WI r f (by omega)];exact hf) rs h1.2 λs hs=>by
    have e:=W1 r s f;have lw:=hr s (nU _ hs);have dB:=hr r (p9 ..)
    have hm:(iQ (n5 r f) s*(s-r))%(p:Int)=0:=by
     rw[show iQ (n5 r f) s*(s-r)=iQ f s-iQ f r by omega,sH,lw,dB];simp
    rcases DW hp hm with h|h
    ·exact h
    ·exact absurd h (h1.1 s hs)
   simpa using this
def zyS(k:Nat)(x:Int):iQ (List.replicate k 0++[1]) x=x^k:=by
 induction k with
 |zero=>simp[iQ]
 |succ k ih=>rw[Acd,tZ,Vf,ih,AaF];omega
def Xd{n:Nat}(hp:Pr p)(hn:1<=n)(rs:List Int)(hd:rs.Pairwise (λa b=>(b-a)%(p:Int)≠0))(hr:∀r∈rs,r^n%(p:Int)=1):rs.length<=n:=by
 have h2:=hp.1;have wU:(1:Int)%(p:Int)=1:=qe (by omega) (by omega);obtain⟨k,rfl⟩:∃k,n=k+1:=⟨n-1,by omega⟩
 refine VH hp (k+1) (-1::(List.replicate k 0++[1])) (by simp) ?_ rs hd λr gY=>?_
 ·have:(-1::(List.replicate k (0:Int)++[1])).getLastD 0=1:=by
   rw[<-tZ,List.getLastD_concat]
  rw[this,wU];omega
 rw[Vf,zyS,<-AaF,o8,hr r gY]
 have:((-1:Int)%(p:Int))=p-1:=by
  have:=GC (-1) (p:Int) 1;rw[<-this,Uy,qe (by omega) (by omega)];omega
 rw[this,show 1+((p:Int)-1)=p by omega,Int.emod_self]
def zxC{n:Nat}(hp:Pr p)(hn:1<=n)(hnp:n<p-1):∃h:Nat,2<=h/\h<p/\h^n%p≠1:=by
 apply OH;intro hc;have h2:=hp.1
 have h1:∀h:Nat,1<=h->h<p->h^n%p=1:=λh a b=>by
  rcases dK h 2 with c|c
  ·have:h=1:=by omega
   subst this;rw[GB,nT (by omega)]
  ·exact OH λd=>hc ⟨h,c,b,d⟩
 have:=Xd hp hn ((List.range (p-1)).map λk=>((k+1:Nat):Int)) ?_ ?_
 ·simp at this;omega
 ·rw[UB];refine AaG ?_ Ack;intro a b ha hb nI;have hb:=kp.1 hb;rw[show((b+1:Nat):Int)-((a+1:Nat):Int)=((b-a:Nat):Int)by omega,<-o6,nT (by omega)];omega
 intro r hr;obtain⟨k,hk,rfl⟩:=jE.1 hr;have hk:=kp.1 hk;rw[<-UC,<-o6,h1 (k+1) (by omega) (by omega)];rfl
structure Gs (gr:am):Prop where
 p:0<=gr.P/\gr.P<=2000000000
 q:0<=gr.Q/\gr.Q<=1000000000
 g:0<=gr.G/\gr.G<=2000000000
def zC9{q:Nat}(hq:2<=q):((1+(k:Int)*(q:Int))-1).tdiv (q:Int)=(k:Int):=by
 rw[show(1+(k:Int)*(q:Int))-1=(k:Int)*(q:Int)by omega,Acl _ (by omega)]
def X2{q:Nat}(cN:q<=1000000):Rn (uc (q:Int)) (λz=>Gs z.1/\(z.2=Z->z.1.Q=q/\3<=z.1.P)/\(∀k:Nat,1<=k->Pr (1+k*q)->1+k*q<=2000000000->Pr q->z.2=Z)):=by
 unfold uc;refine ay (ψ:=λb=>b= !(decide (2<=q)&&kU (q:Int))) ?_ ?_
 ·refine ag (rZ _ _ _) ?_;by_cases h:2<=q
  ·refine bt (by simp;omega) (ag (Dy _ (by omega)) (aj ?_));simp[h]
  refine fU (by simp;omega) (aj ?_);simp[h]
 rintro _ rfl;cases hc:(decide (2<=q)&&kU (q:Int))
 ·refine fU rfl (aj ⟨⟨⟨by decide,by decide⟩,⟨by decide,by decide⟩,by decide,by decide⟩,λh=>(by cases h),λk h1 h2 h3 h4=>?_⟩);rw[mX.2 h4]at hc;have:=h4.1;simp at hc;omega
 have hq:2<=q:=by simp at hc;exact hc.1
 have pu:Pr q:=by simp at hc;exact mX.1 hc.2
 refine bt rfl ?_;refine ay (ψ:=λb=>(b=.inl ()/\∀k:Nat,1<=k->Pr (1+k*q)->¬1+k*q<=2000000000)\/∃z:am×Bool,b=.inr z/\Gs z.1/\z.2=Z/\z.1.Q=q/\3<=z.1.P) ?_ ?_
 ·rw[aI (by omega) (by omega)];refine tH (λs=>∃k:Nat,1<=k/\s=1+(k:Int)*(q:Int)/\s<=2001000001/\∀j:Nat,1<=j->j<k->¬Pr (1+j*q)) (λs=>(2001000001-s).toNat) ⟨1,by omega,by omega,by omega,λj h1 h2=>by omega⟩ ?_;rintro s ⟨k,hk,rfl,hs,hn⟩;have hkq:k*2<=k*q:=Oz k hq;have hkc:(k:Int)*(q:Int)=((k*q:Nat):Int):=zN k q;refine aZ (λg=>?_) λg=>?_
  ·have g:1+(k:Int)*(q:Int)<=2000000000:=by simpa using g
   refine ag (Dy _ (by omega)) ?_;have Sk:1+(k:Int)*(q:Int)=((1+k*q:Nat):Int):=by omega
   cases hp:kU (1+(k:Int)*(q:Int))
   ·refine fU rfl (aj ?_)
    have e:i64.wrap (1+(k:Int)*(q:Int)+(q:Int))=1+((k+1:Nat):Int)*(q:Int):=by
     rw[aI (by omega) (by omega)];grind
    refine⟨⟨k+1,by omega,e,by rw[aI (by omega) (by omega)];omega,λj h1 h2=>?_⟩,?_⟩
    ·rcases dK j k with h|h
     ·exact hn j h1 h
     have:j=k:=by omega
     subst this;intro eS;rw[Sk,mX.2 eS]at hp;cases hp
    rw[aI (by omega) (by omega)];omega
   refine bt rfl ?_;have eS:Pr (1+k*q):=by rw[Sk]at hp;exact mX.1 hp
   obtain⟨h0,a1,a2,a3⟩:=zxC eS hk (by omega)
   have Ca:i64.wrap ((i64.wrap (1+(k:Int)*(q:Int)-1)).tdiv (q:Int))=(k:Int):=by
    rw[aI (n:=1+(k:Int)*(q:Int)-1) (by omega) (by omega),zC9 hq,aI (by omega) (by omega)]
   simp only[Ca];simp only[Sk];refine ay (ψ:=λh=>2<=h/\h<=(h0:Int)) (tH (λs=>2<=s/\s<=(h0:Int)) (λs=>(h0-s).toNat) (by omega) ?_) ?_
   ·rintro s ⟨s1,s2⟩;have CW:=(pT (a:=s) (e:=(k:Int)) (m:=((1+k*q:Nat):Int)) (by omega) (by omega) (by omega) (by omega) (by omega) (by omega)).2;refine aG (by omega) (ag CW ?_);refine aZ (λg=>aj ?_) λg=>aj ⟨s1,s2⟩
    rw[aI (by omega) (by omega)]
    have hne:s≠(h0:Int):=λe=>by
     subst e;apply a3;have g:((((h0:Int).toNat^(k:Int).toNat%((1+k*q:Nat):Int).toNat:Nat)):Int)=1:=by simpa only[v9]using g
     rw[dG,dG,dG]at g;omega
    refine⟨⟨by omega,by omega⟩,?_⟩;omega
   rintro h ⟨s1,s2⟩;have CW:=(pT (a:=h) (e:=(k:Int)) (m:=((1+k*q:Nat):Int)) (by omega) (by omega) (by omega) (by omega) (by omega) (by omega)).2;refine aG (by omega) (ag CW (aj ?_))
   have hlt:h.toNat^(k:Int).toNat%((1+k*q:Nat):Int).toNat<1+k*q:=by
    rw[dG (1+k*q)];exact mM _ (by omega)
   refine .inr ⟨_,rfl,⟨⟨by show(0:Int)<=((1+k*q:Nat):Int);omega,by show((1+k*q:Nat):Int)<=_;omega⟩,⟨by show(0:Int)<=(q:Int);omega,by show(q:Int)<=_;omega⟩,?_,?_⟩,rfl,rfl,by show(3:Int)<=((1+k*q:Nat):Int);omega⟩
   ·show(0:Int)<=((_:Nat):Int);omega
   show((_:Nat):Int)<=2000000000;omega
  refine aj (.inl ⟨rfl,λj h1 h2 h3=>?_⟩);have g:¬1+(k:Int)*(q:Int)<=2000000000:=by simpa using g
  rcases dK j k with h|h
  ·exact hn j h1 h h2
  have:k*q<=j*q:=gA q h;omega
 rintro b (⟨rfl,h⟩|⟨z,rfl,h1,h2,h3,h4⟩)
 ·exact aj ⟨⟨⟨by decide,by decide⟩,⟨by decide,by decide⟩,by decide,by decide⟩,λh=>(by cases h),λk h1 h2 h3 h4=>absurd h3 (h k h1 h2)⟩
 exact aj ⟨h1,λ_=>⟨h3,h4⟩,λ_ _ _ _ _=>h2⟩
def nw{n:Nat}(hn:n<64)(h2:2<=n)(h:∀d,d<8->2<=d->d*d<=n->n%d≠0):Pr n:=by
 refine⟨h2,λd h1 h3=>?_⟩;rcases dK d 8 with h8|h8
 ·exact h d h8 h1 h3
 have:8*8<=d*d:=ri h8 h8;omega
structure Gw (gr:am):Prop where
 p: -10<=gr.P/\gr.P<=2100000000
 q: -10<=gr.Q/\gr.Q<=2100000000
 g: -10<=gr.G/\gr.G<=2100000000
def Gs.w(h:Gs gr):Gw gr:=⟨by have:=h.p;omega,by have:=h.q;omega,by have:=h.g;omega⟩
def zCV(hx:x∈[(3:Int),5,5,7,11,11,13,23]):∃q k:Nat,x=(q:Int)/\3<=q/\q<=23/\1<=k/\Pr (1+k*q)/\1+k*q<=2000000000/\Pr q:=by
 simp only[fK,jf,jg]at hx;rcases hx with rfl|rfl|rfl|rfl|rfl|rfl|rfl|rfl
 ·exact⟨3,2,rfl,by decide,by decide,by decide,nw (by decide) (by decide) (by decide),by decide,nw (by decide) (by decide) (by decide)⟩
 ·exact⟨5,2,rfl,by decide,by decide,by decide,nw (by decide) (by decide) (by decide),by decide,nw (by decide) (by decide) (by decide)⟩
 ·exact⟨5,2,rfl,by decide,by decide,by decide,nw (by decide) (by decide) (by decide),by decide,nw (by decide) (by decide) (by decide)⟩
 ·exact⟨7,4,rfl,by decide,by decide,by decide,nw (by decide) (by decide) (by decide),by decide,nw (by decide) (by decide) (by decide)⟩
 ·exact⟨11,2,rfl,by decide,by decide,by decide,nw (by decide) (by decide) (by decide),by decide,nw (by decide) (by decide) (by decide)⟩
 ·exact⟨11,2,rfl,by decide,by decide,by decide,nw (by decide) (by decide) (by decide),by decide,nw (by decide) (by decide) (by decide)⟩
 ·exact⟨13,4,rfl,by decide,by decide,by decide,nw (by decide) (by decide) (by decide),by decide,nw (by decide) (by decide) (by decide)⟩
 exact⟨23,2,rfl,by decide,by decide,by decide,nw (by decide) (by decide) (by decide),by decide,nw (by decide) (by decide) (by decide)⟩
def zCJ(hb:Bt code)(h:Cu code n (c0,at_,dC))(hn:n<=7000000000000000):Rn (FI c0 at_ dC) (λz=>Gs z.1/\3<=z.1.Q/\z.1.Q<=23/\3<=z.1.P/\Cu code (n+2) z.2):=by
 unfold FI;refine ay (oB hb h (by omega) (by simp)) λz ⟨z1,z2⟩=>?_
 obtain⟨q,k,e,q1,q2,k1,k2,k3,k4⟩:=zCV z1;rw[e];refine ay (X2 (by omega)) λy ⟨y1,y2,y3⟩=>aj ?_
 have y4:=y2 (y3 k k1 k2 k3 k4);exact⟨y1,by show 3<=y.1.Q;omega,by show y.1.Q<=23;omega,y4.2,z2⟩
def zB5(h:Gs gr)(hq:1<=gr.Q)(hp:1<=gr.P)(hx:0<=x/\x<=2000000000)(e:Int):Rn (cC gr x e) (λv=>0<=v/\v<=2000000000):=by
 have h1:=h.p;have h2:=h.q;have b1:0<=e%gr.Q:=nV _ (by omega);have b2:e%gr.Q<gr.Q:=sI _ (by omega);have hw:=(pT (a:=x) (e:=e%gr.Q) (m:=gr.P) (by omega) (by omega) (by omega) (by omega) b1 (by omega)).2;unfold cC;refine ag (BQ (by omega) (by omega)) (ag hw (aj ?_));have hlt:x.toNat^(e%gr.Q).toNat%gr.P.toNat<gr.P.toNat:=mM _ (by omega);omega
def zEK(hx:x∈[(101:Int),1009,1019,65537,999983]):∃q:Nat,x=(q:Int)/\q<=1000000:=by
 simp only[fK,jf,jg]at hx;rcases hx with rfl|rfl|rfl|rfl|rfl
 ·exact⟨101,rfl,by decide⟩
 ·exact⟨1009,rfl,by decide⟩
 ·exact⟨1019,rfl,by decide⟩
 ·exact⟨65537,rfl,by decide⟩
 exact⟨999983,rfl,by decide⟩
def zDH:Gs (am.mk 1000000007 500000003 4):=⟨⟨by decide,by decide⟩,⟨by decide,by decide⟩,by decide,by decide⟩
def Xf(code:List Int):Cu code 0 (code,0,0):=⟨rfl,A1 0,A1 0⟩
def SF(hb:Bt code)(h:Cu code n (c0,at_,dC))(hn:n<=6000000000000000):Rn (zK c0 at_ dC) (λz=>Gs z.1/\Cu code (n+6) z.2):=by
 unfold zK;refine ay (jF hb h (by omega)) λz ⟨z1,z2,z3,z4,z5⟩=>?_
 refine aZ (λ_=>aj ⟨zDH,z5.mono (by omega)⟩) λ_=>aZ (λ_=>?_) λ_=>?_
 ·refine ay (oB hb z5 (by omega) (by simp)) λy ⟨y1,y2⟩=>?_
  obtain⟨q,e,hq⟩:=zEK y1;rw[e];exact ay (X2 hq) λx ⟨x1,_,_⟩=>aj ⟨x1,y2.mono (by omega)⟩
 refine ay (zCJ hb z5 (by omega)) λy ⟨y1,y2,y3,y4,y5⟩=>?_
 refine ay (jF hb y5 (by omega)) λx ⟨x1,x2,x3,x4,x5⟩=>?_
 have hg:=y1.g;refine ay (zB5 y1 (by omega) (by omega) hg _) λv hv=>aj ⟨⟨y1.p,y1.q,hv⟩,x5.mono (by omega)⟩
def zv1(hb:Bt code)(h:Cu code n (c0,at_,dC))(hn:n<=5000000000000000):Rn (CC c0 at_ dC) (λz=>Gw z.1/\Cu code (n+10) z.2):=by
 unfold CC;refine ay (SF hb h (by omega)) λz ⟨z1,z2⟩=>?_
 have g1:=z1.p;have g2:=z1.q;have g3:=z1.g;refine ay (jF hb z2 (by omega)) λy ⟨_,_,_,_,y5⟩=>?_
 rw[aI (n:=z.1.P+2) (by omega) (by omega),aI (n:=z.1.Q+1) (by omega) (by omega),aI (n:=z.1.P-1) (by omega) (by omega),aI (n:=z.1.G+1) (by omega) (by omega)];refine ay (ψ:=λx=>Gw (am.mk x.2.1 x.2.2.1 x.2.2.2)/\Cu code (n+10) x.1) ?_ λx hx=>aj hx
 refine aZ (λ_=>?_) λ_=>aZ (λ_=>?_) λ_=>aZ (λ_=>?_) λ_=>aj ⟨z1.w,y5.mono (by omega)⟩
 ·refine ay (oB hb y5 (by omega) (by simp)) λx ⟨x1,x2⟩=>aj ⟨?_,x2.mono (by omega)⟩
  simp only[fK,jf,jg]at x1;exact⟨by show-10<=x.1/\x.1<=_;omega,by show-10<=z.1.Q/\z.1.Q<=_;omega,by show-10<=z.1.G/\z.1.G<=_;omega⟩
 ·refine ay (oB hb y5 (by omega) (by simp)) λx ⟨x1,x2⟩=>aj ⟨?_,x2.mono (by omega)⟩
  simp only[fK,jf,jg]at x1;exact⟨by show-10<=z.1.P/\z.1.P<=_;omega,by show-10<=x.1/\x.1<=_;omega,by show-10<=z.1.G/\z.1.G<=_;omega⟩
 refine ay (oB hb y5 (by omega) (by simp)) λx ⟨x1,x2⟩=>aj ⟨?_,x2.mono (by omega)⟩
 simp only[fK,jf,jg]at x1;exact⟨by show-10<=z.1.P/\z.1.P<=_;omega,by show-10<=z.1.Q/\z.1.Q<=_;omega,by show-10<=x.1/\x.1<=_;omega⟩
def SJ(hb:Bt code)(h:Cu code n (c0,at_,dC))(hn:n<=7000000000000000)(hg:gr.Q<=2100000000):Rn (Ci c0 at_ dC gr) (λz=>0<=z.1/\z.1<=2100000000/\(2<=gr.Q->z.1<gr.Q)/\Cu code (n+4) z.2):=by
 unfold Ci;refine aZ (λg=>aj ⟨A1 0,by show(0:Int)<=_;omega,λh=>by simp at g;omega,h.mono (by omega)⟩) λg=>?_
 have g:2<=gr.Q:=by simp at g;omega
 refine ay (jF hb h (by omega)) λz ⟨z1,z2,z3,z4,z5⟩=>?_
 refine ay (jF hb z5 (by omega)) λy ⟨y1,y2,y3,y4,y5⟩=>aG (by omega) (aj ?_)
 rw[aI (n:=z.1*60000) (by omega) (by omega),aI (by omega) (by omega),je (by omega)];have b1:=nV (z.1*60000+y.1) (show gr.Q≠0 by omega);have b2:=sI (z.1*60000+y.1) (show 0<gr.Q by omega);exact⟨b1,by show _%gr.Q<=_;omega,λ_=>b2,y5.mono (by omega)⟩
def VM(hb:Bt code)(h:Cu code n (c0,at_,dC))(hn:n<=6000000000000000)(hg:Gw gr):Rn (Fm c0 at_ dC gr) (λz=>-100<=z.1/\z.1<=2100000000/\Cu code (n+6) z.2):=by
 have g2:=hg.q;unfold Fm;refine ay (LD hb h (by omega)) λz z1=>?_
 rw[aI (by omega) (by omega)];refine aZ (λ_=>?_) λ_=>?_
 ·refine ay (oB hb z1 (by omega) (by simp)) λy ⟨y1,y2⟩=>aj ?_
  simp only[fK,jf,jg]at y1;exact⟨by show-100<=y.1;omega,by show y.1<=_;omega,y2.mono (by omega)⟩
 exact ay (SJ hb z1 (by omega) (by omega)) λy ⟨y1,y2,_,y3⟩=>aj ⟨by show-100<=y.1;omega,y2,y3.mono (by omega)⟩
def zBr(hb:Bt code)(h:Cu code n (c0,at_,dC))(hn:n<=5000000000000000)(hg:Gw gr)(hk:k<=1000000):Rn (J3 c0 at_ dC gr (k:Int)) (λz=>z.1.length=k/\(∀x∈z.1,0<=x/\x<=2100000000/\(2<=gr.Q->x<gr.Q))/\Cu code (n+4*k) z.2):=by
 unfold J3;refine ay (ψ:=λr=>r.2.length=k/\(∀x∈r.2,0<=x/\x<=2100000000/\(2<=gr.Q->x<gr.Q))/\Cu code (n+4*k) r.1) (kx k (λj s=>s.2.1=(k:Int)-j/\s.2.2.length=j/\(∀x∈s.2.2,0<=x/\x<=2100000000/\(2<=gr.Q->x<gr.Q))/\Cu code (n+4*j) s.1) ⟨by show(k:Int)=_;omega,rfl,by simp,h.mono (by omega)⟩ ?_ ?_) λr hr=>aj hr
 ·rintro j s hj ⟨h1,h2,h3,h4⟩;refine fU (by rw[h1];simp;omega) (ay (SJ hb h4 (by omega) hg.q.2) λz ⟨z1,z2,z3,z4⟩=>aG (by omega) (aj ⟨?_,by simp[h2],λx hx=>?_,z4.mono (by omega)⟩))
  ·show i64.wrap (s.2.1-1)=_;rw[h1,aI (by omega) (by omega)];omega
  rcases jY.1 hx with h|h
  ·exact h3 x h
  rw[gB.1 h];exact⟨z1,z2,z3⟩
 rintro s ⟨h1,h2,h3,h4⟩;exact bt (by rw[h1];simp) (aj ⟨h2,h3,h4⟩)
def XQ{a:Nat}(hp:2<=p){m:Nat}(h:a^m%p=1)(k r:Nat):a^(m*k+r)%p=a^r%p:=by
 rw[OG,o7,t6,qd (a^m),h,GB,nT (show 1<p by omega),Kt,OE]
def zBt{a:Nat}(hp:2<=p):∀m n,a^m%p=1->a^n%p=1->a^(Nat.gcd m n)%p=1:=by
 intro m n;induction m,n using Nat.gcd.induction with
 |H0 n=>intro _ h;simpa using h
 |H1 m n hm ih=>
  intro h1 h2;rw[Nat.gcd_rec];refine ih ?_ h1;rw[<-XQ hp h1 (n/m) (n%m),OB];exact h2
def zBn{a q:Nat}(hp:2<=p)(hq:Pr q)(ha:a^q%p=1)(Pu:a%p≠1){i j:Nat}(SK:i<j)(hj:j<q):a^i%p≠a^j%p:=by
 intro e
 have h1:a^(j-i)%p=1:=by
  have e1:a^(j-i)%p=a^(q*1+(j-i))%p:=(XQ hp ha 1 (j-i)).symm;rw[e1,show q*1+(j-i)=j+(q-i)by omega,OG,t6,<-e,<-t6,<-OG,show i+(q-i)=q by omega];exact ha
 have h2:=zBt hp q (j-i) ha h1;rw[XZ hq (by rw[nT (by omega)];omega),Nat.pow_one]at h2;exact Pu h2
def Ty(h:aK gr x=Z):x.toNat^gr.Q.toNat%gr.P.toNat=1:=by
 simp only[aK,bI,eC]at h;exact h.2
def Yn(k:ao gr)(h:aK gr x=Z):x.toNat<gr.P.toNat/\1<=x.toNat:=by
 have:=qF h;have:=k.p;omega
def zCo(k:ao gr)(hh:aK gr h=Z)(h1:h≠1)(hx:aK gr x=Z):∃s:Nat,h.toNat^s%gr.P.toNat=x.toNat:=by
 have hp2:2<=gr.P.toNat:=by have:=k.p;omega
 have hb:=Yn k hh;have Mw:=Yn k hx;have Pu:h.toNat%gr.P.toNat≠1:=by rw[nT hb.1];have:=qF hh;omega
 apply OH;intro hn;have Jl:∀s:Nat,h.toNat^s%gr.P.toNat≠x.toNat:=λs e=>hn ⟨s,e⟩
 have key:∀a b:Nat,a<gr.P.toNat->b<gr.P.toNat->a≠b->((b:Int)-(a:Int))%(gr.P.toNat:Int)≠0:=by
  intro a b ha gE nI he;have h3:((gr.P.toNat:Nat):Int)∣(b:Int)-(a:Int):=UA he;obtain⟨c,hc⟩:=h3;rcases Int.lt_trichotomy c 0 with h4|h4|h4
  ·have:(gr.P.toNat:Int)*c<=(gr.P.toNat:Int)*(-1):=UD (by omega) (by omega);omega
  ·subst h4;simp at hc;omega
  ·have:(gr.P.toNat:Int)*1<=(gr.P.toNat:Int)*c:=UD (by omega) (by omega);omega
 have hlt:∀s,h.toNat^s%gr.P.toNat<gr.P.toNat:=λs=>mM _ (by omega)
 have hlen:=Xd (p:=gr.P.toNat) (n:=gr.Q.toNat) k.pp (by have:=k.q;omega) ((x.toNat:Int)::(List.range gr.Q.toNat).map λi=>((h.toNat^i%gr.P.toNat:Nat):Int)) ?_ ?_
 ·simp at hlen;omega
 ·rw[List.pairwise_cons];refine⟨λy hy=>?_,?_⟩
  ·obtain⟨i,hi,rfl⟩:=jE.1 hy;exact key _ _ Mw.1 (hlt i) λe=>Jl i e.symm
  rw[UB];refine AaG ?_ Ack;intro i j hi hj SK;exact key _ _ (hlt i) (hlt j) (zBn hp2 k.pq (Ty hh) Pu SK (kp.1 hj))
 intro r hr;rcases fK.1 hr with rfl|hr
 ·have:=Ty hx;rw[<-UC,<-o6,this];rfl
 obtain⟨i,hi,rfl⟩:=jE.1 hr
 have h5:(h.toNat^i%gr.P.toNat)^gr.Q.toNat%gr.P.toNat=1:=by
  rw[<-qd,<-o7,wb,o7,qd,Ty hh,GB,nT (by omega)]
 rw[<-UC,<-o6,h5];rfl
def Yd(h0:0<q)(h1:q<=4000000000000000000):qk a q=J (a%q):=by
 unfold qk;rw[eE (by omega),eE (by omega)];have b1:a.tmod q<q:=Us a h0
 have b2: -q<a.tmod q:=by
  have:=Ut a h0;omega
 rw[aI (by omega) (by omega),je (by omega)];congr 1;rw[Uu];rw[AaB,sH,AaC,Uv,eM]
def zvt(a:Int){m:Int}(h:0<m): -m<a.tmod m/\a.tmod m<m:=by
 have h1:=Us a h;have h2:=Ut a h;omega
def zyl(a:Int){e m:Int}(h1:1<=m)(h2:0<=e)(h3:e<=4000000000000000000):Rn (kW a e m) (λv=>-m<v/\v<m):=by
 unfold kW;refine aG (by omega) (ay (ψ:=λv=>-m<v/\v<m) (tH (λs=>(-m<s.2.2/\s.2.2<m)/\0<=s.2.1/\s.2.1<=e) (λs=>s.2.1.toNat) ⟨zvt _ (by omega),h2,A1 _⟩ ?_) λx hx=>aj hx);rintro s ⟨hs,h4,h5⟩;refine aZ (λg=>?_) λ_=>aj hs
 have g:0<s.2.1:=by simpa using g
 refine ay (ψ:=λv=>-m<v/\v<m) (aZ (λ_=>aG (by omega) (aj (zvt _ (by omega)))) λ_=>aj hs) λx hx=>aG (by omega) (aj ?_)
 have e1:s.2.1.tdiv 2=s.2.1/2:=Uo (by omega);have e2:i64.wrap (s.2.1.tdiv 2)=s.2.1/2:=by rw[e1,aI (by omega) (by omega)]
 exact⟨⟨hx,by show 0<=i64.wrap _;rw[e2];omega,by show i64.wrap _<=e;rw[e2];omega⟩,by show(i64.wrap _).toNat<_;rw[e2];omega⟩
def zBT(hq:1<=gr.Q/\gr.Q<=4000000000000000000)(hp:1<=gr.P)(x e:Int):Rn (cC gr x e) (λv=>-gr.P<v/\v<gr.P):=by
 unfold cC;refine ag (Yd (by omega) hq.2) (ay (zyl x hp (nV _ (by omega)) ?_) λv hv=>aj hv);have:=sI e (show 0<gr.Q by omega);omega
def QA(hb:Bt code)(h:Cu code n (c0,at_,dC))(hn:n<=6000000000000000)(hg:Gw gr):Rn (CZ c0 at_ dC gr) (λz=>-2200000000<=z.1/\z.1<=2200000000/\Cu code (n+4) z.2):=by
 have g1:=hg.p;have g2:=hg.q;unfold CZ;refine ay (ψ:=λb=>b=aa->3<=gr.P/\1<=gr.Q) (aZ (λ_=>aj λh=>by cases h) λa=>aj λb=>by simp at a b;omega) λb gE=>aZ (λ_=>aj ⟨by show-2200000000<=(1:Int);decide,by show(1:Int)<=_;decide,h.mono (by omega)⟩) λe=>?_
 obtain⟨k1,k2⟩:=gE e;refine ag (Yd (by omega) (by omega)) (ay (SJ hb h (by omega) (by omega)) λz ⟨z1,z2,_,z3⟩=>ay (zBT ⟨k2,by omega⟩ (by omega) _ _) λv hv=>aj ⟨by show _<=v;omega,by show v<=_;omega,z3⟩)
def HW(hb:Bt code)(h:Cu code n (c0,at_,dC))(hn:n<=5000000000000000)(hg:Gw gr):Rn (xA c0 at_ dC gr) (λz=>-2200000000<=z.1/\z.1<=2200000000/\Cu code (n+6) z.2):=by
 have g1:=hg.p;unfold xA;refine ay (LD hb h (by omega)) λz z1=>aZ (λ_=>?_) λ_=>ay (QA hb z1 (by omega) hg) λy ⟨y1,y2,y3⟩=>aj ⟨y1,y2,y3.mono (by omega)⟩
 rw[aI (n:=gr.P-1) (by omega) (by omega)];refine ay (oB hb z1 (by omega) (by simp)) λy ⟨y1,y2⟩=>aj ?_
 simp only[fK,jf,jg]at y1;exact⟨by show-2200000000<=y.1;omega,by show y.1<=_;omega,y2.mono (by omega)⟩
def b8(gr:am)(c:an):Bool:=aK gr c.A&&aK gr c.B
def zB1(k:ao gr)(h:b8 gr c=Z):0<=c.A/\c.A<=2000000000/\0<=c.B/\c.B<=2000000000:=by
 simp only[b8,bI]at h;have h1:=qF h.1;have h2:=qF h.2;have hp:=k.p;omega
def zCs(k:ao gr)(l:List an):Rn (GJ l gr.P gr.Q gr.G) (λx=>(x=-1/\l.all (b8 gr)=Z)\/(0<=x/\l.all (b8 gr)=aa)):=by
 unfold GJ;refine ay (ψ:=λx=>(x=.inl ()/\l.all (b8 gr)=Z)\/(∃j:Nat,x=.inr (j:Int)/\l.all (b8 gr)=aa)) (d7 (λn _=>∀m,m<n->∀h:m<l.length,b8 gr l[m]=Z) (λm hm=>by omega) ?_ λs hs=>.inl ⟨rfl,?_⟩) ?_
 ·rintro n s hn hI;refine bD hn ?_;unfold MP;refine ay (ψ:=λb=>b= !b8 gr l[n]) (ag (zus k l[n]) (aj rfl)) ?_;rintro _ rfl;refine aZ (λh=>aj (.inr ⟨n,rfl,?_⟩)) λh=>aj λm hm hl=>?_
  ·rw[yC];exact⟨l[n],e9 hn,by simpa using h⟩
  rcases dK m n with h1|h1
  ·exact hI m h1 hl
  have:m=n:=by omega
  subst this;simpa using h
 ·rw[bm];intro x hx;obtain⟨m,hm,rfl⟩:=KD.1 hx;exact hs m hm hm
 rintro x (⟨rfl,h⟩|⟨j,rfl,h⟩)
 ·exact aj (.inl ⟨rfl,h⟩)
 exact aj (.inr ⟨by show(0:Int)<=(j:Int);omega,h⟩)
def zs9(k:ao gr)(l:List an):GS gr l=J (decide (l.length<=24)&&l.all (b8 gr)):=by
 unfold GS;refine bE (ay (ψ:=λb=>b=(decide (l.length<=24)&&l.all (b8 gr))) (aZ (λh=>?_) λh=>aj ?_) λb hb=>aj hb)
 ·have h:l.length<=24:=by simp at h;omega
  unfold Lu;refine ay (ψ:=λb=>b= !l.all (b8 gr)) (ay (zCs k l) λx hx=>aj ?_) ?_
  ·rcases hx with⟨rfl,h⟩|⟨h0,h⟩
   ·rw[h];rfl
   rw[h];simpa using h0
  rintro _ rfl;exact aj (by simp[h])
 have h:¬l.length<=24:=by simp at h;omega
 simp[h]
def UV(k:ao gr)(l:List an):F3 gr l=J (decide (l.length<=24)&&l.all (b8 gr)):=by
 unfold F3;by_cases h:24<(l.length:Int)
 ·rw[aB (by simpa using h)];have h:¬l.length<=24:=by omega
  simp[h]
 rw[az (by simpa using h)];refine(ZT l (b8 gr) aa (λn hn=>?_)).trans ?_
 ·rw[jx hn,aR,xD k,aR];have e:([l[n].A,l[n].B].all (aK gr))=b8 gr l[n]:=by simp[b8]
  rw[e];cases b8 gr l[n]<;>rfl
 have h:l.length<=24:=by omega
 cases l.all (b8 gr)<;>simp[h]
def zyO(hb:Bt code)(h:Cu code n (c0,at_,dC))(hn:n<=4000000000000000)(hg:Gw gr):Rn (Ic c0 at_ dC gr) (λz=>Cu code (n+8) z.2):=by
 unfold Ic;exact ay (QA hb h (by omega) hg) λz ⟨_,_,z3⟩=>ay (QA hb z3 (by omega) hg) λy ⟨_,_,y3⟩=>aj (y3.mono (by omega))
def zuF(hb:Bt code)(h:Cu code n (c0,at_,dC))(hn:n<=4000000000000000)(hg:Gw gr):Rn (Jr c0 at_ dC gr) (λz=>Cu code (n+12) z.2):=by
 unfold Jr;exact ay (HW hb h (by omega) hg) λz ⟨_,_,z3⟩=>ay (HW hb z3 (by omega) hg) λy ⟨_,_,y3⟩=>aj (y3.mono (by omega))
def zDx(hb:Bt code)(h:Cu code n (c0,at_,dC))(hn:n<=4000000000000000)(hk:k<=1000):Rn (Hi c0 at_ dC (k:Int)) (λz=>z.1.length=k/\Cu code (n+2*k+2) z.2):=by
 unfold Hi;refine ay (ψ:=λl=>l.length=k) (kx k (λj s=>s.2=(j:Int)/\s.1.length=j) ⟨rfl,rfl⟩ ?_ ?_) λl hl=>?_
 ·rintro j ⟨l,i⟩ hj ⟨h1,h2⟩;have h1:i=(j:Int):=h1;have h2:l.length=j:=h2;subst h1;refine fU (by simp;omega) (aG (by dsimp only;omega) (aj ⟨?_,by simp[h2]⟩));show i64.wrap ((j:Int)+1)=_;rw[aI (by omega) (by omega)];push_cast;rfl
 ·rintro⟨l,i⟩ ⟨h1,h2⟩;have h1:i=(k:Int):=h1;subst h1;exact bt (by simp) (aj h2)
 rw[aI (n:=(k:Int)-1) (by omega) (by omega)];refine ay (ψ:=λx=>x.2.length=k/\Cu code (n+2*k+2) x.1) (tH (λs=>s.2.1.length=k/\-1<=s.2.2/\s.2.2<=(k:Int)-1/\Cu code (n+2*((k:Int)-1-s.2.2)) s.1) (λs=>s.2.2.toNat) ⟨hl,by dsimp only;omega,by dsimp only;omega,h.mono (by dsimp only;omega)⟩ ?_) λx hx=>aj hx
 rintro⟨c,l,i⟩ ⟨h1,h2,h3,h4⟩;have h1:l.length=k:=h1;have h2: -1<=i:=h2;have h3:i<=(k:Int)-1:=h3;have h4:Cu code (n+2*((k:Int)-1-i)) c:=h4;refine aZ (λg=>?_) λg=>aj ⟨h1,h4.mono (by omega)⟩
 have g:0<i:=by simpa using g
 obtain⟨m,rfl⟩:=fJ (show 0<=i by omega);dsimp only;rw[aI (n:=(m:Int)+1) (by omega) (by omega)];refine ay (jF hb h4 (by omega)) λz ⟨z1,_,z3,_,z5⟩=>?_
 have z3:=z3 (by omega);obtain⟨j,hj⟩:=fJ z1;rw[hj];refine bD (show m<l.length by omega) (bD (show j<l.length by omega) (bD (show j<(l.set _ _).length by rw[KC];omega) (aj ⟨⟨by simp[h1],?_,?_,z5.mono ?_⟩,?_⟩)))
 ·show-1<=i64.wrap ((m:Int)-1);rw[aI (by omega) (by omega)];omega
 ·show i64.wrap ((m:Int)-1)<=_;rw[aI (by omega) (by omega)];omega
 ·show _<=n+2*((k:Int)-1-i64.wrap ((m:Int)-1));rw[aI (by omega) (by omega)];omega
 show(i64.wrap ((m:Int)-1)).toNat<(m:Int).toNat;rw[aI (by omega) (by omega)];omega
def UO(hb:Bt code)(h:Cu code n (c0,at_,dC))(hn:n<=3000000000000000)(hg:Gw gr)(hk:k<=1000):Rn (FM c0 at_ dC gr (k:Int)) (λz=>z.1.length<=k+1/\Cu code (n+4*k+20) z.2):=by
 unfold FM;refine ay (zBr hb h (by omega) hg (by omega)) λz ⟨z1,_,z3⟩=>?_
 refine ay (jF hb z3 (by omega)) λp ⟨_,_,_,_,p5⟩=>?_
 refine ay (ψ:=λv=>Sum.elim (λx=>x.2.length<=k+1/\Cu code (n+4*k+20) x.1) (λy=>y.1.length<=k+1/\Cu code (n+4*k+20) y.2) v) ?_ ?_
 ·refine aZ (λ_=>aG (by omega) (aj ⟨by simp[z1],p5.mono (by omega)⟩)) λ_=>aZ (λ_=>aZ (λg=>?_) λ_=>aj ⟨by dsimp only;omega,p5.mono (by omega)⟩) λ_=>aZ (λ_=>aZ (λg=>?_) λ_=>aj ⟨by dsimp only;omega,p5.mono (by omega)⟩) λ_=>aj ⟨by dsimp only;omega,p5.mono (by omega)⟩
  ·have g:0<(k:Int):=by simpa using g
   exact aG (by omega) (aj ⟨by simp[z1];omega,p5.mono (by omega)⟩)
  have g:0<(k:Int):=by simpa using g
  refine ay (jF hb p5 (by omega)) λq ⟨q1,q2,q3,_,q5⟩=>?_
  refine ay (oB hb q5 (by omega) (by simp)) λw ⟨_,w2⟩=>?_
  obtain⟨j,hj⟩:=fJ q1
  have hlt:j<z.1.length:=by
   rcases dK 1 k with h|h
   ·have:=q3 (by omega);omega
   ·have:=q2 (by omega);omega
  rw[hj];exact bD hlt (aj ⟨by show(z.1.set _ _).length<=_;rw[KC];omega,w2.mono (by omega)⟩)
 rintro(x|y) hx
 ·exact aj hx
 exact aj hx
def og(s:ByteArray):List Int:=s.data.toList.map λb=>(b.toNat:Int)
def BA(s:ByteArray):(og s).length=s.size:=by
 show(s.data.toList.map _).length=s.data.size;rw[Gu,wa]
def X9(s:ByteArray):∀x∈og s,0<=x/\x<=255:=by
 intro x hx;obtain⟨b,_,rfl⟩:=jE.1 hx;have:=b.toNat_lt;omega
def zCY(h:k<s.size):rN s (k:Int)=J ((og s)[k]'(by rw[BA];exact h)):=by
 have h2:k<s.data.size:=h;simp[rN,og,h];rfl
def ZB(s:ByteArray)(l:List Int)(hs:s.size<=1000000)(hl:l.length<=1000000000000):GF s l=J ((s.size:Int)::og s++l):=by
 unfold GF;refine bE (ay (ψ:=λx=>x=(s.size:Int)::og s) (kx s.size (λn p=>n<=s.size/\p=((s.size:Int)::(og s).take n,(n:Int))) ⟨by omega,by simp⟩ ?_ ?_) ?_)
 ·rintro n p hn ⟨_,rfl⟩;have RI:n<(og s).length:=by rw[BA];exact hn
  have hb:=X9 s _ (e9 RI);refine aZ (λ_=>?_) λh=>absurd h (by simp;omega)
  refine ag (zCY hn) (aG ?_ (aj ⟨by omega,?_⟩))
  ·simp only[dX,nu,BA];omega
  show((s.size:Int)::(og s).take n++[_],_)=_;rw[aI (by omega) (by omega),aI (by omega) (by omega),tZ,AaH RI];rfl
 ·rintro p ⟨_,rfl⟩;refine aZ (λh=>absurd h (by simp)) λ_=>aj ?_
  show(s.size:Int)::(og s).take s.size=_;rw[KA (by rw[BA];omega)]
 rintro _ rfl;refine aG ?_ (aj rfl);simp only[dX,BA];omega
def zw0(s:ByteArray)(l:List Int)(hs:s.size<=1000000)(hl:l.length<=1000000000000):Nb s l=J ((s.size:Int)::og s++l):=ZB s l hs hl
def cD(x:Int):Bool:=decide (0<=x)&&decide (x<=4611686018427387903)
def jn :cD x=Z↔0<=x/\x<=4611686018427387903:=by simp[cD]
def WD(x:Int):Kc x=J (cD x):=by
 unfold Kc;rw[tP];rfl
def zvU(x:Int):HP x=J (cD x):=by
 unfold HP;rw[rZ];rfl
def zBv(s:ByteArray):(og s).all cD=Z:=by
 rw[bm];intro x hx;have:=X9 s x hx;exact jn.2 ⟨by omega,by omega⟩
def zn(c s k:Int):Int:=(c*s+k+1)%2147483647
def tc(p:Int×Int)(x:Int):Int×Int:=(zn 48271 (zn 48271 p.1 (x%2147483648)) (x/2147483648),zn 69621 (zn 69621 p.2 (x%2147483648)) (x/2147483648))
def Dl(l:List Int):Int:=let p:=(((l.length:Int)::l).foldl tc (1,2));p.1*2147483648+p.2
def EQ(c s k:Int):0<=zn c s k/\zn c s k<=2147483646:=by unfold zn;omega
def At{c s k:Int}(hc:c=48271\/c=69621)(hs:0<=s/\s<=2147483646)(hk:0<=k/\k<=2147483648):(i64.wrap ((i64.wrap ((i64.wrap (c*s))+k))+1)).tmod 2147483647=zn c s k:=by
 rcases hc with rfl|rfl
 ·rw[aI (n:=48271*s) (by omega) (by omega),aI (n:=48271*s+k) (by omega) (by omega),aI (by omega) (by omega),je (by omega)];rfl
 rw[aI (n:=69621*s) (by omega) (by omega),aI (n:=69621*s+k) (by omega) (by omega),aI (by omega) (by omega),je (by omega)];rfl
def Mj(p:Int×Int):Prop:=(0<=p.1/\p.1<=2147483646)/\(0<=p.2/\p.2<=2147483646)
def zAS(p:Int×Int)(x:Int):Mj (tc p x):=⟨EQ _ _ _,EQ _ _ _⟩
theorem FN:∀(l:List Int) (p:Int×Int),Mj p->Mj (l.foldl tc p)
 |[],_,h=>h
 |x::l,p,_=>FN l _ (zAS p x)
def zxW(l:List Int):cD (Dl l)=Z:=by
 obtain⟨h1,h2⟩:=FN ((l.length:Int)::l) (1,2) ⟨by decide,by decide⟩;refine jn.2 ?_;unfold Dl;dsimp only;omega
def ZN{p:Int×Int}(hp:Mj p)(hx:cD x=Z):DL p.1 p.2 x=J (tc p x):=by
 obtain⟨h1,h2⟩:=hp;have hx:=jn.1 hx;have e1:x.tmod 2147483648=x%2147483648:=je hx.1
 have e2:i64.wrap (x.tdiv 2147483648)=x/2147483648:=by
  rw[Uo hx.1,aI (by omega) (by omega)]
 have b1:0<=x%2147483648/\x%2147483648<=2147483648:=by omega
 have b2:0<=x/2147483648/\x/2147483648<=2147483648:=by omega
 have h0:ix [x%2147483648,x/2147483648] 0=J (x%2147483648):=rfl;have jU:ix [x%2147483648,x/2147483648] 1=J (x/2147483648):=rfl;unfold DL;rw[e1,e2,aR,M5];simp only[dX,ia,show decide ((0:Int)<((0+1+1:Nat):Int))=Z from rfl,eP,h0,aR,At (.inl rfl) h1 b1,At (.inr rfl) h2 b1];rw[M5];simp only[show i64.wrap (0+1)=1 from rfl,show decide ((1:Int)<((0+1+1:Nat):Int))=Z from rfl,eP,jU,aR,At (.inl rfl) (EQ _ _ _) b2,At (.inr rfl) (EQ _ _ _) b2];rw[M5];simp only[show i64.wrap (1+1)=2 from rfl,show decide ((2:Int)<((0+1+1:Nat):Int))=aa from rfl,p7,l7,aR];rfl
def VK(h:l.all cD=Z)(hk:k<l.length):cD l[k]=Z:=bm.1 h _ (e9 hk)
def zBN(hl:l.length<=1000000000000)(hd:l.all cD=Z):HG l=J (Dl l):=by
 unfold HG;have e0:=ZN (p:=(1,2)) (x:=(l.length:Int)) ⟨by decide,by decide⟩ (jn.2 ⟨by omega,by omega⟩);refine bE (ag e0 (ay (ψ:=λp=>p=((l.length:Int)::l).foldl tc (1,2)) (d7 (λn p=>p=((l.length:Int)::l.take n).foldl tc (1,2)) rfl ?_ ?_) ?_))
 ·rintro n p hn rfl;refine bD hn (ag (ZN (FN _ _ ⟨by decide,by decide⟩) (VK hd hn)) (aj ?_));show tc _ _=_;rw[<-AaH hn,<-tZ,GA];rfl
 ·rintro p rfl;show(((l.length:Int)::l.take l.length).foldl tc (1,2))=_;rw[f6]
 rintro p rfl;obtain⟨h1,h2⟩:=FN ((l.length:Int)::l) (1,2) ⟨by decide,by decide⟩;refine aj ?_;rw[aI (n:=_*2147483648) (by omega) (by omega),aI (by omega) (by omega)];rfl
def zy8(hx:cD x=Z):i64.wrap (BitVec.ofInt IntKind.i64.bits x&&&BitVec.ofInt IntKind.i64.bits 2147483647).toNat=x%2147483648:=by
 have hx:=jn.1 hx;obtain⟨n,rfl⟩:=fJ hx.1
 have h1:(BitVec.ofInt IntKind.i64.bits ((n:Nat):Int)&&&BitVec.ofInt IntKind.i64.bits 2147483647).toNat=n%2147483648:=by
  rw[Aaz]
  have a1:(BitVec.ofInt IntKind.i64.bits (n:Int)).toNat=n:=by
   rw[BitVec.toNat_ofInt];have:IntKind.i64.bits=64:=rfl;rw[this];omega
  have a2:(BitVec.ofInt IntKind.i64.bits 2147483647).toNat=2^31-1:=by decide
  rw[a1,a2,Nat.and_two_pow_sub_one_eq_mod]
 rw[h1,aI (by omega) (by omega)];omega
def zCZ(hl:l.length<=1000000000000)(hd:l.all cD=Z):Hx l=J (Dl l):=by
 unfold Hx
 have kP:((l.length:Int)::l).all cD=Z:=by
  rw[yB,hd,A2];exact jn.2 ⟨by omega,by omega⟩
 refine bE (aG (by simp only[dX,ia];omega) (ag rfl (ay (ψ:=λp=>p=((l.length:Int)::l).foldl tc (1,2)) (d7 (λn p=>p=(((l.length:Int)::l).take n).foldl tc (1,2)) rfl ?_ ?_) ?_)))
 ·rintro n p hn rfl;have ok:=FN ((((l.length:Int)::l)).take n) (1,2) ⟨by decide,by decide⟩;have dg:=VK kP hn;have b:=jn.1 dg;have ef:(((l.length:Int)::l)[n]).fdiv 2147483648=((l.length:Int)::l)[n]/2147483648:=AaA _ (by omega);have Jl:n<((l.length:Int)::l).length:=hn;refine bD hn (aj ?_);show(_,_)=_;simp only[Aas]
  rw[zy8 dg,ef,At (.inl rfl) ok.1 (by omega),At (.inr rfl) ok.2 (by omega),At (.inl rfl) (EQ _ _ _) (by omega),At (.inr rfl) (EQ _ _ _) (by omega),
   <-AaH Jl,GA]
  rfl
 ·rintro p rfl;show((((l.length:Int)::l).take ([(l.length:Int)]++l).length).foldl tc (1,2))=_;rw[Aas,f6]
 rintro p rfl;obtain⟨h1,h2⟩:=FN ((l.length:Int)::l) (1,2) ⟨by decide,by decide⟩;refine aj ?_;rw[aI (n:=_*2147483648) (by omega) (by omega),aI (by omega) (by omega)];rfl
def td(s:ByteArray)(l:List Int):Int:=Dl ((s.size:Int)::og s++l)
def Ql(s:ByteArray)(l:List Int):cD (td s l)=Z:=zxW _
def q7(s:ByteArray)(l:List Int):Bool:=decide (s.size<=40)&&decide (1+s.size+l.length<=400)&&l.all cD
def V5(hs:s.size<=1000000):((s.size:Int)::og s++l).all cD=l.all cD:=by
 rw[tZ,yB,kq,zBv,jn.2 ⟨by omega,by omega⟩,gV,gV]
def zoL(hs:s.size<=1000000)(hl:l.length<=100000000000)(hd:l.all cD=Z):EC s l=J (td s l):=by
 unfold EC;rw[ZB s l hs (by omega),aR,zBN (by simp[BA];omega) (by rw[V5 hs];exact hd)];rfl
def zty(l:List Int):Hk l=J (decide (l.length<=400)&&l.all cD):=by
 unfold Hk
 have h1:DR l=J (l.all cD):=M0 (f:=Bu) λx _=>by
  unfold Bu;rw[WD];rfl
 rw[h1];by_cases h:l.length<=400
 ·rw[aB (by simp;omega)];simp[h]
 rw[az (by simp;omega)];simp[h]
def zv3(l:List Int):G3 l=J (if(decide (l.length<=400)&&l.all cD)=Z then(Dl l,Z)else(0,aa)):=by
 unfold G3;rw[zty,aR];cases h:(decide (l.length<=400)&&l.all cD)with
 |true=>
  simp only[bI,eC]at h;rw[zCZ (by omega) h.2];rfl
 |false=>rfl
def zmd(s:ByteArray)(l:List Int):BW s l=J (if q7 s l=Z then(td s l,Z)else(0,aa)):=by
 unfold BW;by_cases h1:s.size<=40
 ·by_cases h2:l.length<=400
  ·rw[az (by simp;omega),aR,az (by simp;omega),zw0 s l (by omega) (by omega),aR,zv3,V5 (by omega)];have e:((s.size:Int)::og s++l).length=1+s.size+l.length:=by simp[BA];omega
   rw[e];have e2:q7 s l=(decide (1+s.size+l.length<=400)&&l.all cD):=by simp[q7,h1]
   rw[e2];cases decide (1+s.size+l.length<=400)<;>cases l.all cD<;>rfl
  rw[az (by simp;omega),aR,aB (by simp;omega)]
  have:q7 s l=aa:=by
   have:¬1+s.size+l.length<=400:=by omega
   simp[q7,this]
  rw[this];rfl
 rw[aB (by simp;omega),aR,aB rfl];have:q7 s l=aa:=by simp[q7,h1]
 rw[this];rfl
theorem Xl{p:Nat}(hp:Pr p){b:Nat}(h1:1<=b)(h2:b<p):∀e:Nat,b^e%p≠0
 |0=>by
  have:=hp.1;rw[Ur,nT (by omega)];omega
 |e+1=>λh=>by
  have hb:((b^e:Nat):Int)%(p:Int)=0\/(b:Int)%(p:Int)=0:=DW hp (by
   rw[<-C8,<-Nat.pow_succ,<-o6,h];rfl)
  rcases hb with h3|h3
  ·exact Xl hp h1 h2 e (by rw[<-o6]at h3;omega)
  ·rw[<-o6,nT h2]at h3;omega
def zm(gr:am)(s:ByteArray)(k c:Int):Int:=1+td s [gr.P,gr.Q,gr.G,k,c]%(gr.P-1)
def kJ(gr:am)(s:ByteArray)(k c:Int):Int:=(((zm gr s k c).toNat^((gr.P-1)/gr.Q).toNat%gr.P.toNat:Nat):Int)
def SV(k:ao gr)(s:ByteArray)(i c:Int):1<=zm gr s i c/\zm gr s i c<=gr.P-1:=by
 have hp:=k.p;have h1:=nV (td s [gr.P,gr.Q,gr.G,i,c]) (show gr.P-1≠0 by omega);have h2:=sI (td s [gr.P,gr.Q,gr.G,i,c]) (show 0<gr.P-1 by omega);unfold zm;omega
def Qk(k:ao gr)(s:ByteArray)(i c:Int):1<=kJ gr s i c/\kJ gr s i c<=gr.P-1:=by
 have hp:=k.p;have hx:=SV k s i c;have h1:=Xl k.pp (b:=(zm gr s i c).toNat) (by omega) (by omega) ((gr.P-1)/gr.Q).toNat;have h2:=mM ((zm gr s i c).toNat^((gr.P-1)/gr.Q).toNat) (show 0<gr.P.toNat by omega);unfold kJ;omega
def zuP(k:ao gr)(s:ByteArray)(i c:Int):
 nQ (i64.wrap (1+((td s [gr.P,gr.Q,gr.G,i,c]).tmod (i64.wrap (gr.P-1))))) (i64.wrap ((i64.wrap (gr.P-1)).tdiv gr.Q)) gr.P=J (kJ gr s i c)/\
 kW (i64.wrap (1+((td s [gr.P,gr.Q,gr.G,i,c]).tmod (i64.wrap (gr.P-1))))) (i64.wrap ((i64.wrap (gr.P-1)).tdiv gr.Q)) gr.P=J (kJ gr s i c):=by
 have hp:=k.p;have hq:=k.q;have hd:=jn.1 (Ql s [gr.P,gr.Q,gr.G,i,c]);have hx:=SV k s i c;have e1:i64.wrap (gr.P-1)=gr.P-1:=aI (by omega) (by omega)
 have e2:i64.wrap (1+((td s [gr.P,gr.Q,gr.G,i,c]).tmod (gr.P-1)))=zm gr s i c:=by
  rw[je hd.1];unfold zm at hx⊢;exact aI (by omega) (by omega)
 have h3:(gr.P-1)/gr.Q<=gr.P-1:=Int.ediv_le_self _ (by omega);have h4:0<=(gr.P-1)/gr.Q:=Int.ediv_nonneg (by omega) (by omega)
 have e3:i64.wrap ((gr.P-1).tdiv gr.Q)=(gr.P-1)/gr.Q:=by
  rw[Uo (by omega),aI (by omega) (by omega)]
 rw[e1,e2,e3];exact pT (by omega) (by omega) (by omega) (by omega) h4 (by omega)
def zuO(k:ao gr){c:Int}(hi:cD i=Z)(hc:0<=c/\c<=1000):[gr.P,gr.Q,gr.G,i,c].all cD=Z:=by
 have hp:=k.p;have hq:=k.q;have hg:=k.g;simp only[yB,KE,A2,bI];exact⟨jn.2 (by omega),jn.2 (by omega),jn.2 (by omega),hi,jn.2 (by omega)⟩
def qw(gr:am)(s:ByteArray)(i y:Int):Prop:=(∃c:Nat,c<1000/\y=kJ gr s i c/\kJ gr s i c≠1/\∀j:Nat,j<c->kJ gr s i j=1)\/(y=0/\∀j:Nat,j<1000->kJ gr s i j=1)
def RJ(k:ao gr)(h1:qw gr s i x)(h2:qw gr s i y):x=y:=by
 rcases h1 with⟨c,hc,rfl,h3,h4⟩|⟨rfl,h4⟩<;>rcases h2 with⟨d,hd,rfl,h5,h6⟩|⟨rfl,h6⟩
 ·rcases Nat.lt_trichotomy c d with h|h|h
  ·exact absurd (h6 c h) h3
  ·rw[h]
  exact absurd (h4 d h) h5
 ·exact absurd (h6 c hc) h3
 ·exact absurd (h4 d hd) h5
 rfl
def zBa(k:ao gr)(h1:qw gr s i x):0<=x/\x<=gr.P-1:=by
 have hp:=k.p;rcases h1 with⟨c,hc,rfl,h3,h4⟩|⟨rfl,h4⟩
 ·have:=Qk k s i c;omega
 omega
def zwM(k:ao gr)(hs:s.size<=40)(hi:cD i=Z):Rn (yQ gr s i) (qw gr s i):=by
 have hp:=k.p;have hq:=k.q;unfold yQ
 refine ay (ψ:=λx=>(x=.inl ()/\∀j:Nat,j<1000->kJ gr s i j=1)\/∃c:Nat,c<1000/\x=.inr (kJ gr s i c)/\kJ gr s i c≠1/\∀j:Nat,j<c->kJ gr s i j=1)
  (kx 1000 (λn p=>p=(n:Int)/\n<=1000/\∀j:Nat,j<n->kJ gr s i j=1) ⟨rfl,by omega,λj hj=>by omega⟩ ?_ ?_) ?_
 ·rintro n p hn ⟨rfl,_,hI⟩;refine aZ (λ_=>?_) λh=>absurd h (by simp;omega)
  refine ag (zoL (by omega) (by simp) (zuO k hi (by omega))) (aG (by rw[aI (by omega) (by omega)];omega) (aG (by omega) (ag (zuP k s i n).2 (aZ (λh=>aj (.inr ⟨n,hn,rfl,by simpa using h,hI⟩)) λh=>aj ⟨by rw[aI (by omega) (by omega)];rfl,hn,λj hj=>?_⟩))));rcases dK j n with h1|h1
  ·exact hI j h1
  have:j=n:=by omega
  subst this;simpa using h
 ·rintro p ⟨rfl,_,hI⟩;refine aZ (λh=>absurd h (by simp)) λ_=>aj (.inl ⟨rfl,hI⟩)
 rintro x (⟨rfl,h⟩|⟨c,hc,rfl,h⟩)
 ·exact aj (.inr ⟨rfl,h⟩)
 exact aj (.inl ⟨c,hc,rfl,h⟩)
def zyQ(k:ao gr)(hs:s.size<=40)(hi:cD i=Z):Rn (wM gr s i) (λx=>qw gr s i x.1/\x.2=decide (0<x.1)):=by
 have hp:=k.p;have hq:=k.q;unfold wM
 refine ay (ψ:=λx=>(x=.inl ()/\∀j:Nat,j<1000->kJ gr s i j=1)\/∃c:Nat,c<1000/\x=.inr (kJ gr s i c,Z)/\kJ gr s i c≠1/\∀j:Nat,j<c->kJ gr s i j=1)
  (kx 1000 (λn p=>p=(n:Int)/\n<=1000/\∀j:Nat,j<n->kJ gr s i j=1) ⟨rfl,by omega,λj hj=>by omega⟩ ?_ ?_) ?_
 ·rintro n p hn ⟨rfl,_,hI⟩;refine aZ (λ_=>?_) λh=>absurd h (by simp;omega)
  have hl:q7 s [gr.P,gr.Q,gr.G,i,(n:Int)]=Z:=by
   have:=zuO k (i:=i) (c:=n) hi (by omega);simp only[q7,this,A2,dX,ia,bI,eC];omega
  have eh:BW s [gr.P,gr.Q,gr.G,i,(n:Int)]=J (td s [gr.P,gr.Q,gr.G,i,(n:Int)],Z):=by rw[zmd,aB hl]
  refine ag eh (bt rfl (aG (by rw[aI (by omega) (by omega)];omega) (aG (by omega) (ag (zuP k s i n).1 (aZ (λh=>aj (.inr ⟨n,hn,rfl,by simpa using h,hI⟩)) λh=>aj ⟨by rw[aI (by omega) (by omega)];rfl,hn,λj hj=>?_⟩)))));rcases dK j n with h1|h1
  ·exact hI j h1
  have:j=n:=by omega
  subst this;simpa using h
 ·rintro p ⟨rfl,_,hI⟩;refine aZ (λh=>absurd h (by simp)) λ_=>aj (.inl ⟨rfl,hI⟩)
 rintro x (⟨rfl,h⟩|⟨c,hc,rfl,h⟩)
 ·exact aj ⟨.inr ⟨rfl,h⟩,rfl⟩
 have:=Qk k s i c;exact aj ⟨.inl ⟨c,hc,rfl,h⟩,by symm;simp;omega⟩
def LH(k:ao gr)(hs:s.size<=40)(hi:cD i=Z):∃y,yQ gr s i=J y/\wM gr s i=J (y,decide (0<y))/\qw gr s i y:=by
 obtain⟨y,h1,h2⟩:=zwM k hs hi;obtain⟨⟨z,t⟩,h3,h4,h5⟩:=zyQ k hs hi;refine⟨y,h1,?_,h2⟩;simp only at h4 h5;have:z=y:=RJ k h4 h2;subst this;rw[h3,h5]
def Vj{α:Type}{R:Nat->α->Prop}{l:List α}{n:Nat}{z:α}(hl:l.length=n)(h:∀j (h:j<l.length),R j l[j])(hz:R n z):∀j (h:j<(l++[z]).length),R j (l++[z])[j]:=by
 intro j hj;rw[List.getElem_append];split
 ·exact h j _
 have hj:j<n+1:=by simpa[hl]using hj
 have e:j=n:=by omega
 subst e;simpa[hl]using hz
def EP(gr:am)(n:Nat)(l:List Int):Prop:=l.length=n/\∀j (h:j<l.length),qw gr ⟨#[104,115]⟩ j l[j]
def zBe(k:ao gr){n:Nat}(hn:n<=24):∃b t,rC gr (n:Int)=J (b,t)/\lN gr (n:Int)=J (b,t)/\
 (t=Z->qw gr ⟨#[104]⟩ 0 b.H/\0<b.H/\EP gr n b.Hs/\∀x∈b.Hs,0<x):=by
 have hp:=k.p;obtain⟨y,hy1,J8,RR⟩:=LH k (s:=⟨#[104]⟩) (by decide) (i:=0) rfl;have d6:vu gr=Z:=LU.2 k;have D:∀m:Nat,m<24->∃z,yQ gr ⟨#[104,115]⟩ m=J z/\wM gr ⟨#[104,115]⟩ m=J (z,decide (0<z))/\qw gr ⟨#[104,115]⟩ m z:=λm hm=>LH k (by decide) (jn.2 ⟨by omega,by omega⟩)
 have S:Rn (Kj gr ⟨#[104,115]⟩ (n:Int)) (λx=>(x.2=Z/\EP gr n x.1/\∀z∈x.1,0<z)\/(x=([],aa)/\∃m:Nat,m<n/\qw gr ⟨#[104,115]⟩ m 0)):=by
  unfold Kj;refine ay (ψ:=λb=>b=aa) ?_ ?_
  ·refine ag (J5 gr) (bt (by rw[d6];rfl) (bt rfl (ag (rZ _ _ _) (aj ?_))));simp;omega
  ·rintro _ rfl;refine bt rfl (ay (ψ:=λx=>(∃l,x=.inl l/\EP gr n l/\∀z∈l,0<z)\/(x=.inr ([],aa)/\∃m:Nat,m<n/\qw gr ⟨#[104,115]⟩ m 0)) (kx n (λm p=>p.2=(m:Int)/\m<=n/\EP gr m p.1/\∀z∈p.1,0<z) ⟨rfl,by omega,⟨rfl,λj hj=>by simp at hj⟩,λz hz=>by simp at hz⟩ ?_ ?_) ?_)
   ·rintro m ⟨l,c⟩ hm ⟨h1,_,hD,qR⟩;simp only at h1 hD qR;subst h1;obtain⟨z,z1,z2,z3⟩:=D m (by omega);have zb:=zBa k z3;refine aZ (λ_=>?_) λh=>absurd h (by simp;omega)
    refine ag z1 (aZ (λh=>aj (.inr ⟨rfl,m,hm,?_⟩)) λh=>aG ?_ (aj ⟨?_,hm,⟨by simp[hD.1],Vj hD.1 hD.2 z3⟩,λw hw=>?_⟩))
    ·have:z=0:=by simpa using h
     rw[<-this];exact z3
    ·have:=hD.1;simp only;omega
    ·show i64.wrap _=_;rw[aI (by omega) (by omega)];rfl
    ·rcases jY.1 hw with h1|h1
     ·exact qR w h1
     ·have:w=z:=by simpa using h1
      subst this;have:¬w=0:=by simpa using h
      omega
   ·rintro⟨l,_⟩ ⟨rfl,_,hD⟩;exact aZ (λh=>absurd h (by simp)) λ_=>aj (.inl ⟨l,rfl,hD⟩)
   ·rintro x (⟨l,rfl,h⟩|⟨rfl,h⟩)
    ·exact aj (.inl ⟨rfl,h⟩)
    ·exact aj (.inr ⟨rfl,h⟩)
 have I:Rn (dI (σ:=Int×List Int×Bool×Int) (β:=Int×List Int×Bool) (λgy=>
 if decide (gy.2.2.2<(n:Int))=Z then(
 (wM gr (⟨#[104,115]⟩:ByteArray) gy.2.2.2).bind λkr=>
 ((if gy.2.2.1=Z then(
 J kr.2)else(
 J aa):Option Bool).bind λqx=>
 gd ((gy.2.1.length+1)*8<=140737488355328/\gy.2.1.length+1<=4611686018427387904)<|
 J (.go (gy.1,gy.2.1++[kr.1],qx,i64.wrap (gy.2.2.2+1)))))else(
 J (.out (gy.1,gy.2.1,gy.2.2.1)))) (y,[],Z,0)) (λx=>x.1=y/\EP gr n x.2.1/\x.2.2=x.2.1.all (λz=>decide (0<z))):=by
  refine kx n (λm p=>p.1=y/\p.2.2.2=(m:Int)/\m<=n/\EP gr m p.2.1/\p.2.2.1=p.2.1.all (λz=>decide (0<z))) ⟨rfl,rfl,by omega,⟨rfl,λj hj=>by simp at hj⟩,rfl⟩ ?_ ?_
  ·rintro m ⟨w,l,t,c⟩ hm ⟨h1,h2,_,hD,h3⟩;simp only at h1 h2 hD h3;subst h1 h2 h3;obtain⟨z,z1,z2,z3⟩:=D m (by omega);refine aZ (λ_=>?_) λh=>absurd h (by simp;omega)
   refine ag z2 (ay (ψ:=λb=>b=(l.all (λz=>decide (0<z))&&decide (0<z))) (aZ (λh=>aj ?_) λh=>aj ?_) ?_)
   ·simp only at h;rw[h];rfl
   ·simp only at h;rw[h];rfl
   ·rintro _ rfl;refine aG (by have:=hD.1;dsimp only;omega) (aj ⟨rfl,?_,hm,⟨by simp[hD.1],Vj hD.1 hD.2 z3⟩,?_⟩)
    ·show i64.wrap ((m:Int)+1)=_;rw[aI (by omega) (by omega)];rfl
    ·show _=(l++[z]).all _;simp
  ·rintro⟨w,l,t,c⟩ ⟨h1,h2,_,hD,h3⟩;simp only at h1 h2 hD h3;subst h1 h2 h3;exact aZ (λh=>absurd h (by simp)) λ_=>aj ⟨rfl,hD,rfl⟩
 obtain⟨⟨b,l,t⟩,i1,i2,i3,i4⟩:=I;simp only at i2 i3 i4;subst i2;obtain⟨⟨l2,t2⟩,s1,s2⟩:=S
 have E:t2=t/\(t=Z->l2=l/\∀z∈l,0<z):=by
  rcases s2 with⟨h1,h2,h3⟩|⟨h1,m,hm,h3⟩
  ·simp only at h1 h2 h3;have e:l2=l:=List.ext_getElem (h2.1.trans i3.1.symm) λj a c=>RJ k (h2.2 j a) (i3.2 j c)
   subst e;have:l2.all (λz=>decide (0<z))=Z:=by simpa using h3
   rw[this]at i4;exact⟨by rw[h1,i4],λ_=>⟨rfl,h3⟩⟩
  ·cases h1;have kA:m<l.length:=by rw[i3.1];exact hm
   have:l[m]=0:=RJ k (i3.2 m kA) h3
   have hf:l.all (λz=>decide (0<z))=aa:=by
    rw[yC];exact⟨l[m],e9 kA,by simp[this]⟩
   rw[hf]at i4;exact⟨i4.symm,λh=>by rw[i4]at h;cases h⟩
 have S0:rC gr (n:Int)=J (if(decide (0<b)&&t2)=Z then(⟨b,l2⟩,Z)else(⟨0,[]⟩,aa)):=by
  have hD:Hb gr ⟨#[104]⟩ 0=J (b,decide (0<b)):=by
   unfold Hb;rw[J5,d6];simp only[aR,wc,p7,l7];rw[az (show¬(decide (40<(((⟨#[104]⟩:ByteArray).size:Nat):Int))=Z)by decide),zvU,aR,aR,az (by decide),hy1,aR]
  unfold rC;rw[J5,d6];simp only[aR,wc,p7,l7];rw[rZ,aR,aR,az (by simp;omega),hD,aR,s1,aR];cases decide (0<b)<;>cases t2<;>rfl
 have I0:lN gr (n:Int)=J (if(decide (0<b)&&t)=Z then(⟨b,l⟩,Z)else(⟨0,[]⟩,aa)):=by
  unfold lN;rw[J8,aR,i1,aR];cases decide (0<b)<;>cases t<;>rfl
 obtain⟨rfl,E2⟩:=E;cases hb:(decide (0<b)&&t2)with
 |false=>
  rw[hb]at S0 I0;exact⟨_,_,S0,I0,λh=>by cases h⟩
 |true=>
  rw[hb]at S0 I0;simp only[bI,eC]at hb;obtain⟨rfl,qR⟩:=E2 hb.2;exact⟨_,_,S0,I0,λ_=>⟨RR,hb.1,i3,qR⟩⟩
def zDT{α β γ:Type}{l:List α}{f:α->β}{body:Int->List β->Option (fe (List β) γ)}{stop:List β->γ}(a0:List β)(hs:∀k (h:k<l.length) (s:List β),s.length=a0.length+k->body (k:Int) s=J (.go (s++[f l[k]]))):
 aS body stop l.length 0 a0=J (stop (a0++l.map f)):=by
 refine bE (d7 (λk s=>s=a0++(l.take k).map f/\k<=l.length) ⟨by simp,by omega⟩ ?_ ?_)
 ·rintro k s hk ⟨rfl,_⟩;refine⟨_,hs k hk _ (by simp;omega),?_,hk⟩;rw[iO hk,l8,gU];rfl
 rintro s ⟨rfl,_⟩;simp
def zCW{γ:Type}{m:Nat}(p:Nat->Bool)(c d:γ){body:Int->Unit->Option (fe Unit (Unit ⊕ γ))}(h:∀k,k<m->body (k:Int) ()=J (if p k=Z then .go ()else .out (.inr c))):
 (aS body (λ_=>.inl ()) m 0 ()).bind (Sum.elim (λ_=>J d) J)=J (if(List.range m).all p=Z then d else c):=by
 rcases GL (body:=body) m p (λ_=>c) h with⟨e,h1⟩|⟨k,h1,h2,h3,e⟩
 ·have:(List.range m).all p=Z:=by
   rw[bm];intro x hx;exact h1 x (kp.1 hx)
  rw[e,this];rfl
 have:(List.range m).all p=aa:=by
  rw[yC];exact⟨k,kp.2 h1,by simp[h2]⟩
 rw[e,this];rfl
def cX(a b x:Int):Bool:=decide (a<=x)&&decide (x<=b)
def Vb :cX a b x=Z↔a<=x/\x<=b:=by simp[cX]
def TF(a b:Bool):(if a=Z then J b else J aa)=J (a&&b):=by cases a<;>rfl
def zBi(hl:l.length<=1000000000000):KO l=J (n6 l):=VG Zv l hl
def Mf(h:l.length<=1048576):BV l=J l:=eE (by omega)
def zBj(h:l.length<=1048576):vj l=J l:=eE (by omega)
def Fb{σ:Type}(f:Nat->σ->σ):Nat->σ->σ
 |0,s=>s
 |n+1,s=>f n (Fb f n s)
theorem M7{σ:Type}{f:Nat->σ->σ}{I:Nat->σ->Prop}{s0:σ}(h0:I 0 s0){m:Nat}(h:∀k s,k<m->I k s->I (k+1) (f k s)):∀k,k<=m->I k (Fb f k s0)
 |0,_=>h0
 |k+1,hk=>h k _ (by omega) (M7 h0 h k (by omega))
def zDb{σ β:Type}{body:Int->σ->Option (fe σ β)}{stop:σ->β}{m:Nat}{s0:σ}(f:Nat->σ->σ)(I:Nat->σ->Prop)(h0:I 0 s0)(hi:∀k s,k<m->I k s->I (k+1) (f k s))(hs:∀k s,k<m->I k s->body (k:Int) s=J (.go (f k s))):
 aS body stop m 0 s0=J (stop (Fb f m s0)):=by
 refine bE (d7 (λk s=>s=Fb f k s0/\k<=m) ⟨rfl,by omega⟩ ?_ ?_)
 ·rintro k s hk ⟨rfl,_⟩;exact⟨_,hs k _ hk (M7 h0 hi k (by omega)),rfl,hk⟩
 rintro s ⟨rfl,_⟩;rfl
def Pe{α:Type}{L:List (List α)}{i:Nat}(h:i<L.length):(L.take (i+1)).flatten=(L.take i).flatten++L[i]:=by
 rw[iO h,Uc];simp
def zta{α:Type}(L:List (List α))(i:Nat):(L.take i).flatten.length<=L.flatten.length:=by
 have e:L.flatten=(L.take i).flatten++(L.drop i).flatten:=by rw[<-Uc,De]
 rw[e,bP];omega
def En(L:List (List Int))(h:L.flatten.length<=1000000000000):pj L=J L.flatten:=by
 unfold pj;refine bE (ay (ψ:=λn=>n=(L.flatten.length:Int)) (d7 (λi s=>s=((L.take i).flatten.length:Int)) rfl ?_ ?_) ?_)
 ·rintro i s hi rfl;have e:=gn List.length (Pe hi);rw[bP]at e;have hl:=zta L (i+1);refine bD hi ?_;rw[aI (by omega) (by omega)];refine bt (by simp only[wd];omega) (aj ?_);show _=_;omega
 ·rintro s rfl;rw[f6]
 rintro n rfl;refine aG (by omega) (ay (ψ:=λr=>r=L.flatten) (d7 (λi s=>s=(L.take i).flatten) rfl ?_ ?_) λr hr=>aj hr)
 ·rintro i s hi rfl;have e:=gn List.length (Pe hi);rw[bP]at e;have hl:=zta L (i+1);refine bD hi (aG (by omega) (aj ?_));show _=_;rw[Pe hi]
 rintro s rfl;rw[f6]
def chG(gr:am)(s:ByteArray)(l:List Int):Int:=td s ([gr.P,gr.Q,gr.G]++l)%gr.Q
def me(k:ao gr)(s:ByteArray)(l:List Int):0<=chG gr s l/\chG gr s l<gr.Q:=by
 have:=k.q;exact⟨nV _ (by omega),sI _ (by omega)⟩
def Wc(k:ao gr) :([gr.P,gr.Q,gr.G]++l).all cD=l.all cD:=by
 have hp:=k.p;have hq:=k.q;have hg:=k.g;rw[kq]
 have:[gr.P,gr.Q,gr.G].all cD=Z:=by
  simp only[yB,KE,A2,bI];exact⟨jn.2 (by omega),jn.2 (by omega),jn.2 (by omega)⟩
 rw[this,gV]
def Lw(k:ao gr)(hs:s.size<=1000000)(hl:l.length<=10000000000)(hd:l.all cD=Z):pY gr s l=J (chG gr s l):=by
 have hq:=k.q;have hb:=jn.1 (Ql s ([gr.P,gr.Q,gr.G]++l));unfold pY;rw[eE (by simp only[dX,ia];omega),zoL hs (by simp only[bP,dX,ia];omega) (by rw[Wc k];exact hd),aR,eE (by omega),je hb.1];rfl
def L1(k:ao gr)(s:ByteArray)(hl:l.length<=10000000000):mt gr s l=J (if q7 s ([gr.P,gr.Q,gr.G]++l)=Z then(chG gr s l,Z)else(0,aa)):=by
 have hq:=k.q;have hb:=jn.1 (Ql s ([gr.P,gr.Q,gr.G]++l));unfold mt;rw[eE (by simp only[dX,ia];omega),zmd,aR];cases q7 s ([gr.P,gr.Q,gr.G]++l)with
 |false=>rfl
 |true=>
  simp only[eP,wc,p7,l7];rw[eE (by omega),je hb.1];rfl
def LW(k:ao gr)(hs:s.size<=40)(hl:4+s.size+l.length<=400)(hd:l.all cD=Z):q7 s ([gr.P,gr.Q,gr.G]++l)=Z:=by
 unfold q7;rw[Wc k,hd,A2,bI,eC,eC];simp only[bP,dX,ia];omega
def oH(k:ao gr)(h:l.all (aK gr)=Z):l.all cD=Z:=by
 have hp:=k.p;rw[bm]at h⊢;intro x hx;have:=qF (h x hx);exact jn.2 (by omega)
def zaO(gr:am):List Int->List Int->Int->Int
 |x::l,e::m,o=>zaO gr l m (o*av gr x e%gr.P)
 |_,_,o=>o
theorem Og(gr:am):∀(l m:List Int) (x e o:Int),l.length=m.length->zaO gr (l++[x]) (m++[e]) o=zaO gr l m o*av gr x e%gr.P
 |[],[],x,e,o,_=>rfl
 |y::l,f::m,x,e,o,h=>Og gr l m x e _ (by simpa using h)
theorem TD(gr:am):∀(l m:List Int) (o:Int),zaO gr l (m.take l.length) o=zaO gr l m o
 |[],m,o=>by cases m<;>rfl
 |y::l,[],o=>rfl
 |y::l,f::m,o=>TD gr l m _
theorem RW{gr:am}(h:0<gr.P):∀(l m:List Int) (o:Int),0<=o/\o<gr.P->0<=zaO gr l m o/\zaO gr l m o<gr.P
 |x::l,e::m,o,_=>RW h l m _ ⟨nV _ (by omega),sI _ h⟩
 |[],_,o,ho=>ho
 |_::_,[],o,ho=>ho
def G8(k:ao gr)(hx:0<=x/\x<gr.P)(hy:0<=y):aP gr [x,y]=x*y%gr.P:=by
 have hp:=k.p;simp only[aP,Or,List.foldl_nil,UE];rw[qe hx.1 hx.2]
def oY(k:ao gr)(hl:∀x∈l,0<=x/\x<=2000000000)(hm:l.length<=m.length):k9 gr l m=J (zaO gr l m 1):=by
 have hp:=k.p;unfold k9;refine bE (ay (ψ:=λb=>b=zaO gr l m 1) (d7 (λi s=>s=zaO gr (l.take i) (m.take i) 1) rfl ?_ ?_) λb hb=>aj hb)
 ·rintro i s hi rfl;have bd:=RW (gr:=gr) (by omega) (l.take i) (m.take i) 1 (by omega);have hx:=hl l[i] (e9 hi);have pb:=zR k l[i] (m[i]'(by omega));refine bD hi (bD (show i<m.length by omega) (ag (zC8 k hx.1 hx.2 _) (aG (by omega) (aj ?_))));show _=zaO gr (l.take (i+1)) (m.take (i+1)) 1;rw[iO hi,iO (show i<m.length by omega),Og _ _ _ _ _ _ (by simp;omega)];have b1:=sJ bd.1 pb.1;have b2:zaO gr (l.take i) (m.take i) 1*av gr l[i] (m[i]'(by omega))<=2000000000*2000000000:=wg (by omega) (by omega) pb.1 (by omega);rw[aI (by omega) (by omega),je b1]
 rintro s rfl;rw[f6,TD]
def oV(k:ao gr)(hl:∀x∈l,0<=x/\x<=2000000000)(hm:l.length<=m.length):lT gr l m=J (zaO gr l m 1):=by
 have hp:=k.p;unfold lT;refine bE (ay (ψ:=λb=>b=zaO gr l m 1) (d7 (λi s=>s=zaO gr (l.take i) (m.take i) 1) rfl ?_ ?_) λb hb=>aj hb)
 ·rintro i s hi rfl;have bd:=RW (gr:=gr) (by omega) (l.take i) (m.take i) 1 (by omega);have hx:=hl l[i] (e9 hi);have pb:=zR k l[i] (m[i]'(by omega));refine bD hi (bD (show i<m.length by omega) (ag (Dr k hx.1 hx.2 _).1 (ag (AL k ?_) (aj ?_))))
  ·intro y hy;simp only[fK,jf,jg]at hy;rcases hy with rfl|rfl<;>omega
  show _=zaO gr (l.take (i+1)) (m.take (i+1)) 1;rw[iO hi,iO (show i<m.length by omega),Og _ _ _ _ _ _ (by simp;omega),G8 k bd pb.1]
 rintro s rfl;rw[f6,TD]
structure Yx (gr:am) (bs:List (List Int)):Prop where
 n:1<=bs.length/\bs.length<=8
 m:1<=(bs.headD []).length/\(bs.headD []).length<=8
 r:∀r∈bs,r.length=(bs.headD []).length/\r.all (aK gr)=Z
def Yx.Ay(k:ao gr){bs:List (List Int)}(h:Yx gr bs):bs.flatten.all cD=Z:=by
 rw[bm];intro x hx;obtain⟨r,hr,hx⟩:=Ku.1 hx;exact bm.1 (oH k (h.r r hr).2) x hx
def zAP(k:ao gr)(h:l.all (aK gr)=Z):∀x∈l,0<=x/\x<=2000000000:=λx hx=>by
 have hp:=k.p;have:=qF (bm.1 h x hx);omega
def nG(k:ao gr):aK gr gr.G=Z:=by
 have hg:=k.g;simp only[aK,bI,eC];exact⟨by omega,k.o⟩
def dh(l:List Int):List Int:=(l.length:Int)::l
def iL(p:bZ):List Int:=dh p.aC++dh p.aV++dh p.aD
def In(h:l.length<=10000000):xT l=J (dh l):=by
 unfold xT;rw[eE (by simp;omega)];rfl
def eO(l:List Int):Bool:=decide ((l.length:Int)<=400)&&l.all cD
def Ii(l:List Int):yU l=J (eO l):=by
 unfold yU
 have h1:DR l=J (l.all cD):=M0 (f:=Bu) λx _=>by
  unfold Bu;rw[WD];rfl
 rw[h1,aR,TF];rfl
def Le(l:List Int):zV l=J (if eO l=Z then(l,Z)else([],aa)):=by
 unfold zV;rw[Ii];cases eO l<;>rfl
def zrO{p:bZ}(h1:p.aC.length<=1048576)(h2:p.aV.length<=1048576)(h3:p.aD.length<=1048576):IG p=J (if eO (iL p)=Z then(iL p,Z)else([],aa)):=by
 have e:[dh p.aC,dh p.aV,dh p.aD].flatten=iL p:=by simp[iL]
 unfold IG;rw[In (by omega),aR,In (by omega),aR,In (by omega),aR,En _ (by rw[e];simp[iL,dh];omega),aR,e,Le];cases eO (iL p)<;>rfl
def zDh{β γ:Type}{n:Nat}{f:Nat->β}{body:Int->List β->Option (fe (List β) γ)}{stop:List β->γ}(hs:∀k (s:List β),k<n->s.length=k->body (k:Int) s=J (.go (s++[f k]))):
 aS body stop n 0 []=J (stop ((List.range n).map f)):=by
 refine bE (d7 (λk s=>s=(List.range k).map f) rfl ?_ ?_)
 ·rintro k s hk rfl;refine⟨_,hs k _ hk (by simp),?_⟩;show _=_;rw[mN,l8];rfl
 rintro s rfl;rfl
def zG7{α:Type}(f:α->Int)(L:List α)(T:Nat):List α:=(List.range T).flatMap λi=>L.filter λe=>f e==((i+1:Nat):Int)
def M9(k:ao gr)(ha:0<=a):av gr gr.G a=((gr.G.toNat^a.toNat%gr.P.toNat:Nat):Int):=by
 have hq:=k.q;obtain⟨n,rfl⟩:=fJ ha;obtain⟨q,hQ⟩:=fJ (show 0<=gr.Q by omega);unfold av;have ho:=k.o;rw[hQ]at ho⊢;rw[dG]at ho;rw[<-o6,dG,dG,J0 ho]
def zyY(k:ao gr)(ha:0<=a)(hb:0<=b):aP gr [av gr gr.G a,av gr gr.G b]=av gr gr.G (a+b):=by
 have hp:=k.p;obtain⟨P,hP⟩:=fJ (show 0<=gr.P by omega);have hx:=zR k gr.G a;rw[G8 k (by omega) (zR k gr.G b).1,M9 k ha,M9 k hb,M9 k (by omega),hP];rw[<-C8,<-o6,dG,<-t6,<-OG,Int.toNat_add ha hb]
def zxY(k:ao gr):av gr gr.G 0=1:=by
 have hp:=k.p;rw[M9 k (A1 0)];show((1%gr.P.toNat:Nat):Int)=1;rw[nT (by omega)];rfl
def X5(x:Int)(h:a%gr.Q=b%gr.Q):av gr x a=av gr x b:=by
 unfold av;rw[h]
def zAL :HA l l=J Z:=by
 unfold HA;refine bE (bt (by simp) (ay (ψ:=λv=>v=.inl ()) (d7 (λ_ _=>True) trivial ?_ λs _=>rfl) ?_))
 ·rintro k s hk _;exact bD hk (bD hk (bt (by simp) (aj trivial)))
 rintro _ rfl;exact aj rfl
structure Gb (gr:am):Prop where
 p:1<=gr.P/\gr.P<=2000000000
 q:1<=gr.Q/\gr.Q<=2000000000
 g:0<=gr.G/\gr.G<=2000000000
def Ml(p:bZ):Prop:=p.aC.length<=1001/\p.aV.length<=1001/\p.aD.length<=1001
def ZS{p:bZ}(hb:Bt code)(h:Cu code n (c0,at_,dC))(hn:n<=3000000000000000)(k:Gw gr)(hp:p.aC.length<=1000/\p.aV.length<=1000/\p.aD.length<=1000):
 Rn (F6 c0 at_ dC gr p) (λz=>Ml z.1/\Cu code (n+12) z.2):=by
 unfold F6;rw[Mf (l:=p.aC) (by omega),Mf (l:=p.aV) (by omega),Mf (l:=p.aD) (by omega)];simp only[aR];refine ay (jF hb h (by omega)) λz1 ⟨_,_,_,_,y1⟩=>?_
 have sp:Ml p:=⟨by omega,by omega,by omega⟩
 have pk:∀l:List Int,0<l.length->Rn (gH z1.2.1 z1.2.2.1 z1.2.2.2 (l.length:Int)) (λz=>(∃i:Nat,z.1=(i:Int)/\i<l.length)/\Cu code (n+4) z.2):=λl hl=>by
  obtain⟨v,v1,w0,w1,w2,_,w3⟩:=jF (m:=(l.length:Int)) hb y1 (by omega);obtain⟨i,hi⟩:=fJ w0;refine⟨v,v1,⟨i,hi,?_⟩,w3.mono (by omega)⟩;rcases Int.lt_or_le 1 (l.length:Int)with g|g
  ·have:=w2 g;omega
  ·have:=w1 g;omega
 refine ay (ψ:=λx=>match x with| .inl v=>Ml ⟨v.2.1,v.2.2.1,v.2.2.2⟩/\Cu code (n+12) v.1| .inr v=>Ml v.1/\Cu code (n+12) v.2) ?_ ?_
 ·refine aZ (λ_=>aZ (λg=>?_) λ_=>aj ⟨sp,y1.mono (by omega)⟩) λ_=>?_
  ·have g:0<p.aD.length:=by simpa using g
   refine ay (pk _ g) λz2 ⟨⟨i,e,hi⟩,y2⟩=>?_
   refine ay (VM hb y2 (by omega) k) λz3 ⟨_,_,y3⟩=>?_
   rw[e];exact bD hi (aj ⟨⟨by show p.aC.length<=1001;omega,by show p.aV.length<=1001;omega,by show(p.aD.set _ _).length<=1001;simp;omega⟩,y3.mono (by omega)⟩)
  refine aZ (λ_=>aZ (λg=>?_) λ_=>aj ⟨sp,y1.mono (by omega)⟩) λ_=>?_
  ·have g:0<p.aC.length:=by simpa using g
   refine ay (pk _ g) λz2 ⟨⟨i,e,hi⟩,y2⟩=>?_
   refine ay (HW hb y2 (by omega) k) λz3 ⟨_,_,y3⟩=>?_
   rw[e];exact bD hi (aj ⟨⟨by show(p.aC.set _ _).length<=1001;simp;omega,by show p.aV.length<=1001;omega,by show p.aD.length<=1001;omega⟩,y3.mono (by omega)⟩)
  refine aZ (λ_=>aZ (λg=>?_) λ_=>aj ⟨sp,y1.mono (by omega)⟩) λ_=>?_
  ·have g:0<p.aV.length:=by simpa using g
   refine ay (pk _ g) λz2 ⟨⟨i,e,hi⟩,y2⟩=>?_
   refine ay (VM hb y2 (by omega) k) λz3 ⟨_,_,y3⟩=>?_
   rw[e];exact bD hi (aj ⟨⟨by show p.aC.length<=1001;omega,by show(p.aV.set _ _).length<=1001;simp;omega,by show p.aD.length<=1001;omega⟩,y3.mono (by omega)⟩)
  refine aZ (λ_=>aG (by omega) (aj ⟨⟨by show p.aC.length<=1001;omega,by show p.aV.length<=1001;omega,by show(p.aD++[0]).length<=1001;simp;omega⟩,y1.mono (by omega)⟩)) λ_=>?_
  exact aZ (λ_=>aj ⟨⟨by simp,by simp,by simp⟩,y1.mono (by omega)⟩) λ_=>aj ⟨sp,y1.mono (by omega)⟩
 intro x hx;cases x with
 |inl v=>exact aj hx
 |inr v=>exact aj hx
def Gb.w(k:Gb gr):Gw gr:=by
 have a:=k.p;have b:=k.q;have c:=k.g;exact⟨by omega,by omega,by omega⟩
theorem zxJ:∀{l v:List Int},l.Nodup->(∀x∈l,x∈v)->l.length<=v.length
 |[],v,_,_=>by simp
 |x::l,v,hn,hs=>by
  obtain⟨h1,h2⟩:=Uz.1 hn;have hx:=hs x (by simp);have:=zxJ (l:=l) (v:=v.erase x) h2 λy hy=>(Acm (show y≠x from λe=>h1 (e▸hy))).2 (hs y (nU _ hy))
  rw[Acn hx]at this;have:=List.length_pos_of_mem hx;rw[dX];omega
def WN :dn gr x=Z↔0<=x/\x<gr.Q:=by
 unfold dn;simp only[bI,eC];omega
def FW(k:ao gr)(h:∀x∈l,aK gr x=Z):∀x∈l,0<=x/\x<=2000000000:=zAP k (bm.2 h)
def kZ(k:ao gr)(v:Int):eU gr v=J (v%gr.Q):=by
 have hp:=k.p;have hq:=k.q;unfold eU;rw[SS (by omega) (by omega)];rfl
def bT{α:Type}{l:List α}{d:α}{i:Nat}(h:i<l.length):l.getD i d=l[i]:=by
 rw[nv,cE h];rfl
def zzv{m:Nat}(hb:Bt code)(h:Cu code n (c0,at_,dC))(hn:n<=8000000000000000)(hm:1<=m):Rn (gH c0 at_ dC (m:Int)) (λz=>(∃i:Nat,z.1=(i:Int)/\i<m)/\Cu code (n+2) z.2):=by
 obtain⟨z,h1,h2,h3,h4,_,h5⟩:=jF (m:=(m:Int)) hb h hn;obtain⟨i,hi⟩:=fJ h2;refine⟨z,h1,⟨i,hi,?_⟩,h5⟩;rcases dK 1 m with h6|h6
 ·have:=h4 (by omega);omega
 have:=h3 (by omega);omega
def lp(k:Nat)(p:bZ):Prop:=p.aC.length<=k/\p.aV.length<=k/\p.aD.length<=k
def R9(x:Int):Prop:=0<=x/\x<=2000000000
def dV(k:ao gr)(h:aK gr x=Z):R9 x:=by
 have:=qF h;have:=k.p;exact⟨by omega,by omega⟩
def bJ(k:ao gr)(x e:Int):R9 (av gr x e):=by
 have:=zR k x e;have:=k.p;exact⟨by omega,by omega⟩
def Sd(hx:R9 x)(hy:R9 y):∀z∈[x,y],0<=z/\z<=2000000000:=by
 intro z hz;simp only[fK,jf,jg]at hz;rcases hz with rfl|rfl
 ·exact hx
 exact hy
def FU(k:ao gr)(h:∀x∈l,0<=x/\x<=2000000000):R9 (aP gr l):=by
 have:=zBu k h;have:=k.p;exact⟨by omega,by omega⟩
def nC(k:ao gr)(hx:R9 x)(hy:R9 y):R9 (aP gr [x,y]):=FU k (Sd hx hy)
def ZK(h:∀x∈l,R9 x):l.all cD=Z:=bm.2 λx hx=>jn.2 ⟨(h x hx).1,by have:=(h x hx).2;omega⟩
def jL(k:ao gr)(hx:R9 x)(hy:R9 y):d9 gr [x,y]=J (aP gr [x,y]):=AL k (Sd hx hy)
def iK(k:ao gr)(hx:R9 x)(hy:R9 y):ej gr [x,y]=J (aP gr [x,y]):=Ix k (Sd hx hy)
def fh(k:ao gr)(hx:R9 x)(e:Int):cP gr x e=J (av gr x e):=(Dr k hx.1 hx.2 e).1
def fb(k:ao gr)(hx:R9 x)(e:Int):cC gr x e=J (av gr x e):=(Dr k hx.1 hx.2 e).2
def fG(k:ao gr):R9 gr.G:=dV k (nG k)
def Nf(k:ao gr){n:Nat}(h0:n<gr.P.toNat)(h:n^gr.Q.toNat%gr.P.toNat=1):aK gr (n:Int)=Z:=by
 have hp:=k.p;have hq:=k.q
 have h1:1<=n:=by
  rcases Ug n with h2|h2
  ·rw[h2,Nat.zero_pow (by omega),Nat.zero_mod]at h;omega
  ·exact h2
 simp only[aK,bI,eC];exact⟨⟨by omega,by omega⟩,by rw[dG];exact h⟩
def kH(k:ao gr)(hx:aK gr x=Z)(e:Int):aK gr (av gr x e)=Z:=by
 have hp:=k.p;refine Nf k (mM _ (by omega)) ?_;rw[<-qd,<-o7,wb,o7,qd,(ES hx).2.2,GB,nT (by omega)]
def qW(k:ao gr)(hx:aK gr x=Z)(hy:aK gr y=Z):aK gr (aP gr [x,y])=Z:=by
 have hp:=k.p;have bx:=qF hx;have by':=qF hy;rw[G8 k ⟨by omega,by omega⟩ (by omega)];obtain⟨a,rfl⟩:=fJ (show 0<=x by omega);obtain⟨b,rfl⟩:=fJ (show 0<=y by omega);obtain⟨p,hP⟩:=fJ (show 0<=gr.P by omega);have h1:=(ES hx).2.2;have h2:=(ES hy).2.2;rw[dG]at h1 h2;have e:((a:Int)*(b:Int))%gr.P=((a*b%gr.P.toNat:Nat):Int):=by rw[hP,dG,o6,C8]
 rw[e];refine Nf k (mM _ (by omega)) ?_;rw[<-qd,Nat.mul_pow,t6,h1,h2,nT (by omega)]
def Tt(k:ao gr):aK gr 1=Z:=by
 have hp:=k.p;exact Nf (n:=1) k (by omega) (by rw[GB,nT (by omega)])
def Z1{p:Int}(h:a%p=b%p):(a-b)%p=0:=by rw[sH,h,Int.sub_self,Int.zero_emod]
def ot(l:List Int):Int:=l.foldr (· * ·) 1
def zza(h:l.Perm m):ot l=ot m:=by
 induction h with
 |nil=>rfl
 |cons x _ ih=>show x*ot _=x*ot _;rw[ih]
 |swap x y l=>show y*(x*ot l)=x*(y*ot l);rw[<-KF,<-KF,AaI y x]
 |trans _ _ h1 h2=>rw[h1,h2]
theorem WS:∀{l m:List Int},l.Nodup->(∀x∈l,x∈m)->m.length<=l.length->l.Perm m
 |[],m,_,_,h=>by rw[Uk.1 (show m.length=0 by simpa using h)]
 |x::l,m,hn,hs,h=>by
  obtain⟨h1,h2⟩:=Uz.1 hn;have hx:=hs x (by simp);have hl:(m.erase x).length=m.length-1:=Acn hx
  have:=WS (l:=l) (m:=m.erase x) h2 (λy hy=>by
   have J8:=hs y (nU _ hy)
   exact(Acm (λe=>h1 (by rw[<-e];exact hy))).2 J8) (by rw[dX]at h;omega)
  exact(this.cons x).trans (List.perm_cons_erase hx).symm
theorem Vq{p a:Int}:∀l:List Int,ot (l.map λi=>(a*i)%p)%p=(a^l.length*ot l)%p
 |[]=>by simp[ot]
 |x::l=>by
  have ih:=Vq (p:=p) (a:=a) l;show((a*x)%p*ot (l.map λi=>(a*i)%p))%p=(a^(l.length+1)*(x*ot l))%p;rw[mO,eM,ih,<-mO];congr 1;rw[AaF];grind
theorem Ys{p:Nat}(hp:Pr p)(h2:2<=p):∀{l:List Int},(∀x∈l,x%(p:Int)≠0)->ot l%(p:Int)≠0
 |[],_=>by show(1:Int)%(p:Int)≠0;rw[qe (by omega) (by omega)];omega
 |x::l,h=>λe=>by
  rcases DW hp (a:=x) (b:=ot l) e with e|e
  ·exact h x (by simp) e
  ·exact Ys hp h2 (λy hy=>h y (nU _ hy)) e
def zDC(hp:Pr p)(h2:2<=p){a:Nat}(ha:1<=a)(hap:a<p):a^(p-1)%p=1:=by
 let L:List Int:=(List.range (p-1)).map λ(i:Nat)=>(i:Int)+1
 have hL:∀x,x∈L↔1<=x/\x<=(p:Int)-1:=by
  intro x;simp only[L,jE,kp];constructor
  ·rintro⟨i,hi,rfl⟩;omega
  ·rintro⟨h1,h2⟩;exact⟨(x-1).toNat,by omega,by omega⟩
 have hN:L.Nodup:=List.Pairwise.map _ (λa b (h:a≠b)=>by omega) List.nodup_range
 have inj:∀x∈L,∀y∈L,((a:Int)*x)%p=((a:Int)*y)%p->x=y:=by
  intro x hx y hy e;have hx:=(hL x).1 hx;have hy:=(hL y).1 hy
  have e2:((a:Int)*(x-y))%(p:Int)=0:=by
   rw[Int.mul_sub];exact Z1 e
  rcases DW hp e2 with e3|e3
  ·rw[qe (by omega) (by omega)]at e3;omega
  ·obtain⟨c,hc⟩:=UA e3
   have:c=0:=by
    rcases Int.lt_trichotomy c 0 with h|h|h
    ·have:(p:Int)*c<=(p:Int)*(-1):=UD (by omega) (by omega);omega
    ·exact h
    ·have:(p:Int)*1<=(p:Int)*c:=UD (by omega) (by omega);omega
   rw[this,Int.mul_zero]at hc;omega
 have hM:(L.map λi=>((a:Int)*i)%(p:Int)).Perm L:=by
  refine WS ?_ ?_ (by simp)
  ·refine UB.2 (AaG ?_ hN);intro x y hx hy hne e;exact hne (inj x hx y hy e)
  ·intro z hz;obtain⟨x,hx,rfl⟩:=jE.1 hz;refine(hL _).2 ?_;have h1:=nV ((a:Int)*x) (show(p:Int)≠0 by omega);have h3:=sI ((a:Int)*x) (show(0:Int)<p by omega)
   have:((a:Int)*x)%(p:Int)≠0:=λe=>by
    have hx:=(hL x).1 hx;rcases DW hp e with e|e<;>rw[qe (by omega) (by omega)]at e<;>omega
   omega
 have h4:=Vq (p:=(p:Int)) (a:=(a:Int)) L;rw[zza hM]at h4
 have hne:ot L%(p:Int)≠0:=Ys hp h2 λx hx=>by
  have hx:=(hL x).1 hx;rw[qe (by omega) (by omega)];omega
 have hlen:L.length=p-1:=by simp[L]
 rw[hlen]at h4
 have e5:(((a:Int)^(p-1)-1)*ot L)%(p:Int)=0:=by
  rw[Int.sub_mul,UE];exact Z1 h4.symm
 rcases DW hp e5 with e|e
 ·obtain⟨c,hc⟩:=UA e
  have e6:(a:Int)^(p-1)%(p:Int)=1:=by
   rw[show(a:Int)^(p-1)=1+(p:Int)*c by omega,GC,qe (by omega) (by omega)]
  have:((a^(p-1)%p:Nat):Int)=1:=by rw[o6,UC];exact e6
  omega
 exact absurd e hne
def Xx(k:ao gr)(h:qw gr s i y)(h0:0<y):aK gr y=Z:=by
 have hp:=k.p;have hq:=k.q;rcases h with⟨c,_,hy,_,_⟩|⟨hy,_⟩
 ·rw[hy];have hx:=SV k s i c;refine Nf k (mM _ (by omega)) ?_;rw[<-qd,<-o7]
  have e:((gr.P-1)/gr.Q).toNat*gr.Q.toNat=gr.P.toNat-1:=by
   obtain⟨P,hP⟩:=fJ (show 0<=gr.P-1 by omega);obtain⟨Q,hQ⟩:=fJ (show 0<=gr.Q by omega);have hd:=k.d;have U0:gr.P.toNat-1=P:=by omega
   rw[U0,hQ,dG]at hd;rw[hP,hQ,U0,dG,<-Int.natCast_ediv,dG];exact Nat.div_mul_cancel (Ux hd)
  rw[e];exact zDC k.pp (by omega) (by omega) (by omega)
 omega
def zh(gr:am)(key:Int)(c:an)(r:Int):an:=⟨aP gr [c.A,av gr gr.G r],aP gr [c.B,aP gr [1,av gr key r]]⟩
def zDR(k:ao gr)(hk:aK gr key=Z)(hc:b8 gr c=Z)(r:Int):b8 gr (zh gr key c r)=Z:=by
 simp only[b8,bI]at hc⊢;exact⟨qW k hc.1 (kH k (nG k) r),qW k hc.2 (qW k (Tt k) (kH k hk r))⟩
def zyo(k:ao gr)(hx:0<=x/\x<gr.P):ej gr [1,x]=J x:=by
 have hp:=k.p;rw[iK k (x:=1) (y:=x) ⟨by omega,by omega⟩ ⟨by omega,by omega⟩,G8 k ⟨by omega,by omega⟩ (by omega),UE,qe hx.1 hx.2]
def zGE(k:ao gr)(hk:aK gr key=Z)(hc:b8 gr c=Z)(r:Int):FY gr key c r=J (zh gr key c r):=by
 have oX:=hc;simp only[b8,bI]at oX;unfold FY;rw[(Wo k hk (Tt k) r).1,aR];unfold L0;rw[jL k (dV k oX.1) (bJ k _ _),aR,jL k (dV k oX.2) (nC k ⟨by omega,by omega⟩ (bJ k _ _))];rfl
def zFE(k:ao gr)(hk:aK gr key=Z)(hc:b8 gr c=Z)(r:Int):ED gr key c r=J (zh gr key c r):=by
 have oX:=hc;simp only[b8,bI]at oX;have hp:=k.p;have b1:=qF oX.1;have b2:=qF oX.2;unfold ED;rw[(Wo k hk (Tt k) r).2,aR];unfold Mh;simp only[dX,ia,aS];have e0:∀{a b:an},ix [a,b] 0=J a:=λ{a b}=>rfl
 have e1:∀{a b:an},ix [a,b] (0+1)=J b:=λ{a b}=>rfl
 simp only[e0,e1,aR,zyo k (x:=c.A) ⟨by omega,by omega⟩,zyo k (x:=c.B) ⟨by omega,by omega⟩,iK k (dV k oX.1) (bJ k _ _),iK k (dV k oX.2) (nC k (x:=1) ⟨by omega,by omega⟩ (bJ k _ _))];rfl
def uK(k:ao gr)(key:Int)(l:List an):pD gr key l=J (aK gr key&&(cX 1 12 l.length&&l.all (b8 gr))):=by
 unfold pD IP;rw[J5,LU.2 k,aR,aB rfl,zCP k];simp only[aR];cases aK gr key
 ·rfl
 simp only[aB,rZ,aR,gV];show Option.bind (if cX 1 12 l.length=Z then _ else _) _=_;by_cases h:cX 1 12 l.length=Z
 ·rw[aB h,UV k,h];have h2:l.length<=24:=by simp only[cX,bI,eC]at h;omega
  simp[h2]
 rw[az h];simp only[Bool.not_eq_true]at h;rw[h];rfl
def Eg(k:¬ao gr)(key:Int)(l:List an):pD gr key l=J aa:=by
 unfold pD IP;rw[J5,oO k,aR,az (by simp)];rfl
def yh(k:ao gr)(l:List an):yM gr l=J (cX 1 12 l.length&&l.all (b8 gr)):=by
 unfold yM;rw[tP,aR];show Option.bind (if cX 1 12 l.length=Z then _ else _) _=_;by_cases h:cX 1 12 l.length=Z
 ·rw[aB h,zs9 k,h];have h2:l.length<=24:=by simp only[cX,bI,eC]at h;omega
  simp[h2]
 rw[az h];simp only[Bool.not_eq_true]at h;rw[h];rfl
noncomputable def d4(l:List Int):Bool:=l.all (cX 0 ((l.length:Int)-1))&&n6 l
def Q7(l:List Int)(m:Nat)(hm:m<=1000):DT l (m:Int)=J (decide (l.length=m)&&d4 l):=by
 unfold DT;by_cases h:l.length=m
 ·subst h;rw[aI (n:=(l.length:Int)-1) (by omega) (by omega),Pq,zxA l (by omega)];simp only[AaJ,eP,aR,decide_true,gV];show Option.bind (if l.all (cX 0 ((l.length:Int)-1))=Z then _ else _) _=_;unfold d4;cases l.all (cX 0 ((l.length:Int)-1))<;>rfl
 have h2:((l.length:Int)==(m:Int))=aa:=by simp;omega
 simp[h2,h]
def zzr(l:List Int):JO l=J (decide (l.length<=24)&&d4 l):=by
 unfold JO;by_cases h:l.length<=24
 ·have h2:decide ((l.length:Int)<=24)=Z:=by simp;omega
  rw[h2,aB rfl]
  have e:Ig l l=J (l.all (cX 0 ((l.length:Int)-1))):=by
   unfold Ig Ln Nx;refine M0 (p:=cX 0 ((l.length:Int)-1)) (f:=λx=>Iz x l) λx _=>?_
   unfold Iz Mq;rw[aI (n:=(l.length:Int)-1) (by omega) (by omega),tP];rfl
  rw[e,WM l (by omega)];unfold d4;cases l.all (cX 0 ((l.length:Int)-1))<;>simp[h]
 have h2:decide ((l.length:Int)<=24)=aa:=by simp;omega
 simp[h2,h]
def AA(k:ao gr){n:Nat}(hn:n<=24)(perm rs:List Int):CJ gr perm rs (n:Int)=J (decide (perm.length=n)&&d4 perm&&(decide (rs.length=n)&&rs.all (dn gr))):=by
 have hq:=k.q;have hp:=k.p;unfold CJ;rw[zzr,yd (by omega) (by omega)];have e1:((perm.length:Int)==(n:Int))=decide (perm.length=n):=by by_cases h:perm.length=n<;>simp[h];omega
 have e2:((rs.length:Int)==(n:Int))=decide (rs.length=n):=by by_cases h:rs.length=n<;>simp[h];omega
 rw[e1,e2];by_cases h1:perm.length=n
 ·have P3:decide (perm.length<=24)=Z:=by simp;omega
  rw[P3];simp only[h1,decide_true,gV];cases d4 perm<;>by_cases h3:rs.length=n<;>simp[h3]
 simp only[h1,decide_false,Aar];cases (decide (perm.length<=24)&&d4 perm)<;>simp
def OW(h:d4 l=Z){j:Int}(hj:0<=j/\j<l.length):j∈l:=by
 simp only[d4,bI,n6,eC,bm,cX]at h;refine OH λhn=>?_
 have:=zxJ (l:=j::l) (v:=(List.range l.length).map λ(i:Nat)=>(i:Int)) (Uz.2 ⟨hn,h.2⟩) (λx hx=>by
  simp only[jE,kp];rcases fK.1 hx with rfl|hx
  ·exact⟨x.toNat,by omega,by omega⟩
  ·have:=h.1 x hx;exact⟨x.toNat,by omega,by omega⟩)
 simp at this;omega
structure mQ (gr:am) (key:Int) (l:List an) (perm rs:List Int):Prop where
 key:aK gr key=Z
 n:1<=l.length/\l.length<=12
 c:∀x∈l,b8 gr x=Z
 pl:perm.length=l.length
 pr:∀x∈perm,0<=x/\x<l.length
 pb:d4 perm=Z
 rl:rs.length=l.length
 re:rs.all (dn gr)=Z
def zGY{l:List an}:((aK gr key&&(cX 1 12 l.length&&l.all (b8 gr)))&&(decide (perm.length=l.length)&&d4 perm&&(decide (rs.length=l.length)&&rs.all (dn gr))))=Z↔mQ gr key l perm rs:=by
 constructor
 ·intro h;simp only[bI,eC,cX]at h;obtain⟨⟨h1,⟨h2,h3⟩,h4⟩,⟨h5,h6⟩,h7,h8⟩:=h;refine⟨h1,by omega,bm.1 h4,h5,λx hx=>?_,h6,h7,h8⟩;simp only[d4,bI]at h6;have:=bm.1 h6.1 x hx;simp only[cX,bI,eC]at this;omega
 intro h;simp only[bI,eC,cX];have:=h.n;exact⟨⟨h.key,⟨by omega,by omega⟩,bm.2 h.c⟩,⟨h.pl,h.pb⟩,h.rl,h.re⟩
def zaR(gr:am)(key:Int)(l:List an)(perm rs:List Int):List an:=(List.range perm.length).map λi=>zh gr key (l.getD (perm.getD i 0).toNat ⟨0,0⟩) (rs.getD i 0)
def XD(k:ao gr){l:List an}(m:mQ gr key l perm rs)(E:an->Int->Option an)(hE:∀c r,b8 gr c=Z->E c r=J (zh gr key c r)):aS (σ:=List an) (λi5 s4=>
 (ix perm i5).bind λaU=>
 (ix l aU).bind λdf=>
 (ix rs i5).bind λg8=>
 (E df g8).bind λeQ=>
 gd ((s4.length+1)*16<=140737488355328/\s4.length+1<=4611686018427387904)<|
 J (.go (s4++[eQ]))) (λs4=>s4) perm.length 0 []=J (zaR gr key l perm rs):=by
 have hn:=m.n;have dM:=m.pl;have fm:=m.rl;refine zDh (f:=λi=>zh gr key (l.getD (perm.getD i 0).toNat ⟨0,0⟩) (rs.getD i 0)) λi s hi hs=>?_
 have hx:=m.pr _ (e9 hi);obtain⟨j,hj⟩:=fJ hx.1;have r8:j<l.length:=by omega
 rw[jx hi,aR,hj,jx r8,aR,jx (show i<rs.length by omega),aR,hE _ _ (m.c _ (e9 r8)),aR,eE (by omega),bT hi,hj,dG,bT r8,bT (show i<rs.length by omega)]
def O5(k:ao gr){l:List an}(m:mQ gr key l perm rs):CS gr key l perm rs=J (zaR gr key l perm rs):=by
 unfold CS;rw[XD k m (FY gr key) λc r hc=>zGE k m.key hc r];rfl
def PQ(k:ao gr){l:List an}(m:mQ gr key l perm rs):Cc gr key l perm rs=J (zaR gr key l perm rs):=by
 unfold Cc;rw[XD k m (ED gr key) λc r hc=>zFE k m.key hc r];rfl
def kv(gr:am)(key:Int)(l:List an)(perm rs:List Int):(zaR gr key l perm rs).length=perm.length:=by simp[zaR]
def vx(k:ao gr){l:List an}(m:mQ gr key l perm rs):∀c∈zaR gr key l perm rs,b8 gr c=Z:=by
 intro c hc;obtain⟨i,hi,rfl⟩:=jE.1 hc;have hi:=kp.1 hi;refine zDR k m.key ?_ _;have hx:=m.pr _ (e9 hi);rw[bT hi,bT (show(perm[i]).toNat<l.length by omega)];exact m.c _ (e9 _)
structure tG (gr:am) (n:Nat) (b:ct):Prop where
 h:aK gr b.H=Z
 l:b.Hs.length=n
 s:∀x∈b.Hs,aK gr x=Z
def TU(k:ao gr){n:Nat}(hn:n<=24):∃b t,rC gr (n:Int)=J (b,t)/\lN gr (n:Int)=J (b,t)/\(t=Z->tG gr n b):=by
 obtain⟨b,t,h1,h2,h3⟩:=zBe k hn;refine⟨b,t,h1,h2,λht=>?_⟩;obtain⟨c1,c2,c3,c4⟩:=h3 ht;refine⟨Xx k c1 c2,c3.1,λx hx=>?_⟩;obtain⟨j,hj,rfl⟩:=Ou hx;exact Xx k (c3.2 j hj) (c4 _ hx)
def tL(gr:am)(Hs perm ss:List Int)(i:Nat)(s:List Int):List Int:=s.set (perm.getD i 0).toNat (aP gr [av gr gr.G (ss.getD (perm.getD i 0).toNat 0),Hs.getD i 0])
def zez(gr:am)(Hs perm ss:List Int):List Int:=Fb (tL gr Hs perm ss) perm.length (List.replicate perm.length 0)
def zsD(k:ao gr){Hs:List Int}(hp:∀x∈perm,0<=x/\x<perm.length)(hs:ss.length=perm.length)(hH:Hs.length=perm.length)(hb:∀x∈Hs,aK gr x=Z)(P:Int->Int->Option Int)(M:List Int->Option Int)(hP:∀x e,R9 x->P x e=J (av gr x e))(hM:∀x y,R9 x->R9 y->M [x,y]=J (aP gr [x,y])):aS (σ:=(List Int)) (λmz dw=>
 (ix perm mz).bind λfO=>
 (ix ss fO).bind λiv=>
 (ix Hs mz).bind λke=>
 (P gr.G iv).bind λeY=>
 (M [eY,ke]).bind λgw=>
 (ix dw fO).bind λoG=>
 J (.go (dw.set fO.toNat gw))) (λdw=>dw) perm.length 0 (List.replicate perm.length 0)=J (zez gr Hs perm ss):=by
 refine zDb (tL gr Hs perm ss) (λ_ s=>s.length=perm.length) (by simp) (λi s _ h=>by simp[tL,h]) λi s hi h=>?_
 have hx:=hp _ (e9 hi);obtain⟨j,hj⟩:=fJ hx.1;have r8:j<perm.length:=by omega
 have hc:=hb _ (e9 (show i<Hs.length by omega));rw[jx hi,aR,hj,jx (show j<ss.length by omega),aR,jx (show i<Hs.length by omega),aR,hP _ _ (fG k),aR,hM _ _ (bJ k _ _) (dV k hc),aR,jx (show j<s.length by omega),aR];unfold tL;rw[bT hi,hj,dG,bT (show j<ss.length by omega),bT (show i<Hs.length by omega)]
def zDX(k:ao gr){b:ct}(hp:∀x∈perm,0<=x/\x<perm.length)(hl:perm.length<=1000)(hs:ss.length=perm.length)(hb:tG gr perm.length b):Ht gr b perm ss=J (zez gr b.Hs perm ss):=by
 unfold Ht;rw[eE (by omega),aR,zsD k hp hs hb.l hb.s (cP gr) (d9 gr) (λx e hx=>fh k hx e) λx y hx hy=>jL k hx hy];rfl
def zCE(k:ao gr){b:ct}(hp:∀x∈perm,0<=x/\x<perm.length)(hl:perm.length<=1000)(hs:ss.length=perm.length)(hb:tG gr perm.length b):IM gr b perm ss=J (zez gr b.Hs perm ss):=by
 unfold IM;rw[eE (by omega),aR,zsD k hp hs hb.l hb.s (cC gr) (ej gr) (λx e hx=>fb k hx e) λx y hx hy=>iK k hx hy];rfl
def zBd(k:ao gr){Hs:List Int}(hp:d4 perm=Z)(hH:Hs.length=perm.length)(hb:∀x∈Hs,aK gr x=Z):(zez gr Hs perm ss).length=perm.length/\∀x∈zez gr Hs perm ss,aK gr x=Z:=by
 have h:=M7 (f:=tL gr Hs perm ss) (I:=λm s=>s.length=perm.length/\∀i (hi:i<m) (cH:i<perm.length),aK gr (s.getD (perm[i]).toNat 0)=Z) (s0:=List.replicate perm.length 0) (m:=perm.length) ⟨by simp,λi hi=>by omega⟩ (λm s hm ⟨h1,h2⟩=>by
  refine⟨by simp[tL,h1],λi hi cH=>?_⟩;unfold tL;rw[bT hm];by_cases e:(perm[m]).toNat=(perm[i]).toNat
  ·by_cases hlt:(perm[i]).toNat<s.length
   ·rw[e,nv,Aco hlt,v8];refine qW k (kH k (nG k) _) ?_;rw[bT (show m<Hs.length by omega)];exact hb _ (e9 _)
   ·have hx:=bm.1 (bI _ _▸hp:perm.all _=Z/\n6 perm=Z).1 _ (e9 cH);simp only[cX,bI,eC]at hx;omega
  ·rw[nv,Acp e,<-nv];rcases dK i m with h|h
   ·exact h2 i h cH
   ·have:i=m:=by omega
    subst this;exact absurd rfl e) perm.length (cy _)
 refine⟨h.1,λx hx=>?_⟩;obtain⟨j,hj,rfl⟩:=Ou hx;have F9:j<(zez gr Hs perm ss).length:=hj;have hl:(zez gr Hs perm ss).length=perm.length:=h.1;have hm:=OW hp (j:=(j:Int)) ⟨by omega,by omega⟩;obtain⟨i,hi,he⟩:=Ou hm;have:=h.2 i hi hi;rw[he,dG]at this;have e:(Fb (tL gr Hs perm ss) perm.length (List.replicate perm.length 0)).getD j 0=(zez gr Hs perm ss)[j]:=bT F9
 rwa [e]at this
def hN(gr:am)(h:Int)(es ts:List Int):Nat->Int
 |0=>h
 |i+1=>aP gr [av gr gr.G (ts.getD i 0),av gr (hN gr h es ts i) (es.getD i 0)]
theorem NR(k:ao gr)(hh:R9 h)(es ts:List Int):∀i,R9 (hN gr h es ts i)
 |0=>hh
 |i+1=>nC k (bJ k _ _) (bJ k _ _)
theorem Rs{gr:am}(k:ao gr){h:Int}(hh:aK gr h=Z)(es ts:List Int):∀i,aK gr (hN gr h es ts i)=Z
 |0=>hh
 |i+1=>qW k (kH k (nG k) _) (kH k (Rs k hh es ts i) _)
def zcp(gr:am)(h:Int)(es ts:List Int):List Int:=(List.range es.length).map λi=>hN gr h es ts (i+1)
def zCL(k:ao gr)(hh:R9 h){es ts:List Int}(hl:es.length<=1000)(ht:ts.length=es.length):Hm gr h es ts=J (zcp gr h es ts):=by
 unfold Hm;refine bE (ay (ψ:=(· =zcp gr h es ts)) (d7 (λi s=>s=(hN gr h es ts i,(List.range i).map λi=>hN gr h es ts (i+1))) rfl ?_ ?_) λx hx=>aj hx)
 ·rintro i s hi rfl;refine bD hi (bD (show i<ts.length by omega) (ag (fh k (fG k) _) (ag (fh k (NR k hh es ts i) _) (ag (jL k (bJ k _ _) (bJ k _ _)) (aG (by simp;omega) (aj ?_))))));show _=_;rw[mN,l8];simp only[jD,p8,hN,bT hi,bT (show i<ts.length by omega)]
 rintro s rfl;rfl
def zDN(k:ao gr){b:ct}(hh:R9 b.H){es ts:List Int}(hl:es.length<=1000)(ht:ts.length=es.length):GY gr b es ts=J (zcp gr b.H es ts):=by
 unfold GY;refine bE (ay (ψ:=(· =zcp gr b.H es ts)) (d7 (λi s=>s=((List.range i).map λi=>hN gr b.H es ts (i+1),hN gr b.H es ts i)) rfl ?_ ?_) λx hx=>aj hx)
 ·rintro i s hi rfl;refine bD hi (bD (show i<ts.length by omega) (ag (fb k (fG k) _) (ag (fb k (NR k hh es ts i) _) (ag (iK k (bJ k _ _) (bJ k _ _)) (aG (by simp;omega) (aj ?_))))));show _=_;rw[mN,l8];simp only[jD,p8,hN,bT hi,bT (show i<ts.length by omega)]
 rintro s rfl;rfl
def oq(l:List an):List Int:=l.flatMap λc=>[c.A,c.B]
def zdT(key:Int)(l out:List an)(m:List Int):List Int:=key::(oq l++(oq out++m))
def Ir(l:List an):(oq l).length=2*l.length:=by
 induction l with
 |nil=>rfl
 |cons c l ih=>show([c.A,c.B]++oq l).length=_;simp[ih];omega
def zBx(l:List an)(c:an):oq (l++[c])=oq l++[c.A,c.B]:=by simp[oq]
def zDr(l m:List an):oq (l++m)=oq l++oq m:=by simp[oq]
def OP{l:List an}(h0:List Int)(hl:l.length<=100000)(hh:h0.length<=1000000):aS (σ:=List Int) (λi5 s4=>
 (ix l i5).bind λaU=>
 gd ((s4.length+2)*8<=140737488355328/\s4.length+2<=4611686018427387904)<|
 J (.go (s4++[aU.A,aU.B]))) (λs4=>s4) l.length 0 h0=J (h0++oq l):=by
 refine bE (d7 (λi s=>s=h0++oq (l.take i)) (by simp[oq]) ?_ ?_)
 ·rintro i s hi rfl;refine bD hi (aG ?_ (aj ?_))
  ·rw[bP,Ir,nu];omega
  show _=_;rw[iO hi,zBx,gU]
 rintro s rfl;rw[f6]
def Gn{l:List an}(h1:l.length<=1000)(h2:out.length<=1000)(h3:m.length<=1000000):qG key l out m=J (zdT key l out m):=by
 unfold qG Lx;rw[eE (by omega),aR,eE (by omega),aR,OP [key] (by simp;omega) (by simp),aR,eE (by simp[Ir];omega)];simp[zdT,zDr]
def yG{l:List an}(h1:l.length<=1000)(h2:out.length<=1000)(h3:m.length<=1000000):rD key l out m=J (zdT key l out m):=by
 unfold rD;rw[OP [key] (by omega) (by simp),aR,OP _ (by omega) (by simp[Ir];omega),aR,eE (by simp[Ir];omega)];simp[zdT]
def Fp{l:List an}:(zdT key l out m).length=1+2*l.length+2*out.length+m.length:=by
 simp[zdT,Ir];omega
def Fe(k:ao gr)(hk:aK gr key=Z){l:List an}(h1:∀c∈l,b8 gr c=Z)(h2:∀c∈out,b8 gr c=Z)(h3:m.all cD=Z):(zdT key l out m).all cD=Z:=by
 have A:∀l:List an,(∀c∈l,b8 gr c=Z)->(oq l).all cD=Z:=λl h=>by
  refine oH k (bm.2 λx hx=>?_);obtain⟨c,hc,hx⟩:=Aap.1 hx;have:=h c hc;simp only[b8,bI]at this;simp only[fK,jf,jg]at hx;rcases hx with rfl|rfl
  ·exact this.1
  ·exact this.2
 have hd:cD key=Z:=by have:=oH k (l:=[key]) (by simp[hk]);simpa using this
 simp only[zdT,yB,kq,hd,A l h1,A out h2,h3,Uh]
abbrev J9:ByteArray:=⟨#[109,105,120,32,99,111,108,117,109,110,115]⟩
abbrev BU:ByteArray:=⟨#[109,105,120,32,112,114,111,111,102]⟩
def ziG(gr:am)(s:ByteArray)(l:List Int)(n:Nat):List Int:=(List.range n).map λ(i:Nat)=>chG gr s (l++[(i:Int)])
def UT(hd:l.all cD=Z){i:Nat}(hi:i<=1000000):(l++[(i:Int)]).all cD=Z:=by
 have:cD (i:Int)=Z:=jn.2 ⟨by omega,by omega⟩;simp[hd,this]
def zxf(k:ao gr)(hs:s.size<=40)(hl:l.length<=300)(hd:l.all cD=Z){n:Nat}(h1:1<=n)(hn:n<=1000):Ac gr s l (n:Int)=J (ziG gr s l n,Z):=by
 unfold Ac;rw[az (show¬((n:Int)<1)by omega)];refine bE (ay (ψ:=(· =.inl (ziG gr s l n))) (kx n (λi t=>t=((List.range i).map λ(i:Nat)=>chG gr s (l++[(i:Int)]),(i:Int))) rfl ?_ ?_) ?_)
 ·rintro i t hi rfl;refine fU (by simp;omega) (ag (a:=l) ?_ (aG (by omega) (ag (L1 k s (by simp;omega)) ?_)))
  ·unfold vj;rw[eE (by omega)]
  rw[aB (LW k hs (by simp;omega) (UT hd (by omega)))];refine bt rfl (aG (by simp;omega) (aj ?_));show _=_;rw[mN,l8,aI (by omega) (by omega)];rfl
 ·rintro t rfl;exact bt (by simp) (aj rfl)
 rintro t rfl;refine aG (by omega) (aG (by simp[ziG]) (aj ?_));rw[dG,KA (by simp[ziG])]
def YW(k:ao gr)(hs:s.size<=40)(hl:l.length<=300)(hd:l.all cD=Z){n:Nat}(hn:n<=1000):DV gr s l (n:Int)=J (ziG gr s l n):=by
 unfold DV;refine bE (ay (ψ:=(· =ziG gr s l n)) (kx n (λi t=>t=((List.range i).map λ(i:Nat)=>chG gr s (l++[(i:Int)]),(i:Int))) rfl ?_ ?_) λx hx=>aj hx)
 ·rintro i t hi rfl;refine fU (by simp;omega) (ag (Mf (by omega)) (aG (by omega) (ag (Lw k (by omega) (by simp;omega) (UT hd (by omega))) (aG (by simp;omega) (aj ?_)))));show _=_;rw[mN,l8,aI (by omega) (by omega)];rfl
 rintro t rfl;exact bt (by simp) (aj rfl)
def Xp(k:ao gr)(s:ByteArray)(l:List Int)(n:Nat):(ziG gr s l n).length=n/\∀x∈ziG gr s l n,0<=x/\x<gr.Q:=by
 refine⟨by simp[ziG],λx hx=>?_⟩;obtain⟨i,_,rfl⟩:=jE.1 hx;exact me k s _
def E9(q x:Int):Prop:=0<=x/\x<q
def zD(h:l.all (dn gr)=Z):∀x∈l,E9 gr.Q x:=λx hx=>WN.1 (bm.1 h x hx)
def iG{z t:Int}(hq:q<=2000000000)(ha:E9 q a)(hz:E9 q z)(ht:E9 q t):i64.wrap (a+i64.wrap (z*t))=a+z*t/\(i64.wrap (a+i64.wrap (z*t))).tmod q=(a+z*t)%q:=by
 obtain⟨a1,a2⟩:=ha;obtain⟨z1,z2⟩:=hz;obtain⟨t1,t2⟩:=ht;have h1:0<=z*t:=sJ z1 t1;have h2:z*t<=2000000000*2000000000:=wg (by omega) (by omega) t1 (by omega);rw[aI (n:=z*t) (by omega) (by omega),aI (n:=a+z*t) (by omega) (by omega)];exact⟨rfl,je (by omega)⟩
def f8(hq:0<q)(x:Int):E9 q (x%q):=⟨nV _ (by omega),sI _ hq⟩
def dtN(q:Int)(l m:List Int):Nat->Int
 |0=>0
 |i+1=>(dtN q l m i+l.getD i 0*m.getD i 0)%q
theorem AG(hq:0<q)(l m:List Int):∀i,E9 q (dtN q l m i)
 |0=>⟨by show(0:Int)<=0;omega,hq⟩
 |i+1=>f8 hq _
def iD{α:Type}{l:List α}{P:α->Prop}(h:∀x∈l,P x){i:Nat}(hi:i<l.length):P l[i]:=h _ (e9 hi)
def PI(hq:0<q/\q<=2000000000)(hl:∀x∈l,E9 q x)(hm:∀x∈m,E9 q x)(hn:m.length=l.length):t9 l m q=J (dtN q l m l.length):=by
 unfold t9;refine bE (ay (ψ:=(· =dtN q l m l.length)) (d7 (λi s=>s=dtN q l m i) rfl ?_ λs h=>h) λx hx=>aj hx);rintro i s hi rfl;have ha:=AG hq.1 l m i;have h1:=iD hl hi;have h2:=iD hm (show i<m.length by omega);refine bD hi (bD (show i<m.length by omega) (aG (by omega) (aG (by omega) (aj ?_))));show _=(dtN q l m i+l.getD i 0*m.getD i 0)%q;rw[bT hi,bT (show i<m.length by omega)];have e:=iG hq.2 ⟨A1 0,hq.1⟩ h1 h2;rw[KB,KB]at e
 have e2:i64.wrap (l[i]*m[i])=l[i]*m[i]:=by
  have h3:0<=l[i]*m[i]:=sJ h1.1 h2.1;have h4:l[i]*m[i]<=2000000000*2000000000:=wg (by have:=h1.2;omega) (by have:=h2.2;omega) h2.1 (by omega);exact aI (by omega) (by omega)
 rw[e2,je (sJ h1.1 h2.1)];have h5:=f8 hq.1 (l[i]*m[i]);rw[aI (by have:=ha.1;have:=h5.1;omega) (by have:=ha.2;have:=h5.2;omega),je (by have:=ha.1;have:=h5.1;omega)];rw[o8,eM,<-o8]
def Rf(hq:0<q/\q<=2000000000)(hl:∀x∈l,E9 q x)(hm:∀x∈m,E9 q x)(hn:m.length=l.length):v5 l m q=J (dtN q l m l.length):=by
 unfold v5;refine bE (ay (ψ:=(· =dtN q l m l.length)) (d7 (λi s=>s=dtN q l m i) rfl ?_ λs h=>h) λx hx=>aj hx);rintro i s hi rfl;refine bD hi (bD (show i<m.length by omega) (aG (by omega) (aj ?_)));show _=(dtN q l m i+l.getD i 0*m.getD i 0)%q;rw[bT hi,bT (show i<m.length by omega)];exact(iG hq.2 (AG hq.1 l m i) (iD hl hi) (iD hm (show i<m.length by omega))).2
def smN(q:Int)(l:List Int):Nat->Int
 |0=>0
 |i+1=>(smN q l i+l.getD i 0)%q
theorem ML(hq:0<q)(l:List Int):∀i,E9 q (smN q l i)
 |0=>⟨by show(0:Int)<=0;omega,hq⟩
 |i+1=>f8 hq _
def ZQ(hq:0<q/\q<=2000000000)(hl:∀x∈l,E9 q x):Ga l q=J (smN q l l.length)/\Fr l q=J (smN q l l.length):=by
 refine⟨?_,?_⟩
 ·unfold Ga;refine bE (ay (ψ:=(· =smN q l l.length)) (d7 (λi s=>s=smN q l i) rfl ?_ λs h=>h) λx hx=>aj hx);rintro i s hi rfl;have ha:=ML hq.1 l i;have h1:=iD hl hi;refine bD hi (aG (by omega) (aj ?_));show _=(smN q l i+l.getD i 0)%q;rw[bT hi,aI (by have:=ha.1;have:=h1.1;omega) (by have:=ha.2;have:=h1.2;omega),je (by have:=ha.1;have:=h1.1;omega)]
 unfold Fr;refine bE (ay (ψ:=(· =smN q l l.length)) (d7 (λi s=>s=smN q l i) rfl ?_ λs h=>h) λx hx=>aj hx);rintro i s hi rfl;have ha:=ML hq.1 l i;have h1:=iD hl hi;refine bD hi (aG (by omega) (aj ?_));show _=(smN q l i+l.getD i 0)%q;rw[bT hi,aI (by have:=ha.1;have:=h1.1;omega) (by have:=ha.2;have:=h1.2;omega),je (by have:=ha.1;have:=h1.1;omega)]
def yN(q:Int)(own t:List Int):Nat->Int
 |0=>0
 |i+1=>(t.getD i 0+own.getD i 0*yN q own t i)%q
theorem Oc(hq:0<q)(own t:List Int):∀i,E9 q (yN q own t i)
 |0=>⟨by show(0:Int)<=0;omega,hq⟩
 |i+1=>f8 hq _
def pQ(e perm:List Int):List Int:=perm.map λj=>e.getD j.toNat 0
def zNY{e:List Int}(hp:∀x∈perm,0<=x/\x<e.length)(hl:perm.length<=1000):FH e perm=J (pQ e perm):=by
 unfold FH;rw[zDT (l:=perm) (f:=λj=>e.getD j.toNat 0) []]
 ·rw[mL];rfl
 intro i hi s hs;have hx:=iD hp hi;obtain⟨j,hj⟩:=fJ hx.1;rw[jx hi,aR,hj,jx (show j<e.length by omega),aR,eE (by simp at hs;omega),dG,bT (show j<e.length by omega)]
def sdV(l:List an):List Int×List Int:=(l.map (·.A),l.map (·.B))
def rO{l:List an}(hl:l.length<=1000):uB l=J (sdV l)/\ut l=J (sdV l):=by
 have h:aS (σ:=(List Int)×List Int) (λi5 s4=>
  (ix l i5).bind λaU=>
  gd ((s4.1.length+1)*8<=140737488355328/\s4.1.length+1<=4611686018427387904)<|
  gd ((s4.2.length+1)*8<=140737488355328/\s4.2.length+1<=4611686018427387904)<|
  J (.go (s4.1++[aU.A],s4.2++[aU.B]))) (λs4=>(s4.1,s4.2)) (l.length) 0 ([],[])=J (sdV l):=by
  refine bE (d7 (λi s=>s=sdV (l.take i)) rfl ?_ ?_)
  ·rintro i s hi rfl;refine bD hi (aG (by simp[sdV];omega) (aG (by simp[sdV];omega) (aj ?_)));show _=_;rw[iO hi];simp only[sdV,l8,jD,p8]
  ·rintro s rfl;rw[f6]
 unfold uB ut;rw[h];exact⟨rfl,rfl⟩
def rm(k:ao gr){l:List an}(h:∀c∈l,b8 gr c=Z):(∀x∈(sdV l).1,0<=x/\x<=2000000000)/\∀x∈(sdV l).2,0<=x/\x<=2000000000:=by
 refine⟨λx hx=>?_,λx hx=>?_⟩<;>obtain⟨c,hc,rfl⟩:=jE.1 hx<;>obtain⟨b1,b2,b3,b4⟩:=zB1 k (h c hc)
 ·exact⟨b1,b2⟩
 exact⟨b3,b4⟩
theorem Wd{gr:am}(k:ao gr):∀(l m:List Int) (o:Int),0<=o/\o<gr.P->R9 (zaO gr l m o)
 |[],_,o,h=>by have:=k.p;unfold zaO;exact⟨h.1,by omega⟩
 |_::_,[],o,h=>by have:=k.p;unfold zaO;exact⟨h.1,by omega⟩
 |x::l,e::m,o,h=>by
  have:=k.p;unfold zaO;exact Wd k l m _ ⟨nV _ (by omega),sI _ (by omega)⟩
def fC(k:ao gr)(l m:List Int):R9 (zaO gr l m 1):=Wd k l m 1 (by have:=k.p;exact⟨by omega,by omega⟩)
def ma{a r:List Int}{n:Nat}(h:a.length=n):iR (a++r) (n:Int)=J (a,r):=by
 unfold iR;rw[dG,eE (by omega),eE (by simp;omega),eE (by omega),eE (by simp;omega)];simp[h,KA]
def zAQ{a:List Int}{n:Nat}(h:a.length=n):iR a (n:Int)=J (a,[]):=by
 have:=ma (r:=[]) h
 rwa [rc]at this
def zg(x:Int)(r:List Int):rH (x::r)=J (x,r):=by
 unfold rH;have h:=ma (a:=[x]) (r:=r) (n:=1) rfl;show(iR ([x]++r) ((1:Nat):Int)).bind _=_;rw[h];rfl
structure Aae (gr:am) (n:Nat) (s t w x:List Int) (a b d f:Int):Prop where
 s:s.length=n/\∀z∈s,E9 gr.Q z
 t:t.length=n/\∀z∈t,E9 gr.Q z
 w:w.length=n/\∀z∈w,E9 gr.Q z
 x:x.length=n/\∀z∈x,E9 gr.Q z
 a:E9 gr.Q a
 b:E9 gr.Q b
 d:E9 gr.Q d
 f:E9 gr.Q f
def WG{n:Nat}{aH:List Int}(hl:aH.length=4*n+4)(he:aH.all (dn gr)=Z):∃s t w x a b d f,aH=s++(t++(a::b::d::f::(w++x)))/\Aae gr n s t w x a b d f:=by
 have h:=zD he;obtain⟨s,r,rfl,hs⟩:∃s r,aH=s++r/\s.length=n:=⟨aH.take n,aH.drop n,(De n aH).symm,by simp;omega⟩
 obtain⟨t,r,rfl,ht⟩:∃t r',r=t++r'/\t.length=n:=⟨r.take n,r.drop n,(De n r).symm,by simp at hl⊢;omega⟩
 simp only[bP]at hl
 match r,hl with
 |a::b::d::f::r,hl=>
  obtain⟨w,x,rfl,hw⟩:∃w x,r=w++x/\w.length=n:=⟨r.take n,r.drop n,(De n r).symm,by simp at hl⊢;omega⟩
  simp only[dX,bP]at hl;refine⟨s,t,w,x,a,b,d,f,rfl,⟨hs,λz hz=>h z ?_⟩,⟨ht,λz hz=>h z ?_⟩,⟨hw,λz hz=>h z ?_⟩,⟨by omega,λz hz=>h z ?_⟩,h a ?_,h b ?_,h d ?_,h f ?_⟩<;>simp_all
 |[],hl=>simp at hl;omega
 |[_],hl=>simp at hl;omega
 |[_,_],hl=>simp at hl;omega
 |[_,_,_],hl=>simp at hl;omega
section
attribute [local irreducible] chG ziG zez zaR zdT zcp zaO dtN smN yN
def pmL(gr:am)(key:Int)(B:ct)(l:List an)(perm rs s:List Int):List Int:=zdT key l (zaR gr key l perm rs) (zez gr B.Hs perm s)
def pmE(gr:am)(key:Int)(B:ct)(l:List an)(perm rs s:List Int):List Int:=ziG gr J9 (pmL gr key B l perm rs s) l.length
def pmO(gr:am)(key:Int)(B:ct)(l:List an)(perm rs s:List Int):List Int:=pQ (pmE gr key B l perm rs s) perm
def zkc(gr:am)(h:Int)(own t w x:List Int)(i:Nat):Int:=aP gr [av gr gr.G (w.getD i 0),av gr (hN gr h own t i) (x.getD i 0)]
def xt(gr:am)(key:Int)(Hs:List Int)(out:List an)(x:List Int)(a b d f:Int):List Int:=[av gr gr.G a,aP gr [av gr gr.G b,zaO gr Hs x 1],av gr gr.G d,aP gr [av gr gr.G (i64.wrap (0-f)),zaO gr (sdV out).1 x 1],aP gr [av gr key (i64.wrap (0-f)),zaO gr (sdV out).2 x 1]]
def pmC(gr:am)(key:Int)(B:ct)(l:List an)(perm rs s t w x:List Int)(a b d f:Int):List Int:=xt gr key B.Hs (zaR gr key l perm rs) x a b d f++(List.range l.length).map (zkc gr B.H (pmO gr key B l perm rs s) t w x)
def pmZ(gr:am)(key:Int)(B:ct)(l:List an)(perm rs s t w x:List Int)(a b d f:Int):Int:=chG gr BU (pmL gr key B l perm rs s++zcp gr B.H (pmO gr key B l perm rs s) t++pmC gr key B l perm rs s t w x a b d f)
def rsF(q z:Int)(w t:List Int)(i:Nat):Int:=(w.getD i 0+z*t.getD i 0)%q
def v6(gr:am)(z:Int)(n:Nat)(e own rs s t w x:List Int)(a b d f:Int):List Int:=[(a+z*smN gr.Q s n)%gr.Q,(b+z*dtN gr.Q s e n)%gr.Q,(d+z*yN gr.Q own t n)%gr.Q,(f+z*dtN gr.Q rs own n)%gr.Q]++(List.range n).map (rsF gr.Q z w t)++(List.range n).map (rsF gr.Q z x own)
def j3(gr:am)(key:Int)(B:ct)(l:List an)(perm rs s t w x:List Int)(a b d f:Int):cF:=
 ⟨zez gr B.Hs perm s,zcp gr B.H (pmO gr key B l perm rs s) t,⟨pmC gr key B l perm rs s t w x a b d f,[pmZ gr key B l perm rs s t w x a b d f],v6 gr (pmZ gr key B l perm rs s t w x a b d f) l.length (pmE gr key B l perm rs s) (pmO gr key B l perm rs s) rs s t w x a b d f⟩⟩
structure dS (gr:am) (key:Int) (B:ct) (l:List an) (perm rs s t w x:List Int) (a b d f:Int):Prop where
 m:mQ gr key l perm rs
 bs:tG gr l.length B
 c:Aae gr l.length s t w x a b d f
section
variable {gr:am}{key:Int}{B:ct}{l:List an}{perm rs s t w x:List Int}{a b d f:Int}
def dS.Mg(P:dS gr key B l perm rs s t w x a b d f):∀z∈perm,0<=z/\z<perm.length:=λz hz=>by have:=P.m.pr z hz;have:=P.m.pl;omega
def dS.bl(P:dS gr key B l perm rs s t w x a b d f):tG gr perm.length B:=by rw[P.m.pl];exact P.bs
def dS.fN(k:ao gr)(P:dS gr key B l perm rs s t w x a b d f):(zez gr B.Hs perm s).length=l.length/\∀z∈zez gr B.Hs perm s,aK gr z=Z:=by
 have h:=zBd k (ss:=s) P.m.pb (by rw[P.m.pl];exact P.bs.l) P.bs.s;exact⟨by rw[h.1,P.m.pl],h.2⟩
def dS.len(k:ao gr)(P:dS gr key B l perm rs s t w x a b d f):(pmL gr key B l perm rs s).length=1+5*l.length:=by
 have h1:=(P.fN k).1;have h2:=P.m.pl;unfold pmL;rw[Fp,kv,h1];omega
def dS.Ay(k:ao gr)(P:dS gr key B l perm rs s t w x a b d f):(pmL gr key B l perm rs s).all cD=Z:=
 Fe k P.m.key P.m.c (vx k P.m) (oH k (bm.2 (P.fN k).2))
def dS.e(k:ao gr)(P:dS gr key B l perm rs s t w x a b d f):(pmE gr key B l perm rs s).length=l.length/\∀z∈pmE gr key B l perm rs s,E9 gr.Q z:=Xp k _ _ _
def dS.o(k:ao gr)(P:dS gr key B l perm rs s t w x a b d f):(pmO gr key B l perm rs s).length=l.length/\∀z∈pmO gr key B l perm rs s,E9 gr.Q z:=by
 obtain⟨h1,h2⟩:=P.e k;refine⟨by rw[<-P.m.pl];simp[pmO,pQ],λz hz=>?_⟩;obtain⟨j,hj,rfl⟩:=jE.1 hz;have:=P.m.pr j hj;rw[bT (show j.toNat<_ by omega)];exact h2 _ (e9 _)
def dS.mp(k:ao gr)(P:dS gr key B l perm rs s t w x a b d f):(zcp gr B.H (pmO gr key B l perm rs s) t).length=l.length/\∀z∈zcp gr B.H (pmO gr key B l perm rs s) t,aK gr z=Z:=by
 unfold zcp;refine⟨by simp[(P.o k).1],λz hz=>?_⟩;obtain⟨j,hj,rfl⟩:=jE.1 hz;exact Rs k P.bs.h _ _ _
def zC4{h:Int}{es ts:List Int}{i:Nat}(hi:i<es.length):ix ([h]++zcp gr h es ts) (i:Int)=J (hN gr h es ts i):=by
 unfold zcp;cases i with
 |zero=>rfl
 |succ i=>exact J7 (by simp[show i<es.length by omega])
def dS.n8(k:ao gr)(P:dS gr key B l perm rs s t w x a b d f):(pmC gr key B l perm rs s t w x a b d f).length=l.length+5/\∀z∈pmC gr key B l perm rs s t w x a b d f,R9 z:=by
 have hh:=dV k P.bs.h;refine⟨by simp[pmC,xt],λz hz=>?_⟩;rcases jY.1 hz with h|h
 ·simp only[xt,fK,jf,jg]at h;rcases h with rfl|rfl|rfl|rfl|rfl
  ·exact bJ k _ _
  ·exact nC k (bJ k _ _) (fC k _ _)
  ·exact bJ k _ _
  ·exact nC k (bJ k _ _) (fC k _ _)
  exact nC k (bJ k _ _) (fC k _ _)
 obtain⟨i,_,rfl⟩:=jE.1 h;exact nC k (bJ k _ _) (bJ k _ _)
def dS.Ey(k:ao gr)(P:dS gr key B l perm rs s t w x a b d f):(pmL gr key B l perm rs s++zcp gr B.H (pmO gr key B l perm rs s) t++pmC gr key B l perm rs s t w x a b d f).length=6+7*l.length/\(pmL gr key B l perm rs s++zcp gr B.H (pmO gr key B l perm rs s) t++pmC gr key B l perm rs s t w x a b d f).all cD=Z:=by
 have h1:=P.len k;have h2:=(P.mp k).1;have h3:=(P.n8 k).1;refine⟨by rw[bP,bP,h1,h2,h3];omega,?_⟩;rw[kq,kq,P.Ay k,oH k (bm.2 (P.mp k).2),ZK (P.n8 k).2];rfl
def TH(P:dS gr key B l perm rs s t w x a b d f)(k:ao gr):qG key l (zaR gr key l perm rs) (zez gr B.Hs perm s)=J (pmL gr key B l perm rs s)/\rD key l (zaR gr key l perm rs) (zez gr B.Hs perm s)=J (pmL gr key B l perm rs s):=by
 have hn:=P.m.n;have dM:=P.m.pl;exact⟨Gn (by omega) (by rw[kv];omega) (by rw[(P.fN k).1];omega),yG (by omega) (by rw[kv];omega) (by rw[(P.fN k).1];omega)⟩
def YH(P:dS gr key B l perm rs s t w x a b d f)(k:ao gr):Ac gr J9 (pmL gr key B l perm rs s) (l.length:Int)=J (pmE gr key B l perm rs s,Z)/\DV gr J9 (pmL gr key B l perm rs s) (l.length:Int)=J (pmE gr key B l perm rs s):=by
 have hn:=P.m.n;exact⟨zxf k (by decide) (by rw[P.len k];omega) (P.Ay k) (by omega) (by omega),YW k (by decide) (by rw[P.len k];omega) (P.Ay k) (by omega)⟩
def zHB(P:dS gr key B l perm rs s t w x a b d f)(k:ao gr):FH (pmE gr key B l perm rs s) perm=J (pmO gr key B l perm rs s):=by
 have hn:=P.m.n;have dM:=P.m.pl;have h:=(P.e k).1;exact zNY (e:=pmE gr key B l perm rs s) (λz hz=>by have:=P.m.pr z hz;omega) (by omega)
def zDL(P:dS gr key B l perm rs s t w x a b d f)(k:ao gr):pj [pmL gr key B l perm rs s,zcp gr B.H (pmO gr key B l perm rs s) t,pmC gr key B l perm rs s t w x a b d f]=J (pmL gr key B l perm rs s++zcp gr B.H (pmO gr key B l perm rs s) t++pmC gr key B l perm rs s t w x a b d f):=by
 have hfl:[pmL gr key B l perm rs s,zcp gr B.H (pmO gr key B l perm rs s) t,pmC gr key B l perm rs s t w x a b d f].flatten=pmL gr key B l perm rs s++zcp gr B.H (pmO gr key B l perm rs s) t++pmC gr key B l perm rs s t w x a b d f:=by simp
 have h:=P.Ey k;have hn:=P.m.n;rw[En _ (by rw[hfl];omega),hfl]
def VX(P:dS gr key B l perm rs s t w x a b d f)(k:ao gr):mt gr BU (pmL gr key B l perm rs s++zcp gr B.H (pmO gr key B l perm rs s) t++pmC gr key B l perm rs s t w x a b d f)=J (pmZ gr key B l perm rs s t w x a b d f,Z)/\pY gr BU (pmL gr key B l perm rs s++zcp gr B.H (pmO gr key B l perm rs s) t++pmC gr key B l perm rs s t w x a b d f)=J (pmZ gr key B l perm rs s t w x a b d f):=by
 have h:=P.Ey k;have hn:=P.m.n;refine⟨?_,Lw k (by decide) (by omega) h.2⟩;rw[L1 k _ (by omega),aB (LW k (by decide) (by rw[show BU.size=9 from rfl];omega) h.2)];rfl
def dS.z(P:dS gr key B l perm rs s t w x a b d f)(k:ao gr):E9 gr.Q (pmZ gr key B l perm rs s t w x a b d f):=me k _ _
theorem Xw:xt gr key B.Hs (zaR gr key l perm rs) x a b d f++(List.range l.length).map (zkc gr B.H (pmO gr key B l perm rs s) t w x)=pmC gr key B l perm rs s t w x a b d f:=rfl
end
variable{n:Nat}
def zDa{gr:am}(k:ao gr){own t:List Int}(ho:own.length=n)(ht:t.length=n)(vv:∀z∈own,E9 gr.Q z)(hte:∀z∈t,E9 gr.Q z):aS (σ:=Int) (λqD eK=>
 (ix t qD).bind λFy=>
 (ix own qD).bind λfO=>
 (eU gr (i64.wrap (Fy+(i64.wrap (fO*eK))))).bind λfS=>
 J (.go fS)) (λeK=>eK) n 0 0=J (yN gr.Q own t n):=by
 have hp:=k.p;have hq:=k.q;refine bE (d7 (λi y=>y=yN gr.Q own t i) (by unfold yN;rfl) ?_ λy h=>h);rintro i y hi rfl;refine bD (show i<t.length by omega) (bD (show i<own.length by omega) (ag (kZ k _) (aj ?_)));rw[(iG (q:=gr.Q) (by omega) (iD hte (by omega)) (iD vv (by omega)) (Oc (by omega) _ _ _)).1];show _=yN gr.Q own t (i+1);conv=>rhs;unfold yN
 rw[bT (show i<t.length by omega),bT (show i<own.length by omega)]
def zxM{gr:am}(k:ao gr){h:Int}(hh:R9 h){own t w x A D E c5:List Int}(ho:own.length=n)(hw:w.length=n)(hx:x.length=n)(h5:c5.length=5)(hn:n<=100):aS (σ:=(List Int)×List Int×List Int×List Int×List Int) (λTT qm=>
 (ix w TT).bind λIb=>
 (ix ([h]++zcp gr h own t) TT).bind λx69=>
 (ix x TT).bind λQC=>
 (cP gr gr.G Ib).bind λu9=>
 (cP gr x69 QC).bind λoM=>
 (d9 gr [u9,oM]).bind λrQ=>
 gd ((qm.2.2.1.length+1)*8<=140737488355328/\qm.2.2.1.length+1<=4611686018427387904)<|
 J (.go (qm.1,qm.2.1,qm.2.2.1++[rQ],qm.2.2.2.1,qm.2.2.2.2))) (λqm=>(qm.1,qm.2.1,qm.2.2.1,qm.2.2.2.1,qm.2.2.2.2)) n 0 (A,zcp gr h own t,c5,D,E)=J (A,zcp gr h own t,c5++(List.range n).map (zkc gr h own t w x),D,E):=by
 refine bE (d7 (λi y=>y=(A,zcp gr h own t,c5++(List.range i).map (zkc gr h own t w x),D,E)) (by simp) ?_ (by rintro y rfl;rfl));rintro i y hi rfl;refine bD (show i<w.length by omega) (ag (zC4 (by omega)) (bD (show i<x.length by omega) (ag (fh k (fG k) _) (ag (fh k (NR k hh _ _ _) _) (ag (jL k (bJ k _ _) (bJ k _ _)) (aG (by simp;omega) (aj ?_)))))));show _=_;rw[mN,l8,<-gU];simp only[jD,p8,zkc,bT (show i<w.length by omega),bT (show i<x.length by omega)]
def zx3{gr:am}(k:ao gr){h:Int}(hh:R9 h){own t w x A D E c5:List Int}(ho:own.length=n)(hw:w.length=n)(hx:x.length=n)(h5:c5.length=5)(hn:n<=100):aS (σ:=(List Int)×List Int×List Int×List Int×List Int×Int) (λt7 eJ=>
 (ix w t7).bind λMG=>
 (ix x t7).bind λqS=>
 (cC gr gr.G MG).bind λA4=>
 (cC gr eJ.2.2.2.2.2 qS).bind λBE=>
 (ej gr [A4,BE]).bind λJW=>
 gd ((eJ.2.2.1.length+1)*8<=140737488355328/\eJ.2.2.1.length+1<=4611686018427387904)<|
 (ix eJ.2.1 t7).bind λqJ=>
 J (.go (eJ.1,eJ.2.1,eJ.2.2.1++[JW],eJ.2.2.2.1,eJ.2.2.2.2.1,qJ))) (λeJ=>(eJ.1,eJ.2.1,eJ.2.2.1,eJ.2.2.2.1,eJ.2.2.2.2.1)) n 0 (A,zcp gr h own t,c5,D,E,h)=J (A,zcp gr h own t,c5++(List.range n).map (zkc gr h own t w x),D,E):=by
 have gP:(zcp gr h own t).length=n:=by simp[zcp,ho]
 refine bE (d7 (λi y=>y=(A,zcp gr h own t,c5++(List.range i).map (zkc gr h own t w x),D,E,hN gr h own t i)) (by simp[hN]) ?_ (by rintro y rfl;rfl));rintro i y hi rfl;have oX:(zcp gr h own t)[i]'(by omega)=hN gr h own t (i+1):=by simp[zcp]
 refine bD (show i<w.length by omega) (bD (show i<x.length by omega) (ag (fb k (fG k) _) (ag (fb k (NR k hh _ _ _) _) (ag (iK k (bJ k _ _) (bJ k _ _)) (aG (by simp;omega) (bD (l:=zcp gr h own t) (show i<_ by omega) (aj ?_)))))));show _=_;rw[oX,mN,l8,<-gU];simp only[jD,p8,zkc,bT (show i<w.length by omega),bT (show i<x.length by omega)]
def V8{gr:am}(k:ao gr){z:Int}(hz:E9 gr.Q z){w t A B C D R:List Int}(hw:w.length=n/\∀z∈w,E9 gr.Q z)(ht:t.length=n/\∀z∈t,E9 gr.Q z)(hR:R.length<=1000)(hn:n<=100):aS (σ:=(List Int)×List Int×List Int×List Int×List Int) (λZs qh=>
 (ix w Zs).bind λAa0=>
 (ix t Zs).bind λLN=>
 (eU gr (i64.wrap (Aa0+(i64.wrap (z*LN))))).bind λM1=>
 gd ((qh.2.2.2.2.length+1)*8<=140737488355328/\qh.2.2.2.2.length+1<=4611686018427387904)<|
 J (.go (qh.1,qh.2.1,qh.2.2.1,qh.2.2.2.1,qh.2.2.2.2++[M1]))) (λqh=>(qh.1,qh.2.1,qh.2.2.1,qh.2.2.2.1,qh.2.2.2.2)) n 0 (A,B,C,D,R)=J (A,B,C,D,R++(List.range n).map (rsF gr.Q z w t)):=by
 have hp:=k.p;have hq:=k.q;refine bE (d7 (λi y=>y=(A,B,C,D,R++(List.range i).map (rsF gr.Q z w t))) (by simp) ?_ (by rintro y rfl;rfl));rintro i y hi rfl;refine bD (show i<w.length by omega) (bD (show i<t.length by omega) (ag (kZ k _) (aG (by simp;omega) (aj ?_))));rw[(iG (q:=gr.Q) (by omega) (iD (i:=i) hw.2 (by omega)) hz (iD (i:=i) ht.2 (by omega))).1];show _=_;rw[mN,l8,<-gU];simp only[jD,p8,rsF,bT (show i<w.length by omega),bT (show i<t.length by omega)]
def zsS{gr:am}(k:ao gr){z:Int}(hz:E9 gr.Q z){w t A B C D R:List Int}(hw:w.length=n/\∀z∈w,E9 gr.Q z)(ht:t.length=n/\∀z∈t,E9 gr.Q z)(hR:R.length<=1000)(hn:n<=100):aS (σ:=(List Int)×List Int×List Int×List Int×List Int) (λAa fk=>
 (ix w Aa).bind λxU=>
 (ix t Aa).bind λyt=>
 gd (gr.Q≠0)<|
 gd ((fk.2.2.2.2.length+1)*8<=140737488355328/\fk.2.2.2.2.length+1<=4611686018427387904)<|
 J (.go (fk.1,fk.2.1,fk.2.2.1,fk.2.2.2.1,fk.2.2.2.2++[(i64.wrap (xU+(i64.wrap (z*yt)))).tmod gr.Q]))) (λfk=>(fk.1,fk.2.1,fk.2.2.1,fk.2.2.2.1,fk.2.2.2.2)) n 0 (A,B,C,D,R)=J (A,B,C,D,R++(List.range n).map (rsF gr.Q z w t)):=by
 have hp:=k.p;have hq:=k.q;refine bE (d7 (λi y=>y=(A,B,C,D,R++(List.range i).map (rsF gr.Q z w t))) (by simp) ?_ (by rintro y rfl;rfl));rintro i y hi rfl;refine bD (show i<w.length by omega) (bD (show i<t.length by omega) (aG (by omega) (aG (by simp;omega) (aj ?_))));rw[(iG (q:=gr.Q) (by omega) (iD (i:=i) hw.2 (by omega)) hz (iD (i:=i) ht.2 (by omega))).2];show _=_;rw[mN,l8,<-gU];simp only[jD,p8,rsF,bT (show i<w.length by omega),bT (show i<t.length by omega)]
def zzf{gr:am}(k:ao gr){e t perm own:List Int}(hp:perm.length=n)(ht:t.length=n/\∀z∈t,E9 gr.Q z)(hb:∀z∈perm,0<=z/\z<e.length)(vv:∀z∈e,E9 gr.Q z)(ho:own=pQ e perm)(hn:n<=100):aS (σ:=(List Int)×Int) (λyZ cJ=>
 (ix perm yZ).bind λlL=>
 (ix e lL).bind λoU=>
 gd ((cJ.1.length+1)*8<=140737488355328/\cJ.1.length+1<=4611686018427387904)<|
 (ix t yZ).bind λfF=>
 gd (gr.Q≠0)<|
 J (.go (cJ.1++[oU],(i64.wrap (fF+(i64.wrap (oU*cJ.2)))).tmod gr.Q))) (λcJ=>(cJ.1,cJ.2)) perm.length 0 ([],0)=J (own,yN gr.Q own t n):=by
 have hP:=k.p;have hq:=k.q;have hol:own.length=n:=by rw[ho];simp[pQ,hp]
 refine bE (d7 (λi y=>y=(own.take i,yN gr.Q own t i)) (by unfold yN;rfl) ?_ ?_)
 ·rintro i y hi rfl;have lR:=iD hb hi;obtain⟨j,hj⟩:=fJ lR.1;have r8:j<e.length:=by omega
  have D6:own[i]'(by omega)=e[j]:=by
   simp only[ho,pQ,List.getElem_map,hj,dG];exact bT r8
  refine bD hi ?_;rw[hj];refine bD r8 (aG (by simp;omega) (bD (show i<t.length by omega) (aG (by omega) (aj ?_))));rw[(iG (q:=gr.Q) (by omega) (iD (i:=i) ht.2 (by omega)) (iD (i:=j) vv r8) (Oc (by omega) _ _ _)).2];show _=(own.take (i+1),yN gr.Q own t (i+1));conv=>rhs;unfold yN
  rw[bT (show i<t.length by omega),bT (show i<own.length by omega),iO (show i<own.length by omega),D6]
 rintro y rfl;rw[KA (by omega),hp]
attribute [local irreducible] pmL pmE pmO pmC pmZ zkc rsF sdV hN
section
variable {gr:am}{key:Int}{B:ct}{l:List an}{perm rs s t w x:List Int}{a b d f:Int}
def mF(l:List an):(sdV l).1.length=l.length/\(sdV l).2.length=l.length:=by unfold sdV;simp
set_option maxHeartbeats 4000000 in
def UZ(k:ao gr)(P:dS gr key B l perm rs s t w x a b d f):EU gr B key l perm rs (s++(t++(a::b::d::f::(w++x))))=J (j3 gr key B l perm rs s t w x a b d f,Z):=by
 have hp:=k.p;have hq:=k.q;have cN:0<gr.Q/\gr.Q<=2000000000:=by omega
 have hn:=P.m.n;have dM:=P.m.pl;have fm:=P.m.rl;have hk:=dV k P.m.key;have hH:=dV k P.bs.h;have Ej:=vx k P.m;have kA:(zaR gr key l perm rs).length=l.length:=by rw[kv,P.m.pl]
 have gf:=rm k Ej;have e8:=mF (zaR gr key l perm rs);rw[kA]at e8;obtain⟨hol,vv⟩:=P.o k;obtain⟨rY,zS⟩:=P.e k;have hz:=P.z k;have K5:=P.c.x.1;have L5:=P.c.w.1;have Q5:=P.c.t.1;have Ax:=P.c.s.1;have hB:=FW k P.bs.s;have Qr:=P.bs.l;have c1:=O5 k P.m;have c2:=zDX (ss:=s) k P.Mg (by omega) (by omega) P.bl;have c3:=(TH P k).1;have c4:=(YH P k).1;have c5:=zHB P k;have c6:=zCL k hH (es:=pmO gr key B l perm rs s) (ts:=t) (by omega) (by omega);have c7:=zDa k hol Q5 vv P.c.t.2;have c8:=(rO (l:=zaR gr key l perm rs) (by omega)).1;have c9:=zDL P k;have yo:=(VX P k).1;have sA:=zxM (A:=zez gr B.Hs perm s) (D:=[]) (E:=[]) (t:=t) k hH hol L5 K5 (show(xt gr key B.Hs (zaR gr key l perm rs) x a b d f).length=5 from rfl) (by omega);rw[Xw]at sA;have p1:=oV (m:=x) k hB (by omega);have p2:=oV (m:=x) k gf.1 (by omega);have p3:=oV (m:=x) k gf.2 (by omega);have d1:=((ZQ cN P.c.s.2).1.trans (by rw[Ax]):Ga s gr.Q=J (smN gr.Q s l.length))
 have d2:=((PI cN (m:=pmE gr key B l perm rs s) P.c.s.2 zS (by omega)).trans (by rw[Ax]):t9 s (pmE gr key B l perm rs s) gr.Q=J (dtN gr.Q s (pmE gr key B l perm rs s) l.length))
 have d3:=((PI cN (l:=rs) (m:=pmO gr key B l perm rs s) (zD P.m.re) vv (by omega)).trans (by rw[P.m.rl]):t9 rs (pmO gr key B l perm rs s) gr.Q=J (dtN gr.Q rs (pmO gr key B l perm rs s) l.length))
 have O1:=ML cN.1 s l.length;have uT:=AG cN.1 s (pmE gr key B l perm rs s) l.length;have kP:=AG cN.1 rs (pmO gr key B l perm rs s) l.length;have hy:=Oc cN.1 (pmO gr key B l perm rs s) t l.length;have hcn:(zcp gr B.H (pmO gr key B l perm rs s) t).length=l.length:=(P.mp k).1;have x1:=(kZ k _).trans (gn (λv=>J (v%gr.Q)) (iG (by omega) P.c.a hz O1).1);have x2:=(kZ k _).trans (gn (λv=>J (v%gr.Q)) (iG (by omega) P.c.b hz uT).1);have x3:=(kZ k _).trans (gn (λv=>J (v%gr.Q)) (iG (by omega) P.c.d hz hy).1);have x4:=(kZ k _).trans (gn (λv=>J (v%gr.Q)) (iG (by omega) P.c.f hz kP).1);have r1:=λR hR=>V8 (A:=zez gr B.Hs perm s) (B:=zcp gr B.H (pmO gr key B l perm rs s) t) (C:=pmC gr key B l perm rs s t w x a b d f) (D:=[pmZ gr key B l perm rs s t w x a b d f]) (R:=R) k hz P.c.w P.c.t hR (by omega)
 have r2:=λR hR=>V8 (A:=zez gr B.Hs perm s) (B:=zcp gr B.H (pmO gr key B l perm rs s) t) (C:=pmC gr key B l perm rs s t w x a b d f) (D:=[pmZ gr key B l perm rs s t w x a b d f]) (R:=R) k hz P.c.x ⟨hol,vv⟩ hR (by omega)
 clear e8 gf Ej hB;unfold EU;refine bE (ag (ma Ax) (ag (ma Q5) (ag (zg _ _) (ag (zg _ _) (ag (zg _ _) (ag (zg _ _) (ag (ma L5) (ag (zAQ K5) ?_))))))));dsimp only;refine ag c1 (ag c2 (ag c3 (ag c4 (bt rfl (ag c5 (ag c6 (ag c7 (ag c8 ?_))))))));refine ag (fh k (fG k) _) (ag (fh k (fG k) _) (ag p1 (ag (jL k (bJ k _ _) (fC k _ _)) (ag (fh k (fG k) _) (ag (fh k (fG k) _) (ag p2 (ag (jL k (bJ k _ _) (fC k _ _)) (ag (fh k hk _) (ag p3 (ag (jL k (bJ k _ _) (fC k _ _)) (aG ?_ (ag rfl (ag sA (ag c9 (ag yo (bt rfl ?_))))))))))))))))
 ·simp only[dX,ia];omega
 refine ag d1 (ag x1 (ag d2 (ag x2 (ag x3 (ag d3 (ag x4 (ag (r1 _ ?_) (ag (r2 _ ?_) (aj ?_)))))))))
 ·simp
 ·simp;omega
 unfold j3 v6;rfl
end
end
section
attribute [local irreducible] chG ziG zez zaR zdT zcp zaO dtN smN yN
section
variable {gr:am}{key:Int}{B:ct}{l:List an}{perm rs s t w x:List Int}{a b d f:Int}
def cM{m:Nat}(h:m<=1000000){z:Int}(e:z=(m:Int)):i64.wrap z=(m:Int):=by rw[e];exact aI (by omega) (by omega)
def zCk(k:ao gr)(P:dS gr key B l perm rs s t w x a b d f):yX gr key l (zaR gr key l perm rs) (zez gr B.Hs perm s)=J (pmE gr key B l perm rs s):=by
 unfold yX;exact bE (ag (TH P k).2 (ag (YH P k).2 (aj rfl)))
def zCQ(k:ao gr)(P:dS gr key B l perm rs s t w x a b d f){ch rr:List Int}:zA gr key l (zaR gr key l perm rs) ⟨zez gr B.Hs perm s,zcp gr B.H (pmO gr key B l perm rs s) t,⟨pmC gr key B l perm rs s t w x a b d f,ch,rr⟩⟩=J (pmZ gr key B l perm rs s t w x a b d f):=by
 have hn:=P.m.n;have h1:=P.len k;have h2:=(P.mp k).1;have h3:=(P.n8 k).1;unfold zA;dsimp only;exact bE (ag (TH P k).2 (aG (by rw[h1,h2];omega) (aG (by rw[bP,h1,h2,h3];omega) (ag (VX P k).2 (aj rfl)))))
theorem zDD:pmO gr key B l perm rs s=pQ (pmE gr key B l perm rs s) perm:=rfl
attribute [local irreducible] pmL pmE pmO pmC pmZ zkc rsF sdV hN
set_option maxHeartbeats 4000000 in
def zHh(k:ao gr)(P:dS gr key B l perm rs s t w x a b d f):FD gr key B l perm rs (s++(t++(a::b::d::f::(w++x))))=J (j3 gr key B l perm rs s t w x a b d f):=by
 have hp:=k.p;have hq:=k.q;have cN:0<gr.Q/\gr.Q<=2000000000:=by omega
 have hn:=P.m.n;have dM:=P.m.pl;have fm:=P.m.rl;have hk:=dV k P.m.key;have hH:=dV k P.bs.h;have Ej:=vx k P.m;have kA:(zaR gr key l perm rs).length=l.length:=by rw[kv,P.m.pl]
 have gf:=rm k Ej;have e8:=mF (zaR gr key l perm rs);rw[kA]at e8;obtain⟨hol,vv⟩:=P.o k;obtain⟨rY,zS⟩:=P.e k;have hz:=P.z k;have K5:=P.c.x.1;have L5:=P.c.w.1;have Q5:=P.c.t.1;have Ax:=P.c.s.1;have hB:=FW k P.bs.s;have Qr:=P.bs.l;have c1:=PQ k P.m;have c2:=zCE (ss:=s) k P.Mg (by omega) (by omega) P.bl;have c3:=zCk k P;have c6:=zDN k hH (es:=pmO gr key B l perm rs s) (ts:=t) (by omega) (by omega);have c7:=zzf (e:=pmE gr key B l perm rs s) (own:=pmO gr key B l perm rs s) k dM P.c.t (λz hz=>by have:=P.m.pr z hz;omega) zS zDD (by omega);have c8:=(rO (l:=zaR gr key l perm rs) (by omega)).2;have c9:=zCQ k P (ch:=[]) (rr:=[]);have sA:=zx3 (A:=zez gr B.Hs perm s) (D:=[]) (E:=[]) (t:=t) k hH hol L5 K5 (show(xt gr key B.Hs (zaR gr key l perm rs) x a b d f).length=5 from rfl) (by omega);rw[Xw]at sA;have p1:=oY (m:=x) k hB (by omega);have p2:=oY (m:=x) k gf.1 (by omega);have p3:=oY (m:=x) k gf.2 (by omega);have d1:=((ZQ cN P.c.s.2).2.trans (by rw[Ax]):Fr s gr.Q=J (smN gr.Q s l.length))
 have d2:=((Rf cN (m:=pmE gr key B l perm rs s) P.c.s.2 zS (by omega)).trans (by rw[Ax]):v5 s (pmE gr key B l perm rs s) gr.Q=J (dtN gr.Q s (pmE gr key B l perm rs s) l.length))
 have d3:=((Rf cN (l:=rs) (m:=pmO gr key B l perm rs s) (zD P.m.re) vv (by omega)).trans (by rw[P.m.rl]):v5 rs (pmO gr key B l perm rs s) gr.Q=J (dtN gr.Q rs (pmO gr key B l perm rs s) l.length))
 have O1:=ML cN.1 s l.length;have uT:=AG cN.1 s (pmE gr key B l perm rs s) l.length;have kP:=AG cN.1 rs (pmO gr key B l perm rs s) l.length;have hy:=Oc cN.1 (pmO gr key B l perm rs s) t l.length;have x1:=(iG (by omega) P.c.a hz O1).2;have x2:=(iG (by omega) P.c.b hz uT).2;have x3:=(iG (by omega) P.c.d hz hy).2;have x4:=(iG (by omega) P.c.f hz kP).2;have r1:=λR hR=>zsS (A:=zez gr B.Hs perm s) (B:=zcp gr B.H (pmO gr key B l perm rs s) t) (C:=pmC gr key B l perm rs s t w x a b d f) (D:=[pmZ gr key B l perm rs s t w x a b d f]) (R:=R) k hz P.c.w P.c.t hR (by omega)
 have r2:=λR hR=>zsS (A:=zez gr B.Hs perm s) (B:=zcp gr B.H (pmO gr key B l perm rs s) t) (C:=pmC gr key B l perm rs s t w x a b d f) (D:=[pmZ gr key B l perm rs s t w x a b d f]) (R:=R) k hz P.c.x ⟨hol,vv⟩ hR (by omega)
 have hQ:gr.Q≠0:=by omega
 clear e8 gf Ej hB;have w2:i64.wrap (2*(l.length:Int))=((2*l.length:Nat):Int):=cM (by omega) (by omega);have w21:i64.wrap (((2*l.length:Nat):Int)+1)=((2*l.length+1:Nat):Int):=cM (by omega) (by omega);have w22:i64.wrap (((2*l.length:Nat):Int)+2)=((2*l.length+2:Nat):Int):=cM (by omega) (by omega);have w23:i64.wrap (((2*l.length:Nat):Int)+3)=((2*l.length+3:Nat):Int):=cM (by omega) (by omega);have w24:i64.wrap (((2*l.length:Nat):Int)+4)=((2*l.length+4:Nat):Int):=cM (by omega) (by omega);have w3:i64.wrap (3*(l.length:Int))=((3*l.length:Nat):Int):=cM (by omega) (by omega);have w34:i64.wrap (((3*l.length:Nat):Int)+4)=((3*l.length+4:Nat):Int):=cM (by omega) (by omega);generalize hc:s++(t++(a::b::d::f::(w++x)))=aH;have Abp:aH.length=4*l.length+4:=by rw[<-hc];simp;omega
 have hs:(aH.take l.length).drop 0=s:=by rw[<-hc,<-Ax];simp
 have ht:(aH.take (2*l.length)).drop l.length=t:=by
  rw[<-hc,<-gU,AaK (by simp;omega),OI Ax]
 have hw:(aH.take (3*l.length+4)).drop (2*l.length+4)=w:=by
  have e:aH=(s++(t++[a,b,d,f]))++(w++x):=by rw[<-hc];simp
  rw[e,<-gU,AaK (by simp;omega),OI (by simp;omega)]
 have hx:(aH.take aH.length).drop (3*l.length+4)=x:=by
  have e:aH=(s++(t++([a,b,d,f]++w)))++x:=by rw[<-hc];simp
  rw[f6,e,OI (by simp;omega)]
 have tX:∀(i:Nat) (y:Int),i<4->[a,b,d,f][i]? =J y->ix aH ((2*l.length+i:Nat):Int)=J y:=λi y hi hy=>by
  have e:aH=(s++t)++([a,b,d,f]++(w++x)):=by rw[<-hc];simp
  refine J7 ?_;have h0:(s++t).length=2*l.length:=by simp;omega
  rw[e,fT (by omega),h0,UF,fw (by simpa using hi),hy]
 unfold FD;simp only[w2,w21,w22,w23,w24,w3,w34,dG,hs,ht,hw,hx];refine bE (ag c1 (aG (by omega) (aG (by omega) (aG (by omega) (aG (by omega) (aG (by omega) (ag (tX 0 a (by omega) rfl) (ag (tX 1 b (by omega) rfl) (ag (tX 2 d (by omega) rfl) (ag (tX 3 f (by omega) rfl) (aG (by omega) (aG (by omega) (aG (by omega) (aG (by omega) (aG (by omega) ?_)))))))))))))));refine ag c2 (ag c3 (ag c7 (ag c6 (ag c8 ?_))));refine ag (fb k (fG k) _) (ag (fb k (fG k) _) (ag p1 (ag (iK k (bJ k _ _) (fC k _ _)) (ag (fb k (fG k) _) (ag (fb k (fG k) _) (ag p2 (ag (iK k (bJ k _ _) (fC k _ _)) (ag (fb k hk _) (ag p3 (ag (iK k (bJ k _ _) (fC k _ _)) (ag sA (ag c9 ?_))))))))))));refine aG hQ (ag d1 (aG hQ (ag d2 (aG hQ (ag d3 (aG hQ ?_))))));dsimp only;rw[x1,x2,x3,x4];refine ag (r1 _ ?_) (ag (r2 _ ?_) (aj ?_))
 ·simp
 ·simp;omega
 unfold j3 v6;rfl
end
end
abbrev sk:cF:=⟨[],[],⟨[],[],[]⟩⟩
def fI(gr:am)(key:Int)(l:List an):Bool:=aK gr key&&(cX 1 12 l.length&&l.all (b8 gr))
noncomputable def j5(gr:am)(n:Nat)(perm rs:List Int):Bool:=decide (perm.length=n)&&d4 perm&&(decide (rs.length=n)&&rs.all (dn gr))
def u0{gr:am}(k:ao gr)(key:Int)(l:List an){B:ct}{tb:Bool}(hB:lN gr (l.length:Int)=J (B,tb)):s9 gr key l=J (if fI gr key l=Z then(B,tb)else(⟨0,[]⟩,aa)):=by
 unfold s9;rw[VE,LU.2 k,LB k,yh k,hB];unfold fI;cases aK gr key<;>cases (cX 1 12 l.length&&l.all (b8 gr))<;>rfl
def L6{gr:am}(k:¬ao gr)(key:Int)(l:List an):s9 gr key l=J (⟨0,[]⟩,aa):=by
 unfold s9;rw[VE,oO k];rfl
def Nc{gr:am}{key:Int}{l:List an}{perm rs:List Int}:(fI gr key l&&j5 gr l.length perm rs)=Z↔mQ gr key l perm rs:=zGY
structure PmX (gr:am) (key:Int) (l:List an) (perm rs aH:List Int) (p:cF):Prop where
 k:ao gr
 x:∃(B:ct) (s t w x:List Int) (a b d f:Int),aH=s++(t++(a::b::d::f::(w++x)))/\dS gr key B l perm rs s t w x a b d f/\p=j3 gr key B l perm rs s t w x a b d f/\lN gr (l.length:Int)=J (B,Z)
def zL9(gr:am)(key:Int){l:List an}(hl:l.length<=20)(perm rs aH:List Int):∃p t,pJ gr key l perm rs aH=J (p,t)/\uR gr key l perm rs aH=J (p,t)/\(t=aa->p=sk)/\(t=Z->PmX gr key l perm rs aH p):=by
 have w4:i64.wrap (i64.wrap (4*(l.length:Int))+4)=((4*l.length+4:Nat):Int):=by
  rw[aI (n:=4*(l.length:Int)) (by omega) (by omega)];exact cM (by omega) (by omega)
 by_cases k:ao gr
 ·have hq:=k.q;have hp:=k.p;obtain⟨B,tb,b1,b2,b3⟩:=TU k (n:=l.length) (by omega);have e2:((rs.length:Int) !=(l.length:Int))= !decide (rs.length=l.length):=by by_cases h:rs.length=l.length<;>simp[h];omega
  have e3:((aH.length:Int) !=((4*l.length+4:Nat):Int))= !decide (aH.length=4*l.length+4):=by by_cases h:aH.length=4*l.length+4<;>simp[h];omega
  cases h1:fI gr key l
  ·refine⟨sk,aa,?_,?_,λ_=>rfl,λh=>by cases h⟩
   ·unfold pJ;rw[u0 k key l b2,h1];rfl
   unfold uR;rw[uK k,show(aK gr key&&(cX 1 12 l.length&&l.all (b8 gr)))=fI gr key l from rfl,h1];rfl
  cases h2:j5 gr l.length perm rs
  ·refine⟨sk,aa,?_,?_,λ_=>rfl,λh=>by cases h⟩
   ·unfold pJ;rw[u0 k key l b2,h1,AA k (by omega),show(decide (perm.length=l.length)&&d4 perm&&(decide (rs.length=l.length)&&rs.all (dn gr)))=j5 gr l.length perm rs from rfl,h2];cases tb<;>rfl
   unfold uR;rw[uK k,show(aK gr key&&(cX 1 12 l.length&&l.all (b8 gr)))=fI gr key l from rfl,h1,Q7 perm l.length (by omega),zH (by omega) (by omega),e2];unfold j5 at h2;cases h3:(decide (perm.length=l.length)&&d4 perm)
   ·simp
   cases h4:decide (rs.length=l.length)
   ·simp
   rw[h3,h4]at h2;have h2:rs.all (dn gr)=aa:=by simpa using h2
   simp[h2]
  have m:=Nc.1 (show(fI gr key l&&j5 gr l.length perm rs)=Z by rw[h1,h2];rfl)
  have I:∀cc,vf gr aH=J cc->pJ gr key l perm rs aH=if(tb&&(decide (aH.length=4*l.length+4)&&cc))=Z then(EU gr B key l perm rs aH).bind (λz=>J (z.1,z.2))else J (sk,aa):=by
   intro cc RX;unfold pJ;rw[u0 k key l b2,h1,AA k (by omega),show(decide (perm.length=l.length)&&d4 perm&&(decide (rs.length=l.length)&&rs.all (dn gr)))=j5 gr l.length perm rs from rfl,h2,w4,e3,RX];cases tb<;>cases decide (aH.length=4*l.length+4)<;>cases cc<;>rfl
  have S:∀cc,r6 gr aH=J cc->uR gr key l perm rs aH=if(tb&&(decide (aH.length=4*l.length+4)&&cc))=Z then(FD gr key B l perm rs aH).bind (λz=>J (z,Z))else J (sk,aa):=by
   intro cc RX;unfold uR;have h4:decide (rs.length=l.length)=Z:=by simp[m.rl]
   have h5:(decide (perm.length=l.length)&&d4 perm)=Z:=by simp[m.pl,m.pb]
   rw[uK k,show(aK gr key&&(cX 1 12 l.length&&l.all (b8 gr)))=fI gr key l from rfl,h1,Q7 perm l.length (by omega),zH (l:=rs) (by omega) (by omega),e2,h4,h5,m.re,w4,e3,RX,b1];cases tb<;>cases decide (aH.length=4*l.length+4)<;>cases cc<;>rfl
  have I2:=I _ (yd (by omega) (by omega) aH);have S2:=S _ (zH (by omega) (by omega) aH);by_cases hc:(tb&&(decide (aH.length=4*l.length+4)&&aH.all (dn gr)))=Z
  ·rw[aB hc]at I2 S2;simp only[bI,eC]at hc;obtain⟨ht,DP,oX⟩:=hc;subst ht;obtain⟨s,t,w,x,a,b,d,f,rfl,hC⟩:=WG DP oX;have P:dS gr key B l perm rs s t w x a b d f:=⟨m,b3 rfl,hC⟩
   rw[UZ k P]at I2;rw[zHh k P]at S2;refine⟨j3 gr key B l perm rs s t w x a b d f,Z,I2,S2,λh=>(by cases h),λ_=>⟨k,B,s,t,w,x,a,b,d,f,rfl,P,rfl,b2⟩⟩
  rw[az hc]at I2 S2;refine⟨sk,aa,I2,S2,λ_=>rfl,λh=>by cases h⟩
 refine⟨sk,aa,?_,?_,λ_=>rfl,λh=>by cases h⟩
 ·unfold pJ;rw[L6 k];rfl
 unfold uR;rw[Eg k];rfl
def zDu{gr:am}{key:Int}{l:List an}(hl:l.length<=20){perm rs aH:List Int}{p:cF}(h:PmX gr key l perm rs aH p):p.cu.length<=1000/\p.aF.length<=1000/\p.Pi.aC.length<=1000/\p.Pi.aV.length<=1000/\p.Pi.aD.length<=1000:=by
 obtain⟨k,B,s,t,w,x,a,b,d,f,_,P,rfl,_⟩:=h;have h1:=(P.fN k).1;have h2:=(P.mp k).1;have h3:=(P.n8 k).1;refine⟨?_,?_,?_,by simp[j3],by simp[j3,v6];omega⟩
 ·show(zez gr B.Hs perm s).length<=_;omega
 ·show(zcp gr B.H (pmO gr key B l perm rs s) t).length<=_;omega
 show(pmC gr key B l perm rs s t w x a b d f).length<=_;omega
def oa(gr:am)(n:Nat)(p:cF):Bool:=decide (p.cu.length=n)&&(decide (p.aF.length=n)&&(decide (p.Pi.aC.length=n+5)&&(decide (p.Pi.aV.length=1)&&(decide (p.Pi.aD.length=2*n+4)&&(p.cu.all (aK gr)&&(p.aF.all (aK gr)&&(p.Pi.aC.all (aK gr)&&p.Pi.aD.all (dn gr))))))))
def iC(a b:Nat):((a:Int)==(b:Int))=decide (a=b):=by by_cases h:a=b<;>simp[h];omega
def zF1{gr:am}(k:ao gr){n:Nat}(hn:n<=1000)(p:cF):Ho gr p (n:Int)=J (oa gr n p):=by
 have hq:=k.q;have hp:=k.p;have e1:i64.wrap ((n:Int)+5)=((n+5:Nat):Int):=cM (by omega) (by omega)
 have e2:i64.wrap (i64.wrap (2*(n:Int))+4)=((2*n+4:Nat):Int):=by
  rw[aI (n:=2*(n:Int)) (by omega) (by omega)];exact cM (by omega) (by omega)
 unfold Ho;have e3:((p.Pi.aV.length:Int)==1)=decide (p.Pi.aV.length=1):=iC _ 1;rw[e1,e2,iC,iC,iC,iC,e3,A8 k,A8 k,A8 k,yd (by omega) (by omega)];unfold oa;generalize decide (p.cu.length=n)=a1;generalize decide (p.aF.length=n)=a2;generalize decide (p.Pi.aC.length=n+5)=a3;generalize decide (p.Pi.aV.length=1)=a4;generalize decide (p.Pi.aD.length=2*n+4)=a5;generalize p.cu.all (aK gr)=a6;generalize p.aF.all (aK gr)=a7;generalize p.Pi.aC.all (aK gr)=a8;generalize p.Pi.aD.all (dn gr)=a9;cases a1<;>cases a2<;>cases a3<;>cases a4<;>cases a5<;>cases a6<;>cases a7<;>cases a8<;>rfl
def zFY{gr:am}(k:ao gr){n:Nat}(hn:n<=1000)(p:cF):JM gr (n:Int) p=J (oa gr n p):=by
 have hq:=k.q;have hp:=k.p;have e1:i64.wrap ((n:Int)+5)=((n+5:Nat):Int):=cM (by omega) (by omega)
 have e2:i64.wrap (i64.wrap (2*(n:Int))+4)=((2*n+4:Nat):Int):=by
  rw[aI (n:=2*(n:Int)) (by omega) (by omega)];exact cM (by omega) (by omega)
 unfold JM;have e3:((p.Pi.aV.length:Int)==1)=decide (p.Pi.aV.length=1):=iC _ 1;rw[e1,e2,iC,iC,iC,iC,e3,xD k,xD k,xD k,zH (by omega) (by omega)];unfold oa;generalize decide (p.cu.length=n)=a1;generalize decide (p.aF.length=n)=a2;generalize decide (p.Pi.aC.length=n+5)=a3;generalize decide (p.Pi.aV.length=1)=a4;generalize decide (p.Pi.aD.length=2*n+4)=a5;generalize p.cu.all (aK gr)=a6;generalize p.aF.all (aK gr)=a7;generalize p.Pi.aC.all (aK gr)=a8;generalize p.Pi.aD.all (dn gr)=a9;cases a1<;>cases a2<;>cases a3<;>cases a4<;>cases a5<;>cases a6<;>cases a7<;>cases a8<;>rfl
def alN(q:Int)(e:List Int):Nat->Int
 |0=>1
 |i+1=>(alN q e i*e.getD i 0)%q
theorem MI{q:Int}(hq:1<q)(e:List Int):∀i,E9 q (alN q e i)
 |0=>⟨by show(0:Int)<=1;omega,hq⟩
 |i+1=>f8 (by omega) _
def uh{q a b:Int}(hq:q<=2000000000)(ha:E9 q a)(hb:E9 q b):i64.wrap (a*b)=a*b/\(i64.wrap (a*b)).tmod q=(a*b)%q:=by
 have h1:0<=a*b:=sJ ha.1 hb.1;have h2:a*b<=2000000000*2000000000:=wg (by have:=ha.2;omega) (by have:=hb.2;omega) hb.1 (by omega);rw[aI (n:=a*b) (by omega) (by omega)];exact⟨rfl,je h1⟩
def zzj{gr:am}(k:ao gr){e:List Int}(he:∀z∈e,E9 gr.Q z):aS (σ:=Int) (λfQ bV=>
 (ix e fQ).bind λiv=>
 (eU gr (i64.wrap (bV*iv))).bind λnM=>
 J (.go nM)) (λbV=>bV) e.length 0 1=J (alN gr.Q e e.length):=by
 have hp:=k.p;have hq:=k.q;refine bE (d7 (λi y=>y=alN gr.Q e i) rfl ?_ λy h=>h);rintro i y hi rfl;refine bD hi (ag (kZ k _) (aj ?_));rw[(uh (q:=gr.Q) (by omega) (MI (by omega) _ _) (iD he hi)).1];show _=(alN gr.Q e i*e.getD i 0)%gr.Q;rw[bT hi]
def zzk{gr:am}(k:ao gr){e:List Int}(he:∀z∈e,E9 gr.Q z):aS (σ:=Int) (λi16 rS=>
 (ix e i16).bind λN1=>
 gd (gr.Q≠0)<|
 J (.go ((i64.wrap (rS*N1)).tmod gr.Q))) (λrS=>rS) e.length 0 1=J (alN gr.Q e e.length):=by
 have hp:=k.p;have hq:=k.q;refine bE (d7 (λi y=>y=alN gr.Q e i) rfl ?_ λy h=>h);rintro i y hi rfl;refine bD hi (aG (by omega) (aj ?_));rw[(uh (q:=gr.Q) (by omega) (MI (by omega) _ _) (iD he hi)).2];show _=(alN gr.Q e i*e.getD i 0)%gr.Q;rw[bT hi]
def zvh{gr:am}(k:ao gr){x:Int}(h:aK gr x=Z){s:Int}(hs:0<=s):av gr (av gr x s) (-1)=av gr x (0-s):=by
 have hq:=k.q;have e1:(-1:Int)%gr.Q=(gr.Q-1)%gr.Q:=by rw[show gr.Q-1=-1+gr.Q by omega,Uu]
 have h1:av gr (av gr x s) (-1)=av gr (av gr x s) (gr.Q-1):=X5 _ e1;rw[h1,Wh k h hs (by omega)];refine X5 _ ?_;rw[show s*(gr.Q-1)=(0-s)+gr.Q*s by grind,GC]
def bef(h:Int)(ch:List Int)(i:Nat):Int:=([h]++ch).getD i 0
def DI{gr:am}(k:ao gr){h:Int}(hh:aK gr h=Z){ch:List Int}(hc:∀z∈ch,aK gr z=Z)(i:Nat)(hi:i<=ch.length):ix ([h]++ch) (i:Int)=J (bef h ch i)/\R9 (bef h ch i):=by
 have hl:i<([h]++ch).length:=by simp;omega
 unfold bef;rw[jx hl,bT hl];refine⟨rfl,dV k ?_⟩;rcases jY.1 (e9 hl)with h1|h1
 ·rw[gB]at h1;rw[h1];exact hh
 exact hc _ h1
section
attribute [local irreducible] chG ziG zdT zaO alN sdV
def wvL(key:Int)(l out:List an)(p:cF):List Int:=zdT key l out p.cu
def wvE(gr:am)(key:Int)(l out:List an)(p:cF):List Int:=ziG gr J9 (wvL key l out p) l.length
def wvZ(gr:am)(key:Int)(l out:List an)(p:cF):Int:=chG gr BU (wvL key l out p++p.aF++p.Pi.aC)
def JH(gr:am)(B:ct)(l:List an)(e fN:List Int)(last al:Int):List Int:=[aP gr [aP gr fN,av gr (aP gr B.Hs) (-1)],zaO gr fN e 1,aP gr [last,av gr B.H (0-al)],zaO gr (sdV l).1 e 1,zaO gr (sdV l).2 e 1]
def Fs(gr:am)(key:Int)(B:ct)(out:List an)(x r:List Int):List Int:=[av gr gr.G (r.getD 0 0),aP gr [av gr gr.G (r.getD 1 0),zaO gr B.Hs x 1],av gr gr.G (r.getD 2 0),aP gr [av gr gr.G (i64.wrap (0-r.getD 3 0)),zaO gr (sdV out).1 x 1],aP gr [av gr key (i64.wrap (0-r.getD 3 0)),zaO gr (sdV out).2 x 1]]
def zjx(gr:am)(h:Int)(ch x r:List Int)(i:Nat):Int:=aP gr [av gr gr.G (r.getD (4+i) 0),av gr (bef h ch i) (x.getD i 0)]
def hlB(gr:am)(z c b d:Int):Bool:=aP gr [c,av gr b z]==d
def pi(gr:am)(z:Int)(c left right:List Int)(i:Nat):Bool:=hlB gr z (c.getD i 0) (left.getD i 0) (right.getD i 0)
def mI(gr:am)(B:ct)(l:List an)(e:List Int)(p:cF):List Int:=JH gr B l e p.cu (p.aF.getD (l.length-1) 0) (alN gr.Q e e.length)++p.aF
def m8(gr:am)(key:Int)(B:ct)(n:Nat)(out:List an)(p:cF):List Int:=Fs gr key B out (p.Pi.aD.drop (n+4)) p.Pi.aD++(List.range n).map (zjx gr B.H p.aF (p.Pi.aD.drop (n+4)) p.Pi.aD)
def tu(gr:am)(key:Int)(B:ct)(l out:List an)(p:cF):Bool:=
 decide (out.length=l.length)&&(oa gr l.length p&&((p.Pi.aV.getD 0 0==wvZ gr key l out p)&&(List.range (5+l.length)).all (pi gr (wvZ gr key l out p) p.Pi.aC (mI gr B l (wvE gr key l out p) p) (m8 gr key B l.length out p))))
structure kX (gr:am) (key:Int) (B:ct) (l out:List an) (p:cF):Prop where
 key:aK gr key=Z
 n:1<=l.length/\l.length<=12
 lc:∀c∈l,b8 gr c=Z
 oc:∀c∈out,b8 gr c=Z
 ol:out.length=l.length
 bs:tG gr l.length B
 fN:p.cu.length=l.length/\∀z∈p.cu,aK gr z=Z
 mp:p.aF.length=l.length/\∀z∈p.aF,aK gr z=Z
 n8:p.Pi.aC.length=l.length+5/\∀z∈p.Pi.aC,aK gr z=Z
 cL:p.Pi.aV.length=1
 rsp:p.Pi.aD.length=2*l.length+4/\∀z∈p.Pi.aD,E9 gr.Q z
section
variable {gr:am}{key:Int}{B:ct}{l out:List an}{p:cF}
def kX.len(V:kX gr key B l out p):(wvL key l out p).length=1+5*l.length:=by
 have h1:=V.fN.1;have h2:=V.ol;unfold wvL;rw[Fp,h1];omega
def kX.Ay(k:ao gr)(V:kX gr key B l out p):(wvL key l out p).all cD=Z:=Fe k V.key V.lc V.oc (oH k (bm.2 V.fN.2))
def kX.Rw(V:kX gr key B l out p):qG key l out p.cu=J (wvL key l out p)/\rD key l out p.cu=J (wvL key l out p):=by
 have hn:=V.n;have h1:=V.fN.1;have h2:=V.ol;exact⟨Gn (by omega) (by omega) (by omega),yG (by omega) (by omega) (by omega)⟩
def kX.YF(k:ao gr)(V:kX gr key B l out p):Ac gr J9 (wvL key l out p) (l.length:Int)=J (wvE gr key l out p,Z)/\yX gr key l out p.cu=J (wvE gr key l out p):=by
 have hn:=V.n;refine⟨zxf k (by decide) (by rw[V.len];omega) (V.Ay k) (by omega) (by omega),?_⟩;unfold yX;exact bE (ag V.Rw.2 (ag (YW k (by decide) (by rw[V.len];omega) (V.Ay k) (by omega)) (aj rfl)))
def kX.e(k:ao gr)(V:kX gr key B l out p):(wvE gr key l out p).length=l.length/\∀z∈wvE gr key l out p,E9 gr.Q z:=Xp k _ _ _
def kX.Ey(k:ao gr)(V:kX gr key B l out p):(wvL key l out p++p.aF++p.Pi.aC).length=6+7*l.length/\(wvL key l out p++p.aF++p.Pi.aC).all cD=Z:=by
 have h1:=V.len;have h2:=V.mp.1;have h3:=V.n8.1;refine⟨by rw[bP,bP,h1,h2,h3];omega,?_⟩;rw[kq,kq,V.Ay k,oH k (bm.2 V.mp.2),oH k (bm.2 V.n8.2)];rfl
def kX.cat(k:ao gr)(V:kX gr key B l out p):pj [wvL key l out p,p.aF,p.Pi.aC]=J (wvL key l out p++p.aF++p.Pi.aC):=by
 have hfl:[wvL key l out p,p.aF,p.Pi.aC].flatten=wvL key l out p++p.aF++p.Pi.aC:=by simp
 have h:=V.Ey k;have hn:=V.n;rw[En _ (by rw[hfl];omega),hfl]
def kX.Abt(k:ao gr)(V:kX gr key B l out p):mt gr BU (wvL key l out p++p.aF++p.Pi.aC)=J (wvZ gr key l out p,Z):=by
 have h:=V.Ey k;have hn:=V.n;rw[L1 k _ (by omega),aB (LW k (by decide) (by rw[show BU.size=9 from rfl];omega) h.2)];rfl
def kX.Ab1(k:ao gr)(V:kX gr key B l out p):zA gr key l out p=J (wvZ gr key l out p):=by
 have h:=V.Ey k;have hn:=V.n;have h1:=V.len;have h2:=V.mp.1;have h3:=V.n8.1;unfold zA;exact bE (ag V.Rw.2 (aG (by rw[h1,h2];omega) (aG (by rw[bP,h1,h2,h3];omega) (ag (Lw k (by decide) (by omega) h.2) (aj rfl)))))
def SZ(hk:aK gr key=Z)(hn:1<=l.length/\l.length<=12)(lc:∀c∈l,b8 gr c=Z)(oc:∀c∈out,b8 gr c=Z)(hb:tG gr l.length B)(ho:out.length=l.length)(hs:oa gr l.length p=Z):kX gr key B l out p:=by
 simp only[oa,bI,eC]at hs;obtain⟨a1,a2,a3,a4,a5,a6,a7,a8,a9⟩:=hs;exact⟨hk,hn,lc,oc,ho,hb,⟨a1,bm.1 a6⟩,⟨a2,bm.1 a7⟩,⟨a3,bm.1 a8⟩,a4,⟨a5,zD a9⟩⟩
def F8(k:ao gr){x y w z:Int}(hx:R9 x)(hy:R9 y):sN x y w gr.P gr.Q gr.G z=J (hlB gr z x y w):=by
 unfold sN;show(cP gr y z).bind _=_;rw[fh k hy,aR];show(d9 gr _).bind _=_;rw[jL k hx (bJ k _ _),aR];rfl
def zxS(k:ao gr){h z:Int}(hh:aK gr h=Z){ch c x r:List Int}{n:Nat}(hc:c.length=n+5/\∀z∈c,aK gr z=Z)(Cy:ch.length=n/\∀z∈ch,aK gr z=Z)(hx:x.length=n)(hr:r.length=2*n+4)(hn:n<=100)(b:Bool):aS (σ:=Bool) (λGV S6=>
 ((if S6=Z then(
 (ix c (i64.wrap (5+GV))).bind λmi=>
 (ix ch GV).bind λiS=>
 (ix r (i64.wrap (4+GV))).bind λjB=>
 (ix ([h]++ch) GV).bind λxU=>
 (ix x GV).bind λyt=>
 (cP gr gr.G jB).bind λz96=>
 (cP gr xU yt).bind λz97=>
 (d9 gr [z96,z97]).bind λP0=>
 (sN mi iS P0 gr.P gr.Q gr.G z).bind λRt=>
 J Rt)else(
 J aa):Option Bool).bind λxg=>
 J (.go xg))) (λS6=>S6) n 0 b=J (b&&(List.range n).all λi=>hlB gr z (c.getD (5+i) 0) (ch.getD i 0) (zjx gr h ch x r i)):=by
 refine bE (d7 (λi y=>y=(b&&(List.range i).all λi=>hlB gr z (c.getD (5+i) 0) (ch.getD i 0) (zjx gr h ch x r i))) (by simp) ?_ λy h=>h);rintro i y hi hy;have h5:5+i<c.length:=by omega
 have h4:4+i<r.length:=by omega
 have G4:i<ch.length:=by omega
 have Cf:i<x.length:=by omega
 have hb:=DI k hh Cy.2 i (by omega);refine ay (ψ:=λy'=>y'=(y&&hlB gr z (c.getD (5+i) 0) (ch.getD i 0) (zjx gr h ch x r i))) (aZ (λg=>?_) λg=>aj (by rw[g];rfl)) λy' im=>aj ?_
 ·rw[show i64.wrap (5+(i:Int))=((5+i:Nat):Int)from cM (by omega) (by omega),show i64.wrap (4+(i:Int))=((4+i:Nat):Int)from cM (by omega) (by omega)];refine bD h5 (bD G4 (bD h4 (ag hb.1 (bD Cf (ag (fh k (fG k) _) (ag (fh k hb.2 _) (ag (jL k (bJ k _ _) (bJ k _ _)) (ag (F8 k (dV k (iD hc.2 h5)) (dV k (iD Cy.2 G4))) (aj ?_)))))))));rw[g,gV,bT h5,bT G4];unfold zjx;rw[bT h4,bT Cf]
 show y'=_;rw[im,hy,mN,kq];simp[KG]
def zx9(p:Nat->Bool)(n:Nat):(List.range (5+n)).all p=((p 0&&(p 1&&(p 2&&(p 3&&p 4))))&&(List.range n).all λi=>p (5+i)):=by
 rw[Aan,kq,Un]
 have:(List.range 5).all p=(p 0&&(p 1&&(p 2&&(p 3&&p 4)))):=by
  show(p 0&&(p 1&&(p 2&&(p 3&&(p 4&&Z)))))=_;rw[A2]
 rw[this];rfl
end
attribute [local irreducible] wvL wvE wvZ hlB zjx bef
section
variable {gr:am}{key:Int}{B:ct}{l out:List an}{p:cF}
set_option maxHeartbeats 4000000 in
def Wb(k:ao gr)(hk:aK gr key=Z)(hn:1<=l.length/\l.length<=12)(lc:∀c∈l,b8 gr c=Z)(oc:∀c∈out,b8 gr c=Z)(hb:tG gr l.length B):FQ gr B key l out p=J (tu gr key B l out p):=by
 have hp:=k.p;have hq:=k.q;unfold FQ;refine bE (ay (ψ:=(· = !(decide (out.length=l.length)&&oa gr l.length p))) ?_ ?_)
 ·rw[show((out.length:Int) !=(l.length:Int))= !decide (out.length=l.length)by rw[bne,iC]];refine aZ (λg=>aj ?_) λg=>ag (zF1 k (by omega) p) (aj ?_)
  ·have:decide (out.length=l.length)=aa:=by simpa using g
   rw[this];rfl
  have:decide (out.length=l.length)=Z:=by simpa using g
  rw[this];rfl
 rintro b rfl;refine aZ (λg=>aj ?_) λg=>?_
 ·rw[qc]at g;unfold tu;rw[<-KG,g];rfl
 have g:(decide (out.length=l.length)&&oa gr l.length p)=Z:=by simpa using g
 obtain⟨g1,g2⟩:=A3.1 g;have V:=SZ (p:=p) hk hn lc oc hb (we g1) g2;have hv:tu gr key B l out p=((p.Pi.aV.getD 0 0==wvZ gr key l out p)&&(List.range (5+l.length)).all (pi gr (wvZ gr key l out p) p.Pi.aC (mI gr B l (wvE gr key l out p) p) (m8 gr key B l.length out p))):=by unfold tu;rw[g1,g2];rfl
 rw[hv];obtain⟨rY,zS⟩:=V.e k;have kd:0<p.Pi.aV.length:=by rw[V.cL];omega
 refine ag V.Rw.1 (ag (V.YF k).1 (ag (V.cat k) (ag (V.Abt k) (ay (ψ:=(· =(p.Pi.aV.getD 0 0 !=wvZ gr key l out p))) (bt rfl (bt rfl (bD (k:=0) kd (aj (by rw[bT kd]))))) ?_))));rintro b rfl;refine aZ (λg=>aj ?_) λg=>?_
 ·rw[bne,qc]at g;rw[g];rfl
 rw[bne,Bool.not_eq_false']at g;rw[g,gV];have w4:i64.wrap ((l.length:Int)+4)=((l.length+4:Nat):Int):=cM (by omega) (by omega);have w1:i64.wrap ((l.length:Int)-1)=((l.length-1:Nat):Int):=cM (by omega) (by omega);have yD:(p.Pi.aD.take p.Pi.aD.length).drop (l.length+4)=p.Pi.aD.drop (l.length+4):=by rw[f6]
 have fm:=V.rsp.1;have gZ:(p.Pi.aD.drop (l.length+4)).length=l.length:=by rw[OC,fm];omega
 rw[w4,w1,dG,yD];generalize hX:p.Pi.aD.drop (l.length+4)=x at gZ;refine aG (by omega) (aG (by omega) (ag (zzj k zS) (ag (rO (by omega)).1 (ag (rO (by rw[V.ol];omega)).1 ?_))));have e8:=rm k lc;have lj:=rm k oc;have rB:=mF l;have hol:=mF out;rw[V.ol]at hol;have hH:=dV k hb.h;have hK:=dV k hk;have Bv:=FW k hb.s;have Bc:=FW k V.fN.2;have Qr:=hb.l;have gP:=V.fN.1;have ZA:=V.mp.1;have Cj:∀i,i<5->∃h:i<p.Pi.aC.length,R9 p.Pi.aC[i]:=λi hi=>⟨by rw[V.n8.1];omega,dV k (iD V.n8.2 (by rw[V.n8.1];omega))⟩
 obtain⟨m0,t0⟩:=Cj 0 (by omega);obtain⟨m1,t1⟩:=Cj 1 (by omega);obtain⟨m2,t2⟩:=Cj 2 (by omega);obtain⟨m3,t3⟩:=Cj 3 (by omega);obtain⟨m4,t4⟩:=Cj 4 (by omega);have r0:0<p.Pi.aD.length:=by omega
 have r1:1<p.Pi.aD.length:=by omega
 have r2:2<p.Pi.aD.length:=by omega
 have r3:3<p.Pi.aD.length:=by omega
 have BB:l.length-1<p.aF.length:=by omega
 have B3:=MI (show 1<gr.Q by omega) (wvE gr key l out p) (wvE gr key l out p).length;have xP:=dV k (iD V.mp.2 BB);have qB:=FU k Bv;have qC:=FU k Bc
 have f0:pi gr (wvZ gr key l out p) p.Pi.aC (mI gr B l (wvE gr key l out p) p) (m8 gr key B l.length out p) 0=hlB gr (wvZ gr key l out p) p.Pi.aC[0] (aP gr [aP gr p.cu,av gr (aP gr B.Hs) (-1)]) (av gr gr.G p.Pi.aD[0]):=by
  rw[<-bT (d:=0) m0,<-bT (d:=0) r0];rfl
 have f1:pi gr (wvZ gr key l out p) p.Pi.aC (mI gr B l (wvE gr key l out p) p) (m8 gr key B l.length out p) 1=hlB gr (wvZ gr key l out p) p.Pi.aC[1] (zaO gr p.cu (wvE gr key l out p) 1) (aP gr [av gr gr.G p.Pi.aD[1],zaO gr B.Hs x 1]):=by
  rw[<-bT (d:=0) m1,<-bT (d:=0) r1,<-hX];rfl
 have f2:pi gr (wvZ gr key l out p) p.Pi.aC (mI gr B l (wvE gr key l out p) p) (m8 gr key B l.length out p) 2=hlB gr (wvZ gr key l out p) p.Pi.aC[2] (aP gr [p.aF[l.length-1],av gr (av gr B.H (alN gr.Q (wvE gr key l out p) (wvE gr key l out p).length)) (-1)]) (av gr gr.G p.Pi.aD[2]):=by
  rw[zvh k hb.h B3.1,<-bT (d:=0) m2,<-bT (d:=0) r2,<-bT (d:=0) BB];rfl
 have f3:pi gr (wvZ gr key l out p) p.Pi.aC (mI gr B l (wvE gr key l out p) p) (m8 gr key B l.length out p) 3=hlB gr (wvZ gr key l out p) p.Pi.aC[3] (zaO gr (sdV l).1 (wvE gr key l out p) 1) (aP gr [av gr gr.G (i64.wrap (0-p.Pi.aD[3])),zaO gr (sdV out).1 x 1]):=by
  rw[<-bT (d:=0) m3,<-bT (d:=0) r3,<-hX];rfl
 have f4:pi gr (wvZ gr key l out p) p.Pi.aC (mI gr B l (wvE gr key l out p) p) (m8 gr key B l.length out p) 4=hlB gr (wvZ gr key l out p) p.Pi.aC[4] (zaO gr (sdV l).2 (wvE gr key l out p) 1) (aP gr [av gr key (i64.wrap (0-p.Pi.aD[3])),zaO gr (sdV out).2 x 1]):=by
  rw[<-bT (d:=0) m4,<-bT (d:=0) r3,<-hX];rfl
 have f5:((List.range l.length).all λi=>pi gr (wvZ gr key l out p) p.Pi.aC (mI gr B l (wvE gr key l out p) p) (m8 gr key B l.length out p) (5+i))=(List.range l.length).all λi=>hlB gr (wvZ gr key l out p) (p.Pi.aC.getD (5+i) 0) (p.aF.getD i 0) (zjx gr B.H p.aF x p.Pi.aD i):=by
  rw[UG,bm,bm];refine forall_congr' λi=>forall_congr' λhi=>?_
  have hi:=kp.1 hi
  have a1:(mI gr B l (wvE gr key l out p) p).getD (5+i) 0=p.aF.getD i 0:=by
   unfold mI;rw[nv,fT (by simp[JH]),nv];congr 2;simp[JH]
  have a2:(m8 gr key B l.length out p).getD (5+i) 0=zjx gr B.H p.aF x p.Pi.aD i:=by
   unfold m8;rw[nv,fT (by simp[Fs]),hX];have:5+i-(Fs gr key B out x p.Pi.aD).length=i:=by simp[Fs]
   rw[this];simp[hi]
  unfold pi;rw[a1,a2]
 rw[zx9,f0,f1,f2,f3,f4,f5];have p0:=RM k (b:=aP gr p.cu) (x:=aP gr B.Hs) qC.1 qC.2 qB.1 qB.2;have p2:=RM k (b:=p.aF[l.length-1]) (x:=av gr B.H (alN gr.Q (wvE gr key l out p) (wvE gr key l out p).length)) xP.1 xP.2 (bJ k _ _).1 (bJ k _ _).2;have u1:=oV k (m:=wvE gr key l out p) Bc (by omega);have u2:=oV k (m:=x) Bv (by omega);have u3:=oV k (m:=wvE gr key l out p) e8.1 (by omega);have u4:=oV k (m:=wvE gr key l out p) e8.2 (by omega);have u5:=oV k (m:=x) lj.1 (by omega);have u6:=oV k (m:=x) lj.2 (by omega);have mm:=λa b ha hb=>jL k (x:=a) (y:=b) ha hb
 generalize xJ:hlB gr (wvZ gr key l out p) p.Pi.aC[0] (aP gr [aP gr p.cu,av gr (aP gr B.Hs) (-1)]) (av gr gr.G p.Pi.aD[0])=b0;generalize eG:hlB gr (wvZ gr key l out p) p.Pi.aC[1] (zaO gr p.cu (wvE gr key l out p) 1) (aP gr [av gr gr.G p.Pi.aD[1],zaO gr B.Hs x 1])=b1;generalize fW:hlB gr (wvZ gr key l out p) p.Pi.aC[2] (aP gr [p.aF[l.length-1],av gr (av gr B.H (alN gr.Q (wvE gr key l out p) (wvE gr key l out p).length)) (-1)]) (av gr gr.G p.Pi.aD[2])=b2;generalize rK:hlB gr (wvZ gr key l out p) p.Pi.aC[3] (zaO gr (sdV l).1 (wvE gr key l out p) 1) (aP gr [av gr gr.G (i64.wrap (0-p.Pi.aD[3])),zaO gr (sdV out).1 x 1])=b3;generalize tI:hlB gr (wvZ gr key l out p) p.Pi.aC[4] (zaO gr (sdV l).2 (wvE gr key l out p) 1) (aP gr [av gr key (i64.wrap (0-p.Pi.aD[3])),zaO gr (sdV out).2 x 1])=b4;refine ay (ψ:=(· =(b0&&(b1&&(b2&&(b3&&b4)))))) ?_ ?_
 ·refine bD (k:=0) m0 (bD (k:=0) r0 (ag (AL k Bc) (ag (AL k Bv) (ag p0 (ag (fh k (fG k) _) (ag ((F8 k t0 (nC k qC (bJ k _ _))).trans (gn J xJ)) (aZ (λg=>?_) λg=>aj (by rw[g];rfl))))))));rw[g,gV];refine bD (k:=1) m1 (bD (k:=1) r1 (ag u1 (ag (fh k (fG k) _) (ag u2 (ag (jL k (bJ k _ _) (fC k _ _)) (ag ((F8 k t1 (fC k _ _)).trans (gn J eG)) (aZ (λg=>?_) λg=>aj (by rw[g];rfl))))))));rw[g,gV];refine bD (k:=2) m2 (bD BB (bD (k:=2) r2 (ag (fh k hH _) (ag p2 (ag (fh k (fG k) _) (ag ((F8 k t2 (nC k xP (bJ k _ _))).trans (gn J fW)) (aZ (λg=>?_) λg=>aj (by rw[g];rfl))))))));rw[g,gV];refine bD (k:=3) m3 (bD (k:=3) r3 (ag u3 (ag (fh k (fG k) _) (ag u5 (ag (jL k (bJ k _ _) (fC k _ _)) (ag ((F8 k t3 (fC k _ _)).trans (gn J rK)) (aZ (λg=>?_) λg=>aj (by rw[g];rfl))))))));rw[g,gV];exact bD (k:=4) m4 (ag u4 (ag (fh k hK _) (ag u6 (ag (jL k (bJ k _ _) (fC k _ _)) (ag ((F8 k t4 (fC k _ _)).trans (gn J tI)) (aj rfl))))))
 rintro b rfl;exact aG (by simp only[dX,ia];omega) (ag rfl (ag (zxS k hb.h V.n8 V.mp gZ fm (by omega) _) (aj rfl)))
end
end
end Go.Pm
