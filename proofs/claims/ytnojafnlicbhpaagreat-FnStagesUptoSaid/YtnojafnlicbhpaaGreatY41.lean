/-
  FnStages: plain laws.
  No condition.
-/
import Derived.Test.YtnojafnlicbhpaaGreatM41c
import Derived.Test.YtnojafnlicbhpaaGreatPmZ
open Bool renaming false→aa,true→Z
open Option renaming some→J
set_option linter.defProp false
namespace Go.Pm
open Go.Am IntKind
def eM:=@Int.emod_emod
def f6:=@List.take_length
def iO:=@List.take_succ_eq_append_getElem
def je:=@Int.tmod_eq_emod_of_nonneg
def jf:=@List.not_mem_nil
def jg:=@or_false
def kq:=@List.all_append
def mO:=@List.range_succ
def mP:=@Int.mul_emod
def nw:=@List.getD_eq_getElem?_getD
def nW:=@Int.emod_nonneg
def o7:=@Int.natCast_emod
def o8:=@Nat.pow_mul
def o9:=@Int.add_emod
def qe:=@Nat.pow_mod
def qg:=@Int.emod_eq_of_lt
def sI:=@Int.sub_emod
def sJ:=@Int.emod_lt_of_pos
def sK:=@Int.mul_nonneg
def t7:=@Nat.mul_mod
def wg:=@of_decide_eq_true
def wh:=@Int.mul_le_mul
def yD:=@List.all_eq_false
def A2:=@Int.le_refl
def A3:=@Bool.and_true
def A4:=@Bool.and_eq_true_iff
def De:=@decide_eq_false
def Df:=@List.take_append_drop
def GC:=@List.foldl_append
def GD:=@Nat.one_pow
def GE:=@Int.add_mul_emod_self_left
def KG:=@List.mem_iff_getElem
def KH:=@List.all_nil
def KI:=@Int.mul_assoc
def KJ:=@Bool.and_assoc
def OL:=@Nat.mod_mod
def OM:=@Nat.pow_add
def ON:=@Classical.byContradiction
def OO:=@List.drop_left'
def Ur:=@Int.tdiv_eq_ediv_of_nonneg
def Us:=@Nat.mod_mul_mod
def Ut:=@Nat.pow_two
def Uu:=@Nat.pow_zero
def Uv:=@Int.tmod_lt_of_pos
def Uw:=@Int.lt_tmod_of_pos
def Ux:=@Int.add_emod_right
def Uy:=@Int.sub_zero
def Uz:=@of_decide_eq_false
def UA:=@Nat.dvd_of_mod_eq_zero
def UB:=@Int.mul_one
def UC:=@List.nodup_cons
def UD:=@Int.dvd_of_emod_eq_zero
def UE:=@List.pairwise_map
def UF:=@Int.natCast_pow
def UG:=@Int.mul_le_mul_of_nonneg_left
def UH:=@Int.one_mul
def UI:=@Nat.add_sub_cancel_left
def UJ:=@Bool.eq_iff_iff
def a0B:=@BitVec.toNat_and
def a0C:=@Int.fdiv_eq_ediv_of_nonneg
def a0D:=@Int.tmod_def
def a0E:=@Int.mul_emod_right
def a0F:=@Int.ofNat_dvd_left
def a0G:=@Int.emod_eq_zero_of_dvd
def a0H:=@Int.pow_succ
def a0I:=@List.Pairwise.imp_of_mem
def a0J:=@List.take_append_getElem
def a0K:=@Int.mul_comm
def a0L:=@beq_self_eq_true
def a0M:=@List.take_left'
def a2i:=@Nat.mod_eq_zero_of_dvd
def a2j:=@Bool.and_eq_false_iff
def a2k:=@List.nodup_iff_pairwise_ne
def a2l:=@List.pairwise_iff_getElem
def a2m:=@List.pairwise_lt_range
def a2n:=@Int.mul_tdiv_cancel
def a2o:=@List.mem_erase_of_ne
def a2p:=@List.length_erase_of_mem
def a2q:=@List.getElem?_set_self
def a2r:=@List.getElem?_set_ne
set_option linter.unusedVariables false
set_option linter.unusedSimpArgs false
variable{a at_ b h i key n q dE x y:Int}{c:an}{c0 code l m perm rs ss:List Int}{e k p:Nat}{gr:am}{out:List an}{s:ByteArray}
def zxb{r:List Int}(h1:k<l.length)(h2:k<r.length)(h:l.take k=r.take k)(he:l[k]=r[k]):l.take (k+1)=r.take (k+1):=by
 rw[iO h1,iO h2,h,he]
def Hv(a b:List Int):CH a b=J (decide (a=b)):=by
 unfold CH;by_cases hl:a.length=b.length
 ·have e:((a.length:Int) !=(b.length:Int))=aa:=by simp[hl]
  simp only[e,p8,l7]
  obtain⟨r,hb,hp⟩:=Xy (σ:=Unit) (β:=Unit ⊕ Bool) (body:=λi16 sk=>
   (ix a i16).bind λqH=>
   (ix b i16).bind λn6=>
   if(qH !=n6)=Z then(
   J (.out (.inr aa)))else(
   J (.go ()))) (stop:=λsk=>.inl ()) (m:=a.length) (i0:=0) (s0:=()) (λk _=>a.take k=b.take k)
   (λr=>Sum.elim (λ_=>a=b) (λr=>r=aa/\a≠b) r) (by simp)
   (by
     rintro k s hk hI;have yS:k<b.length:=by omega
     rw[KE];simp only[jt hk,jt yS,aR];by_cases he:a[k]=b[k]
     ·exact .inl ⟨(),by simp[he],zxb hk yS hI he⟩
     ·exact .inr ⟨.inr aa,by simp[he],rfl,λh=>by subst h;exact he rfl⟩)
   (by
     rintro s hI;rw[f6,hl,f6]at hI
     exact hI)
  rw[hb,aR];cases r with
  |inl u=>have hp:a=b:=hp;simp[hp]
  |inr r=>
   obtain⟨h1,h2⟩:r=aa/\a≠b:=hp;simp[h1,h2]
 have e:((a.length:Int) !=(b.length:Int))=Z:=by simp;omega
 have:a≠b:=λh=>hl (by rw[h])
 simp[e,this]
def tS(a b c:Int):pD a b c=J (decide (b<=a)&&decide (a<=c)):=by
 unfold pD;by_cases h:b<=a<;>simp[h]
def rY(a b c:Int):oi a b c=J (decide (b<=a)&&decide (a<=c)):=by
 unfold oi;by_cases h:b<=a<;>simp[h]
def WN(a:Int):GU a=J (decide (2<=a)&&decide (a<=2000000000)):=by
 unfold GU;rw[tS];rfl
def pK(a b:Nat):(a:Int).tmod (b:Int)=((a%b:Nat):Int):=by rw[je (by omega)];exact(o7 _ _).symm
def zxc(a b:Nat):(a:Int).tdiv (b:Int)=((a/b:Nat):Int):=by rw[Ur (by omega)];exact(Int.natCast_ediv _ _).symm
def zm(a b:Nat):(a:Int)*(b:Int)=((a*b:Nat):Int):=(C9 _ _).symm
def zBC(he:e<=9223372036854775807):i64.wrap (BitVec.ofInt IntKind.i64.bits (e:Int)&&&BitVec.ofInt IntKind.i64.bits 1).toNat=((e%2:Nat):Int):=by
 have h1:(BitVec.ofInt IntKind.i64.bits (e:Int)&&&BitVec.ofInt IntKind.i64.bits 1).toNat=e%2:=by
  rw[a0B]
  have a1:(BitVec.ofInt IntKind.i64.bits (e:Int)).toNat=e:=by
   rw[BitVec.toNat_ofInt];have:IntKind.i64.bits=64:=rfl;rw[this];omega
  have a2:(BitVec.ofInt IntKind.i64.bits 1).toNat=1:=by decide
  rw[a1,a2,Nat.and_one_is_mod]
 rw[h1,aI (by omega) (by omega)]
def zBf{a m:Nat}(ha:a<=2000000000)(hm:1<=m)(qn:m<=2000000000)(he:e<=9223372036854775807):nA (a:Int) (e:Int) (m:Int)=J ((a^e%m:Nat):Int):=by
 unfold nA
 refine bE (aG (by omega) (ay (φ:=(· =((a^e%m:Nat):Int))) (sO (φ:=(· =((a^e%m:Nat):Int))) (λs=>∃x y o:Nat,s=((x:Int),(y:Int),(o:Int))/\x<=2000000000/\y<=e/\o<m/\o*x^y%m=a^e%m) (λs=>s.2.1.toNat)
  ⟨a,e,1%m,by rw[show(1:Int)=((1:Nat):Int)from rfl,pK],ha,cy _,mN _ (by omega),by rw[Us,Kw]⟩ ?_) λx hx=>aj hx))
 rintro s ⟨x,y,o,rfl,hx,hy,ho,hi⟩;refine aZ (λh0=>?_) λh0=>?_
 ·have h0:0<y:=by simpa using h0
  have hox:o*x<=4000000000000000000:=gj (rj (show o<=2000000000 by omega) hx) (by decide);have hxx:x*x<=4000000000000000000:=gj (rj hx hx) (by decide);refine ay (ψ:=λo'=>∃k:Nat,o'=(k:Int)/\k<m/\k*(x*x)^(y/2)%m=a^e%m) ?_ ?_
  ·simp only[zBC (show y<=9223372036854775807 by omega)];refine aZ (λh1=>aG (by omega) (aj ⟨o*x%m,?_,mN _ (by omega),?_⟩)) λh1=>aj ⟨o,rfl,ho,?_⟩
   ·rw[zm,aI (by omega) (by omega),pK]
   ·have h1:y%2=1:=by
     have:((y%2:Nat):Int)=1:=by simpa using h1
     omega
    rw[Us,<-hi,<-Ut,<-o8,Nat.mul_assoc,<-Nat.pow_succ'];congr 3;omega
   have h1:y%2=0:=by
    have:¬((y%2:Nat):Int)=1:=by simpa using h1
    omega
   rw[<-hi,<-Ut,<-o8];congr 3;omega
  rintro o' ⟨k,rfl,hk,yS⟩;refine aG (by omega) (aj ⟨⟨x*x%m,y/2,k,?_,by have:=mN (x*x) (show 0<m by omega);omega,by omega,hk,?_⟩,?_⟩)
  ·rw[zm,aI (by omega) (by omega),pK];have e3:(y:Int).fdiv 2=((y/2:Nat):Int):=by rw[a0C _ (by omega)];rfl
   show(_,(y:Int).fdiv 2,_)=_;rw[e3]
  ·rw[t7,<-qe,<-t7];exact yS
  show((y:Int).fdiv 2).toNat<(y:Int).toNat;rw[a0C _ (by omega)];omega
 have h0:y=0:=by
  have:¬(0<y):=by simpa using h0
  omega
 subst h0;refine aj ?_;show(o:Int)=_;rw[Uu,Ky,nU ho]at hi;rw[hi]
def zzW{a m:Nat}(ha:a<=2000000000)(hm:1<=m)(qn:m<=2000000000)(he:e<=9223372036854775807):k9 (a:Int) (e:Int) (m:Int)=J ((a^e%m:Nat):Int):=by
 unfold k9
 refine bE (aG (by omega) (ay (φ:=(· =((a^e%m:Nat):Int))) (sO (φ:=(· =((a^e%m:Nat):Int))) (λs=>∃x y o:Nat,s=((x:Int),(y:Int),(o:Int))/\x<=2000000000/\y<=e/\o<m/\o*x^y%m=a^e%m) (λs=>s.2.1.toNat)
  ⟨a,e,1%m,by rw[show(1:Int)=((1:Nat):Int)from rfl,pK],ha,cy _,mN _ (by omega),by rw[Us,Kw]⟩ ?_) λx hx=>aj hx))
 rintro s ⟨x,y,o,rfl,hx,hy,ho,hi⟩;refine aZ (λh0=>?_) λh0=>?_
 ·have h0:0<y:=by simpa using h0
  have hox:o*x<=4000000000000000000:=gj (rj (show o<=2000000000 by omega) hx) (by decide);have hxx:x*x<=4000000000000000000:=gj (rj hx hx) (by decide);have e2:(y:Int).tmod 2=((y%2:Nat):Int):=pK y 2;refine ay (ψ:=λo'=>∃k:Nat,o'=(k:Int)/\k<m/\k*(x*x)^(y/2)%m=a^e%m) ?_ ?_
  ·simp only[e2];refine aZ (λh1=>aG (by omega) (aj ⟨o*x%m,?_,mN _ (by omega),?_⟩)) λh1=>aj ⟨o,rfl,ho,?_⟩
   ·rw[zm,aI (by omega) (by omega),pK]
   ·have h1:y%2=1:=by
     have:((y%2:Nat):Int)=1:=by simpa using h1
     omega
    rw[Us,<-hi,<-Ut,<-o8,Nat.mul_assoc,<-Nat.pow_succ'];congr 3;omega
   have h1:y%2=0:=by
    have:¬((y%2:Nat):Int)=1:=by simpa using h1
    omega
   rw[<-hi,<-Ut,<-o8];congr 3;omega
  rintro o' ⟨k,rfl,hk,yS⟩;have e3:(y:Int).tdiv 2=((y/2:Nat):Int):=zxc y 2;refine aG (by omega) (aj ⟨⟨x*x%m,y/2,k,?_,by have:=mN (x*x) (show 0<m by omega);omega,by omega,hk,?_⟩,?_⟩)
  ·simp only[e3];rw[zm,aI (n:=((x*x:Nat):Int)) (by omega) (by omega),pK,aI (n:=((y/2:Nat):Int)) (by omega) (by omega)]
  ·rw[t7,<-qe,<-t7];exact yS
  show(i64.wrap ((y:Int).tdiv 2)).toNat<(y:Int).toNat;rw[e3,aI (by omega) (by omega)];omega
 have h0:y=0:=by
  have:¬(0<y):=by simpa using h0
  omega
 subst h0;refine aj ?_;show(o:Int)=_;rw[Uu,Ky,nU ho]at hi;rw[hi]
def O9(h0:0<q)(h1:q<=2000000000):AV a q=J (a%q):=by
 unfold AV;rw[eE (by omega),eE (by omega)];have b1:a.tmod q<q:=Uv a h0
 have b2: -q<a.tmod q:=by
  have:=Uw a h0;omega
 rw[aI (by omega) (by omega),je (by omega)];congr 1;rw[Ux];rw[a0D,sI,a0E,Uy,eM]
def Cv(h0:0<q)(h1:q<=2000000000):qr a q=J (a%q):=by
 unfold qr;rw[eE (by omega),eE (by omega)];have b1:a.tmod q<q:=Uv a h0
 have b2: -q<a.tmod q:=by
  have:=Uw a h0;omega
 rw[aI (by omega) (by omega),je (by omega)];congr 1;rw[Ux];rw[a0D,sI,a0E,Uy,eM]
def Pr(n:Nat):Prop:=2<=n/\∀d,2<=d->d*d<=n->n%d≠0
open Classical in
noncomputable def lU(n:Int):Bool:=decide (Pr n.toNat)
def ng{n:Nat}:lU (n:Int)=Z↔Pr n:=by simp[lU]
def Dt(n:Int)(h:n<=2000000000):zN n=J (lU n):=by
 unfold zN;refine bE (aZ (λh0=>aj ?_) λh0=>?_)
 ·have h0:n<2:=by simpa using h0
  symm;unfold lU;rw[we];intro hp;have:=hp.1;omega
 have h0:¬n<2:=by simpa using h0
 obtain⟨n,rfl⟩:=fJ (show 0<=n by omega);refine ay (ψ:=λb=>(b=.inl ()/\Pr n)\/(b=.inr aa/\¬Pr n)) (sO (λs=>∃d:Nat,s=(d:Int)/\2<=d/\d<=44723/\∀k,2<=k->k<d->k*k<=n->n%k≠0) (λs=>50000-s.toNat) ⟨2,rfl,by omega,by omega,λk h1 h2=>by omega⟩ ?_) ?_
 ·rintro s ⟨d,rfl,hd,ku,hi⟩;have hdd:d*d<=2000146729:=gj (rj ku ku) (by decide);rw[zm,aI (by omega) (by omega)];refine aZ (λh1=>aG (by omega) (aZ (λh2=>aj (.inr ⟨rfl,?_⟩)) λh2=>aj ?_)) λh1=>aj (.inl ⟨rfl,by omega,λk hk Ah=>?_⟩)
  ·have h1:d*d<=n:=by have:=wg h1;omega
   rw[pK]at h2
   have h2 : n % d = 0 := by have:((n%d:Nat):Int)=0:=by simpa using h2
                             omega
   exact λhp=>hp.2 d hd h1 h2
  ·have h1:d*d<=n:=by have:=wg h1;omega
   rw[pK]at h2
   have h2 : n % d ≠ 0 := by have:¬((n%d:Nat):Int)=0:=by simpa using h2
                             omega
   have hd3:d<=44722:=by
    rcases dK d 44723 with h|h
    ·omega
    ·have:44723*44723<=d*d:=rj h h;omega
   rw[aI (by omega) (by omega)];refine⟨⟨d+1,rfl,by omega,by omega,λk h3 h4 h5=>?_⟩,by omega⟩;rcases dK k d with h|h
   ·exact hi k h3 h h5
   have:k=d:=by omega
   subst this;exact h2
  have h1:n<d*d:=by have:=Uz h1;omega
  rcases dK k d with h|h
  ·exact hi k hk h Ah
  have:=rj h h;omega
 rintro b (⟨rfl,hp⟩|⟨rfl,hp⟩)
 ·exact aj (ng.2 hp).symm
 refine aj ?_;symm;unfold lU;rw[we];exact hp
def Xr(n:Int):DN n=J (decide (n<=2000000000)&&lU n):=by
 unfold DN;by_cases h:2<=n/\n<=2000000000
 ·obtain⟨n,rfl⟩:=fJ (show 0<=n by omega);have e2:((n:Int)).tmod 2=((n%2:Nat):Int):=pK n 2;have em:(decide (2<=(n:Int))&&decide ((n:Int)<=2000000000))=Z:=by simp only[bI,eC];exact h
  rw[show(decide ((n:Int)<=2000000000)&&lU (n:Int))=lU (n:Int)by simp[h.2]];refine bE (ay (ψ:=λb=>b=decide (n%2=0/\n≠2)) (ag (WN _) ?_) ?_)
  ·rw[em];refine bt rfl ?_;rw[e2];refine aZ (λh1=>aj ?_) λh1=>aj ?_
   ·have h1 : n % 2 = 0 := by have:((n%2:Nat):Int)=0:=by simpa using h1
                              omega
    have:((n:Int) !=2)=decide (n≠2):=by
     by_cases hn:n=2
     ·subst hn;rfl
     ·have JX:¬(n:Int)=2:=by omega
      simp[hn,JX]
    rw[this];simp[h1]
   have h1 : n % 2 ≠ 0 := by have:¬((n%2:Nat):Int)=0:=by simpa using h1
                             omega
   simp[h1]
  rintro b rfl;refine aZ (λh1=>aj ?_) λh1=>?_
  ·have h1:=wg h1;symm;unfold lU;rw[we];intro hp;have hn:4<=n:=by omega
   exact hp.2 2 (by omega) hn h1.1
  have h1:=Uz h1;refine ay (ψ:=λb=>(b=.inl ()/\Pr n)\/(b=.inr aa/\¬Pr n)) (sO (λs=>∃d:Nat,s=(d:Int)/\3<=d/\d%2=1/\d<=44725/\∀k,2<=k->k<d->k*k<=n->n%k≠0) (λs=>50000-s.toNat) ⟨3,rfl,by omega,by omega,by omega,λk h2 h3 h4=>?_⟩ ?_) ?_
  ·have:k=2:=by omega
   subst this;intro h5;exact h1 ⟨h5,by omega⟩
  ·rintro s ⟨d,rfl,hd,a2w,ku,hi⟩;have hdd:d*d<=2000325625:=gj (rj ku ku) (by decide);rw[zm,aI (by omega) (by omega)];refine aZ (λh1=>aG (by omega) (aZ (λh2=>aj (.inr ⟨rfl,?_⟩)) λh2=>aj ?_)) λh1=>aj (.inl ⟨rfl,by omega,λk hk Ah=>?_⟩)
   ·have h1:d*d<=n:=by have:=wg h1;omega
    rw[pK]at h2
    have h2 : n % d = 0 := by have:((n%d:Nat):Int)=0:=by simpa using h2
                              omega
    exact λhp=>hp.2 d (by omega) h1 h2
   ·have h3:d*d<=n:=by have:=wg h1;omega
    rw[pK]at h2
    have h2 : n % d ≠ 0 := by have:¬((n%d:Nat):Int)=0:=by simpa using h2
                              omega
    have hd3:d<=44722:=by
     rcases dK d 44723 with h|h
     ·omega
     ·have:44723*44723<=d*d:=rj h h;omega
    rw[aI (by omega) (by omega)];refine⟨⟨d+2,rfl,by omega,by omega,by omega,λk h4 h5 h6 h7=>?_⟩,by omega⟩;rcases dK k d with h|h
    ·exact hi k h4 h h6 h7
    rcases(show k=d\/k=d+1 by omega)with e|e
    ·subst e;exact h2 h7
    have h8:n%2=0:=by
     have a1:k∣n:=UA h7;have a2:2∣k:=UA (by omega);exact a2i (Nat.dvd_trans a2 a1)
    have h9:2*2<=n:=by
     have:=rj h4 h4;omega
    exact hi 2 (by omega) (by omega) h9 h8
   have h1:n<d*d:=by have:=Uz h1;omega
   rcases dK k d with h|h
   ·exact hi k hk h Ah
   have:=rj h h;omega
  rintro b (⟨rfl,hp⟩|⟨rfl,hp⟩)
  ·exact aj (ng.2 hp).symm
  refine aj ?_;symm;unfold lU;rw[we];exact hp
 have em:(decide (2<=n)&&decide (n<=2000000000))=aa:=by
  rw[a2j,we,we];omega
 rw[WN,em];simp only[aR,Bool.not_false,eP];congr 1;symm;rw[a2j,we];by_cases hn:n<=2000000000
 ·right;unfold lU;rw[we];intro hp;have:=hp.1;omega
 exact .inl hn
structure ao (gr:am):Prop where
 p:3<=gr.P/\gr.P<=2000000000
 q:2<=gr.Q/\gr.Q<=gr.P-1
 d:(gr.P.toNat-1)%gr.Q.toNat=0
 g:2<=gr.G/\gr.G<=gr.P-1
 pp:Pr gr.P.toNat
 pq:Pr gr.Q.toNat
 o:gr.G.toNat^gr.Q.toNat%gr.P.toNat=1
open Classical in
noncomputable def uR(gr:am):Bool:=decide (ao gr)
def Oa :uR gr=Z↔ao gr:=by simp[uR]
def od(h:¬ao gr):uR gr=aa:=by simp[uR,h]
def YS{b:Bool}(h1:b=Z->ao gr)(h2:ao gr->b=Z):b=uR gr:=by
 cases hb:b with
 |true=>exact(Oa.2 (h1 hb)).symm
 |false=>exact(od λh=>by rw[h2 h]at hb;cases hb).symm
def n7(h:0<=a):a=((a.toNat:Nat):Int):=by omega
def py{e m:Int}(ha:0<=a)(ha2:a<=2000000000)(hm:1<=m)(qn:m<=2000000000)(he:0<=e)(he2:e<=9223372036854775807):nA a e m=J ((a.toNat^e.toNat%m.toNat:Nat):Int)/\k9 a e m=J ((a.toNat^e.toNat%m.toNat:Nat):Int):=by
 have h1:=zBf (a:=a.toNat) (e:=e.toNat) (m:=m.toNat) (by omega) (by omega) (by omega) (by omega);have h2:=zzW (a:=a.toNat) (e:=e.toNat) (m:=m.toNat) (by omega) (by omega) (by omega) (by omega);rw[<-n7 ha,<-n7 he,<-n7 (show 0<=m by omega)]at h1 h2;exact⟨h1,h2⟩
def Mk{a b:Bool}:(a&&b)=Z↔a=Z/\b=Z:=by simp
def zsO(gr:am):HR gr=J (uR gr):=by
 unfold HR;refine bE (ay (ψ:=λb=>b=uR gr) ?_ λb hb=>aj hb);refine ag (tS _ _ _) (aZ (λh=>?_) λh=>?_)
 ·have hp:3<=gr.P/\gr.P<=2000000000:=by simpa using h
  rw[aI (n:=gr.P-1) (by omega) (by omega)];refine ag (tS _ _ _) (aZ (λh=>?_) λh=>?_)
  ·have hq:2<=gr.Q/\gr.Q<=gr.P-1:=by simpa using h
   have ed:(gr.P-1).tmod gr.Q=(((gr.P.toNat-1)%gr.Q.toNat:Nat):Int):=by
    rw[n7 (show 0<=gr.P-1 by omega),n7 (show 0<=gr.Q by omega),pK];simp only[dG];congr 2;omega
   refine aG (by omega) ?_;rw[ed];refine aZ (λh=>?_) λh=>?_
   ·have hd:(gr.P.toNat-1)%gr.Q.toNat=0:=by
     have:(((gr.P.toNat-1)%gr.Q.toNat:Nat):Int)=0:=by simpa using h
     omega
    refine ag (tS _ _ _) (aZ (λh=>?_) λh=>?_)
    ·have hg:2<=gr.G/\gr.G<=gr.P-1:=by simpa using h
     refine ag (Xr _) (aZ (λh=>?_) λh=>?_)
     ·have Qt:Pr gr.P.toNat:=by
       rw[Mk,n7 (show 0<=gr.P by omega),ng]at h;exact h.2
      refine ag (Xr _) (aZ (λh=>?_) λh=>?_)
      ·have pj:Pr gr.Q.toNat:=by
        rw[Mk,n7 (show 0<=gr.Q by omega),ng]at h;exact h.2
       refine ag (py (a:=gr.G) (e:=gr.Q) (m:=gr.P) (by omega) (by omega) (by omega) (by omega) (by omega) (by omega)).1 (aj (YS (λh=>⟨hp,hq,hd,hg,Qt,pj,?_⟩) λh=>?_))
       ·have:((gr.G.toNat^gr.Q.toNat%gr.P.toNat:Nat):Int)=1:=by simpa using h
        omega
       rw[h.o];rfl
      refine aj (od λhk=>?_).symm
      have:(decide (gr.Q<=2000000000)&&lU gr.Q)=Z:=by
       rw[Mk,n7 (show 0<=gr.Q by omega),ng];exact⟨by simp;omega,hk.pq⟩
      rw[this]at h;cases h
     refine aj (od λhk=>?_).symm
     have:(decide (gr.P<=2000000000)&&lU gr.P)=Z:=by
      rw[Mk,n7 (show 0<=gr.P by omega),ng];exact⟨by simp;omega,hk.pp⟩
     rw[this]at h;cases h
    refine aj (od λhk=>?_).symm;have:=hk.g;simp at h;omega
   refine aj (od λhk=>?_).symm;rw[hk.d]at h;cases h
  refine aj (od λhk=>?_).symm;have:=hk.q;simp at h;omega
 refine aj (od λhk=>?_).symm;have:=hk.p;simp at h;omega
def Ju(gr:am):Aa gr=J (uR gr):=by
 unfold Aa;refine bE (ay (ψ:=λb=>b=uR gr) ?_ λb hb=>aj hb);refine ag (rY _ _ _) (aZ (λh=>?_) λh=>?_)
 ·have hp:3<=gr.P/\gr.P<=2000000000:=by simpa using h
  rw[aI (n:=gr.P-1) (by omega) (by omega)];refine ag (rY _ _ _) (aZ (λh=>?_) λh=>?_)
  ·have hq:2<=gr.Q/\gr.Q<=gr.P-1:=by simpa using h
   have ed:(gr.P-1).tmod gr.Q=(((gr.P.toNat-1)%gr.Q.toNat:Nat):Int):=by
    rw[n7 (show 0<=gr.P-1 by omega),n7 (show 0<=gr.Q by omega),pK];simp only[dG];congr 2;omega
   refine aG (by omega) ?_;rw[ed];refine aZ (λh=>?_) λh=>?_
   ·have hd:(gr.P.toNat-1)%gr.Q.toNat=0:=by
     have:(((gr.P.toNat-1)%gr.Q.toNat:Nat):Int)=0:=by simpa using h
     omega
    refine ag (rY _ _ _) (aZ (λh=>?_) λh=>?_)
    ·have hg:2<=gr.G/\gr.G<=gr.P-1:=by simpa using h
     refine ag (py (a:=gr.G) (e:=gr.Q) (m:=gr.P) (by omega) (by omega) (by omega) (by omega) (by omega) (by omega)).2 (aZ (λh=>?_) λh=>?_)
     ·have ho:gr.G.toNat^gr.Q.toNat%gr.P.toNat=1:=by
       have:((gr.G.toNat^gr.Q.toNat%gr.P.toNat:Nat):Int)=1:=by simpa using h
       omega
      refine ag (Dt _ (by omega)) (aZ (λh=>?_) λh=>?_)
      ·have pj:Pr gr.Q.toNat:=by
        rw[n7 (show 0<=gr.Q by omega),ng]at h;exact h
       refine ag (Dt _ (by omega)) (aj (YS (λh=>⟨hp,hq,hd,hg,?_,pj,ho⟩) λh=>?_))
       ·rw[n7 (show 0<=gr.P by omega),ng]at h;exact h
       rw[n7 (show 0<=gr.P by omega),ng];exact h.pp
      refine aj (od λhk=>?_).symm
      have:lU gr.Q=Z:=by
       rw[n7 (show 0<=gr.Q by omega),ng];exact hk.pq
      rw[this]at h;cases h
     refine aj (od λhk=>?_).symm;rw[hk.o]at h;cases h
    refine aj (od λhk=>?_).symm;have:=hk.g;simp at h;omega
   refine aj (od λhk=>?_).symm;rw[hk.d]at h;cases h
  refine aj (od λhk=>?_).symm;have:=hk.q;simp at h;omega
 refine aj (od λhk=>?_).symm;have:=hk.p;simp at h;omega
def aK(gr:am)(x:Int):Bool:=decide (1<=x)&&decide (x<=gr.P-1)&&decide (x.toNat^gr.Q.toNat%gr.P.toNat=1)
def di(gr:am)(x:Int):Bool:=decide (0<=x)&&decide (x<=gr.Q-1)
def K5(k:ao gr)(x:Int):yR gr x=J (aK gr x):=by
 have hp:=k.p;have hq:=k.q;unfold yR aK;rw[aI (n:=gr.P-1) (by omega) (by omega),tS];refine bE (ay (ψ:=λb=>b=_) ?_ λb hb=>aj hb);refine ag rfl (aZ (λh=>?_) λh=>?_)
 ·have hx:1<=x/\x<=gr.P-1:=by simpa using h
  refine ag (py (a:=x) (e:=gr.Q) (m:=gr.P) (by omega) (by omega) (by omega) (by omega) (by omega) (by omega)).1 (aj ?_);rw[h,gV];by_cases h1:x.toNat^gr.Q.toNat%gr.P.toNat=1
  ·simp[h1]
  have:¬((x.toNat^gr.Q.toNat%gr.P.toNat:Nat):Int)=1:=by omega
  rw[beq_false_of_ne this,De h1]
 rw[h];exact aj rfl
def yk(k:ao gr)(l:List Int):p6 gr l=J (l.all (aK gr)):=by
 have hp:=k.p;have hq:=k.q;unfold p6;rw[aI (n:=gr.P-1) (by omega) (by omega)];refine bE (ay (ψ:=λb=>(b=.inl ()/\l.all (aK gr)=Z)\/(b=.inr aa/\l.all (aK gr)=aa)) (ec (λi s=>(l.take i).all (aK gr)=Z) rfl ?_ ?_) ?_)
 ·rintro i s hi hI;refine bD hi (ay (ψ:=λb=>b= !aK gr l[i]) ?_ ?_)
  ·refine ag (rY _ _ _) (aZ (λh=>aj ?_) λh=>?_)
   ·have h:(decide (1<=l[i])&&decide (l[i]<=gr.P-1))=aa:=by rwa [qd]at h
    simp[aK,h]
   have h:(decide (1<=l[i])&&decide (l[i]<=gr.P-1))=Z:=by simpa using h
   have hx:1<=l[i]/\l[i]<=gr.P-1:=by simpa using h
   refine ag (py (a:=l[i]) (e:=gr.Q) (m:=gr.P) (by omega) (by omega) (by omega) (by omega) (by omega) (by omega)).2 (aj ?_);simp only[aK,h,gV];by_cases h1:l[i].toNat^gr.Q.toNat%gr.P.toNat=1
   ·simp[h1]
   have:¬((l[i].toNat^gr.Q.toNat%gr.P.toNat:Nat):Int)=1:=by omega
   simp only[bne,beq_false_of_ne this,De h1]
  rintro b rfl;refine aZ (λh=>aj (.inr ⟨rfl,?_⟩)) λh=>aj ?_
  ·have h:aK gr l[i]=aa:=by simpa using h
   rw[yD];exact⟨l[i],e9 hi,by simp[h]⟩
  have h:aK gr l[i]=Z:=by simpa using h
  show(l.take (i+1)).all (aK gr)=Z;rw[iO hi,kq,hI];simp[h]
 ·rintro s hI;rw[f6]at hI;exact .inl ⟨rfl,hI⟩
 rintro b (⟨rfl,h⟩|⟨rfl,h⟩)
 ·exact aj h.symm
 exact aj h.symm
def O4(l:List Int)(a b:Int):C2 l a b=J (l.all λx=>decide (a<=x)&&decide (x<=b)):=by
 unfold C2;refine bE (ay (ψ:=λc=>(c=.inl ()/\(l.all λx=>decide (a<=x)&&decide (x<=b))=Z)\/(c=.inr aa/\(l.all λx=>decide (a<=x)&&decide (x<=b))=aa)) (ec (λi s=>((l.take i).all λx=>decide (a<=x)&&decide (x<=b))=Z) rfl ?_ ?_) ?_)
 ·rintro i s hi hI;refine bD hi (ag (rY _ _ _) (aZ (λh=>aj (.inr ⟨rfl,?_⟩)) λh=>aj ?_))
  ·rw[yD];exact⟨l[i],e9 hi,by rw[qd]at h;rw[h];simp⟩
  show((l.take (i+1)).all λx=>decide (a<=x)&&decide (x<=b))=Z;rw[iO hi,kq,hI];simpa using h
 ·rintro s hI;rw[f6]at hI;exact .inl ⟨rfl,hI⟩
 rintro c (⟨rfl,h⟩|⟨rfl,h⟩)
 ·exact aj h.symm
 exact aj h.symm
def zq(h:0<=gr.Q)(h2:gr.Q<=2000000000)(l:List Int):rI gr l=J (l.all (di gr)):=by
 unfold rI;rw[aI (by omega) (by omega),O4];rfl
def zAO(h:0<=gr.Q)(h2:gr.Q<=2000000000)(x:Int):IZ gr x=J (di gr x):=by
 unfold IZ;rw[aI (by omega) (by omega),tS];rfl
def av(gr:am)(x e:Int):Int:=((x.toNat^(e%gr.Q).toNat%gr.P.toNat:Nat):Int)
def zu(k:ao gr)(x e:Int):0<=av gr x e/\av gr x e<=gr.P-1:=by
 have hp:=k.p;unfold av;have:=mN (x.toNat^(e%gr.Q).toNat) (y:=gr.P.toNat) (by omega);omega
def DY(k:ao gr)(h0:0<=x)(h1:x<=2000000000)(e:Int):cQ gr x e=J (av gr x e)/\cD gr x e=J (av gr x e):=by
 have hp:=k.p;have hq:=k.q;have b1:0<=e%gr.Q:=nW _ (by omega);have b2:e%gr.Q<gr.Q:=sJ _ (by omega);have hw:=py (a:=x) (e:=e%gr.Q) (m:=gr.P) (by omega) (by omega) (by omega) (by omega) b1 (by omega);unfold cQ cD;rw[O9 (by omega) (by omega),Cv (by omega) (by omega),aR,aR,hw.1,hw.2];exact⟨rfl,rfl⟩
def zC7(k:ao gr)(h0:0<=x)(h1:x<=2000000000)(e:Int):cD gr x e=J (av gr x e):=by
 have hp:=k.p;have hq:=k.q;have b1:0<=e%gr.Q:=nW _ (by omega);have b2:e%gr.Q<gr.Q:=sJ _ (by omega);have hw:=py (a:=x) (e:=e%gr.Q) (m:=gr.P) (by omega) (by omega) (by omega) (by omega) b1 (by omega);unfold cD;rw[Cv (by omega) (by omega),aR,hw.2];rfl
def aP(gr:am)(l:List Int):Int:=l.foldl (λo x=>o*x%gr.P) 1
def WH(h:1<=gr.P):∀(l:List Int) (o:Int),0<=o->o<=gr.P->(∀x∈l,0<=x)->0<=l.foldl (λo x=>o*x%gr.P) o/\l.foldl (λo x=>o*x%gr.P) o<=gr.P:=by
 intro l;induction l with
 |nil=>intro o h0 h1 _;exact⟨h0,h1⟩
 |cons x l ih=>
  intro o h0 h1 h2;exact ih _ (nW _ (by omega)) (Int.le_of_lt (sJ (o*x) (show 0<gr.P by omega))) λy hy=>h2 y (nV _ hy)
theorem zCs(gr:am)(l:List Int):d8 gr l=eg gr l:=rfl
def AK(k:ao gr)(hl:∀x∈l,0<=x/\x<=2000000000):eg gr l=J (aP gr l):=by
 have hp:=k.p;unfold eg;refine bE (ay (ψ:=λb=>b=aP gr l) (ec (λi s=>s=(l.take i).foldl (λo x=>o*x%gr.P) 1) rfl ?_ ?_) λb hb=>aj hb)
 ·rintro i s hi rfl;have hb:=WH (gr:=gr) (by omega) (l.take i) 1 (by omega) (by omega) λx hx=>(hl x (Gy hx)).1
  have hx:=hl l[i] (e9 hi);refine bD hi (aG (by omega) (aj ?_));show _=(l.take (i+1)).foldl _ _;rw[iO hi,GC];generalize (l.take i).foldl (λo x=>o*x%gr.P) 1=o at hb⊢;have b1:0<=o*l[i]:=sK hb.1 hx.1;have b2:o*l[i]<=2000000000*2000000000:=wh (by omega) hx.2 hx.1 (by omega);show(i64.wrap (o*l[i])).tmod gr.P=o*l[i]%gr.P;rw[aI (by omega) (by omega),je b1]
 rintro s rfl;rw[f6];rfl
def GM(k:ao gr)(hl:∀x∈l,0<=x/\x<=2000000000):d8 gr l=J (aP gr l):=by rw[zCs];exact AK k hl
def zBS(k:ao gr)(hl:∀x∈l,0<=x/\x<=2000000000):0<=aP gr l/\aP gr l<=gr.P:=by
 have hp:=k.p;exact WH (by omega) l 1 (by omega) (by omega) λx hx=>(hl x hx).1
def B7(k:ao gr)(l:List Int):sW gr l=J (l.all (aK gr)):=by
 unfold sW Od KR LL;refine bE (ay (ψ:=λb=>b=l.all (aK gr)) (ay (ψ:=λb=>b= !l.all (aK gr)) (ay (ψ:=λj=>(j=-1/\l.all (aK gr)=Z)\/(0<=j/\l.all (aK gr)=aa)) (ay (ψ:=λb=>(b=.inl ()/\l.all (aK gr)=Z)\/(∃j,b=.inr j/\0<=j/\l.all (aK gr)=aa)) (ec (λi s=>(l.take i).all (aK gr)=Z) rfl ?_ ?_) ?_) ?_) ?_) ?_)
 ·rintro i s hi hI
  have hc:HM l[i] gr=J (!aK gr l[i]):=by
   unfold HM;rw[K5 k];rfl
  refine bD hi (ag hc (aZ (λh=>aj (.inr ⟨i,rfl,by omega,?_⟩)) λh=>aj ?_))
  ·rw[yD];exact⟨l[i],e9 hi,by rw[qd]at h;rw[h];simp⟩
  show(l.take (i+1)).all (aK gr)=Z;rw[iO hi,kq,hI];simpa using h
 ·rintro s hI;rw[f6]at hI;exact .inl ⟨rfl,hI⟩
 ·rintro b (⟨rfl,h⟩|⟨j,rfl,h0,h⟩)
  ·exact aj (.inl ⟨rfl,h⟩)
  exact aj (.inr ⟨h0,h⟩)
 ·rintro j (⟨rfl,h⟩|⟨h0,h⟩)
  ·exact aj (by rw[h];rfl)
  exact aj (by rw[h];simpa using h0)
 ·rintro b rfl;exact aj (by simp)
 rintro b rfl;exact aj rfl
def qi(h:aK gr x=Z):1<=x/\x<=gr.P-1:=by
 simp only[aK,bI,eC]at h;exact h.1
def V2(k:ao gr){m:Int}(hy:aK gr y=Z)(hm:aK gr m=Z)(r:Int):
 Jp gr y m r=J (an.mk (av gr gr.G r) (aP gr [m,av gr y r]))/\Ku gr y m r=J (an.mk (av gr gr.G r) (aP gr [m,av gr y r])):=by
 have hp:=k.p;have hg:=k.g;have b1:=qi hy;have b2:=qi hm;have e1:=DY k (x:=gr.G) (by omega) (by omega) r;have e2:=DY k (x:=y) (by omega) (by omega) r
 have hl:∀x∈[m,av gr y r],0<=x/\x<=2000000000:=λx hx=>by
  simp only[fK,jf,jg]at hx;rcases hx with rfl|rfl
  ·omega
  ·have:=zu k y r;omega
 unfold Jp Ku;rw[e1.1,e1.2,aR,aR,e2.1,e2.2,aR,aR,AK k hl,GM k hl];exact⟨rfl,rfl⟩
def O0{α:Type}(b:Bool)(u v:α):(if b=Z then J u else J v)=J (if(!b)=Z then v else u):=by cases b<;>rfl
def zEG{α:Type}(b:Bool)(u v:α):(if(!b)=Z then J u else J v)=J (if b=Z then v else u):=by cases b<;>rfl
def Ix{β:Type}{body:Int->Unit->Option (fb Unit (Unit ⊕ β))}(m:Nat)(p:Nat->Bool)(val:Nat->β)(h:∀k,k<m->body (k:Int) ()=J (if p k=Z then .go ()else .out (.inr (val k)))):
 (aS body (λ_=>.inl ()) m 0 ()=J (.inl ())/\∀k,k<m->p k=Z)\/∃k,k<m/\p k=aa/\(∀j,j<k->p j=Z)/\aS body (λ_=>.inl ()) m 0 ()=J (.inr (val k)):=by
 have key:Rn (aS body (λ_=>Sum.inl ()) m 0 ()) (λb=>(b=.inl ()/\∀k,k<m->p k=Z)\/∃k,k<m/\p k=aa/\(∀j,j<k->p j=Z)/\b=.inr (val k)):=by
  refine ec (λk _=>∀j,j<k->p j=Z) (λj hj=>by omega) ?_ λs hs=>.inl ⟨rfl,hs⟩
  intro k s hk hI;refine⟨_,h k hk,?_⟩;cases hp:p k with
  |true=>
   intro j hj;rcases dK j k with h|h
   ·exact hI j h
   ·have:j=k:=by omega
    rw[this];exact hp
  |false=>exact .inr ⟨k,hk,hp,hI,rfl⟩
 obtain⟨b,e,h1|⟨k,h1,h2,h3,h4⟩⟩:=key
 ·exact .inl ⟨by rw[e,h1.1],h1.2⟩
 exact .inr ⟨k,h1,h2,h3,by rw[e,h4]⟩
def Xl{α:Type}(l:List α)(p:α->Bool)(c:Bool){body:Int->Unit->Option (fb Unit (Unit ⊕ Bool))}(h:∀k (hk:k<l.length),body (k:Int) ()=J (if p l[k]=Z then .go ()else .out (.inr c))):
 (aS body (λ_=>.inl ()) l.length 0 ()).bind (Sum.elim (λ_=>J (!c)) J)=J (if l.all p=Z then !c else c):=by
 rcases Ix (body:=body) l.length (λk=>(l[k]?).any p) (λ_=>c) (λk hk=>by rw[h k hk,cE hk];rfl)with⟨e,h1⟩|⟨k,h1,h2,h3,e⟩
 ·rw[e]
  have:l.all p=Z:=by
   rw[bm];intro x hx;obtain⟨k,hk,rfl⟩:=KG.1 hx;have:=h1 k hk;rw[cE hk]at this;exact this
  rw[this];rfl
 rw[e]
 have:l.all p=aa:=by
  rw[yD];refine⟨l[k],e9 h1,?_⟩;rw[cE h1]at h2;simpa using h2
 rw[this];rfl
def zvs(l:List Int)(x:Int):EB l x=J (l.contains x):=by
 unfold EB
 have:=Xl l (λy=> !(y==x)) Z (body:=λi8 s7=>(ix l i8).bind λbG=>if(bG==x)=Z then J (.out (.inr Z))else J (.go ())) λk hk=>by
  rw[jt hk,aR];exact O0 _ _ _
 rw[show(!Z)=aa from rfl]at this;refine this.trans ?_;congr 1;cases hc:l.contains x with
 |true=>
  have hm:x∈l:=by simpa using hc
  have:(l.all λy=> !(y==x))=aa:=by
   rw[yD];exact⟨x,hm,by simp⟩
  rw[this];rfl
 |false=>
  have hm:¬x∈l:=by simpa using hc
  have:(l.all λy=> !(y==x))=Z:=by
   rw[bm];intro y hy;have:y≠x:=λe=>hm (e▸hy)
   simp[this]
  rw[this];rfl
def zBD(l:List Int)(x:Int):(DC l x=J (-1)/\¬x∈l)\/∃k,∃h:k<l.length,DC l x=J (k:Int)/\l[k]=x/\∀j (hj:j<k),l[j]'(by omega)≠x:=by
 unfold DC
 rcases Ix l.length (λk=>(l[k]?).any λy=> !(x==y)) (λk=>(k:Int)) (body:=λi8 s7=>(ix l i8).bind λbG=>if(x==bG)=Z then J (.out (.inr i8))else J (.go ())) (λk hk=>by
  rw[jt hk,aR,cE hk]
  exact O0 _ _ _)with⟨e,h1⟩|⟨k,h1,h2,h3,e⟩
 ·refine .inl ⟨by rw[e];rfl,λhx=>?_⟩;obtain⟨k,hk,rfl⟩:=KG.1 hx;have:=h1 k hk;rw[cE hk]at this;simp at this
 refine .inr ⟨k,h1,by rw[e];rfl,?_,λj hj=>?_⟩
 ·rw[cE h1]at h2;simp at h2;exact h2.symm
 have:=h3 j hj;rw[cE (by omega)]at this;simp at this;exact λe=>this e.symm
def Yf(l:List Int)(x:Int):IY l x=J (l.contains x):=by
 unfold IY;rcases zBD l x with⟨e,h⟩|⟨k,hk,e,h,_⟩
 ·rw[e];have:l.contains x=aa:=by simpa using h
  rw[this];rfl
 rw[e]
 have:l.contains x=Z:=by
  have:=e9 hk;rw[h]at this;simpa using this
 rw[this];simp
def zBI(l:List Int):Fo l=Fl l:=by
 unfold Fo Fl;simp only[zvs,Yf]
open Classical in
noncomputable def oz(l:List Int):Bool:=decide l.Nodup
def zsx{C:List Int->Int->Option Bool}(hC:∀l x,C l x=J (l.contains x))(l:List Int)(hl:l.length<=1000000000000):
 ((aS (σ:=Unit) (λi5 s4=>
 (ix l i5).bind λaU=>
 gd (0<=i5)<|
 gd (0<=i5.toNat/\i5.toNat<=l.length)<|
 (C ((l.take i5.toNat).drop 0) aU).bind λbH=>
 if bH=Z then(
 J (.out (.inr aa)))else(
 J (.go ()))) (λs4=>.inl ()) (l.length) 0 ():Option (Unit ⊕ Bool)).bind (Sum.elim (λx3=>
 J Z) J))=J (oz l):=by
 rcases Ix l.length (λk=>(l[k]?).any λy=> !(l.take k).contains y) (λ_=>aa) (body:=λi8 s7=>
  (ix l i8).bind λbG=>
  gd (0<=i8)<|
  gd (0<=i8.toNat/\i8.toNat<=l.length)<|
  (C ((l.take i8.toNat).drop 0) bG).bind λiT=>
  if iT=Z then(
  J (.out (.inr aa)))else(
  J (.go ()))) (λk hk=>by
   rw[jt hk,aR,eE (by omega),eE (by simp;omega),hC,cE hk,aR,dG,OH]
   exact O0 _ _ _)with⟨e,h1⟩|⟨k,h1,h2,h3,e⟩
 ·rw[e]
  have:oz l=Z:=by
   unfold oz;rw[eC,a2k,a2l];intro i j hi hj T5 e;have:=h1 j hj;rw[cE hj]at this
   have hm:l[j]∈l.take j:=by
    rw[<-e];exact KG.2 ⟨i,by simp;omega,by simp⟩
   have hc:(l.take j).contains l[j]=Z:=by simpa using hm
   simp only[Option.any_some,hc]at this;cases this
  rw[this];rfl
 rw[e]
 have:oz l=aa:=by
  unfold oz;rw[we,a2k,a2l];intro hd;rw[cE h1]at h2;have hc:(l.take k).contains l[k]=Z:=by simpa using h2
  have hm:l[k]∈l.take k:=by simpa using hc
  obtain⟨i,hi,e⟩:=KG.1 hm;simp at hi e;exact hd i k (by omega) h1 (by omega) e
 rw[this];rfl
def XR(l:List Int)(hl:l.length<=1000000000000):Fl l=J (oz l):=zsx Yf l hl
def zyf(l:List Int)(hl:l.length<=1000000000000):Fo l=J (oz l):=by rw[zBI,XR l hl]
def NK{p:Int->Bool}{f:Int->Option Bool}(hf:∀x∈l,f x=J (!p x)):
 ((((aS (σ:=Unit) (β:=Unit ⊕ Int) (λi8 s7=>(ix l i8).bind λbG=>(f bG).bind λoJ=>if oJ=Z then(J (.out (.inr i8)))else(J (.go ()))) (λs7=>.inl ()) (l.length) 0 ():Option (Unit ⊕ Int)).bind (Sum.elim (λ(x5:Unit)=>J (-1)) J)).bind λz1=>J (decide (0<=z1))).bind λz1=>J (!z1))=J (l.all p):=by
 rcases Ix l.length (λk=>(l[k]?).any p) (λk=>(k:Int)) (body:=λi8 s7=>(ix l i8).bind λbG=>(f bG).bind λoJ=>if oJ=Z then(J (.out (.inr i8)))else(J (.go ()))) (λk hk=>by
  rw[jt hk,aR,hf _ (e9 hk),aR,cE hk]
  exact zEG _ _ _)with⟨e,h1⟩|⟨k,h1,h2,h3,e⟩
 ·rw[e]
  have:l.all p=Z:=by
   rw[bm];intro x hx;obtain⟨k,hk,rfl⟩:=KG.1 hx;have:=h1 k hk;rw[cE hk]at this;exact this
  rw[this];rfl
 rw[e]
 have:l.all p=aa:=by
  rw[yD];refine⟨l[k],e9 h1,?_⟩;rw[cE h1]at h2;simpa using h2
 rw[this];simp
def Tr(x:Int):Bool:=decide (1<=x)&&decide (x<=7)
def dg(q:Nat):Nat->Nat->List Int
 |0,_=>[]
 |k+1,n=>((n%q:Nat):Int)::dg q k (n/q)
def evI(f:List Int)(x:Int):Int:=f.foldr (λc a=>a*x+c) 0
def zDV{c d:Int}(h:a%q=b%q)(h':c%q=d%q):(a+c)%q=(b+d)%q:=by rw[o9,h,h',<-o9]
structure a1y (q:Int) (Rs:List Int):Prop where
 q8:7<q
 q2:q<=2000000000
 pr:Pr q.toNat
 bd:∀p∈Rs,0<=p/\p<=7
 nd:Rs.Nodup
 ln:Rs.length<=10000000
def zt7(k:ao gr)(c:an):GQ gr c=J (aK gr c.A&&aK gr c.B):=by
 unfold GQ;rw[K5 k,K5 k];cases aK gr c.A<;>simp
def zDy(k:ao gr)(m:Int):p6 gr [m]=J (aK gr m):=by
 rw[yk k];simp
def yt(h:0<=gr.Q)(h2:gr.Q<=2000000000)(l:List Int):uP gr l=J (l.all (di gr)):=by
 have h1:LW l gr=J (l.all (di gr)):=NK (f:=λx=>I1 x gr) λx _=>by
  unfold I1;rw[zAO h h2];rfl
 unfold uP;rw[h1];rfl
def HK{a n:Nat}(h:a^n%p=1):a^(e%n)%p=a^e%p:=by
 have hp:1%p=1:=by rw[<-h,OL]
 conv=>rhs;rw[<-OI e n]
 rw[OM,o8,t7,qe (a^n),h,GD,hp,Kw,OL]
def EQ(h:aK gr x=Z):1<=x/\x<=gr.P-1/\x.toNat^gr.Q.toNat%gr.P.toNat=1:=by
 unfold aK at h;simp only[bI,eC]at h;exact⟨h.1.1,h.1.2,h.2⟩
def Yo(k:ao gr)(h:aK gr x=Z){s l:Int}(hs:0<=s)(hl:0<=l):av gr (av gr x s) l=av gr x (s*l):=by
 obtain⟨_,_,h3⟩:=EQ h;have hq:=k.q;obtain⟨a,rfl⟩:=fJ hs;obtain⟨b,rfl⟩:=fJ hl;obtain⟨n,hn⟩:=fJ (show 0<=gr.Q by omega);unfold av;rw[hn]at h3⊢;rw[dG]at h3;have e:∀c:Nat,((c:Int)%(n:Int)).toNat=c%n:=λc=>by rw[<-o7,dG]
 rw[zm,e,e,e,dG,HK h3,HK h3,<-qe,<-o8];congr 1;rw[o8,qe,HK (n:=n) (e:=b)]
 ·rw[<-qe,<-o8]
 rw[<-qe,<-o8,wc,o8,qe,h3,GD,<-h3,OL]
def zDn(k:ao gr)(h0:0<=x)(h1:x<=2000000000):J6 gr x=J (av gr x (-1)):=by
 have hq:=k.q;have hp:=k.p
 have e:(-1:Int)%gr.Q=gr.Q-1:=by
  have:=GE (-1) gr.Q 1;rw[<-this,UB];rw[qg (by omega) (by omega)];omega
 unfold J6;rw[aI (by omega) (by omega),(py h0 h1 (by omega) hp.2 (by omega) (by omega)).2];unfold av;rw[e];rfl
def Re(k:ao gr)(hb:0<=b)(fX:b<=2000000000)(h0:0<=x)(h1:x<=2000000000):Bv gr b x=J (aP gr [b,av gr x (-1)]):=by
 have hp:=k.p;obtain⟨p1,p2⟩:=zu k x (-1);unfold Bv Mh;rw[(DY k h0 h1 _).1];simp only[aR];rw[AK k];rfl;intro y hy;simp only[fK,jf,jg]at hy;rcases hy with rfl|rfl<;>omega
structure XE (gr:am) (c:an) (m:Int) (v3 sh:List Int) (i:Int):Prop where
 k:ao gr
 q:7<gr.Q
 a:aK gr c.A=Z
 b:aK gr c.B=Z
 m:aK gr m=Z
 w:v3.all Tr=Z
 d:oz v3=Z
 l:sh.length=v3.length
 e:sh.all (di gr)=Z
 i:Tr i=Z
def XE.lg{m:Int}{v3 sh:List Int}(h:XE gr c m v3 sh i)(hl:v3.length<=1048576):a1y gr.Q ([0]++v3):=by
 have hq:=h.k.q;have hp:=h.k.p
 have hw:∀x∈v3,1<=x/\x<=7:=λx hx=>by
  have:=bm.1 h.w x hx;simpa[Tr]using this
 have hd:v3.Nodup:=by simpa[oz]using h.d
 refine⟨h.q,by omega,h.k.pq,λp hp=>?_,?_,by simp;omega⟩
 ·rcases jY.1 hp with h1|h1
  ·rw[gB.1 h1];omega
  have:=hw p h1;omega
 show(0::v3).Nodup;refine UC.2 ⟨λh0=>?_,hd⟩;have:=hw 0 h0;omega
structure Bt (code:List Int):Prop where
 b:∀x∈code,0<=x/\x<=255
 l:code.length<=1048576
structure Cu (code:List Int) (n:Int) (c:List Int×Int×Int):Prop where
 e:c.1=code
 lo:0<=c.2.1
 hi:c.2.1<=n
def Cu.mono{m:Int}{c:List Int×Int×Int}(h:Cu code n c)(hn:n<=m):Cu code m c:=⟨h.e,h.lo,Int.le_trans h.hi hn⟩
def ZT(x:BitVec IntKind.u64.bits):0<=i64.wrap (IntKind.u64.wrap ((x&&&BitVec.ofInt IntKind.u64.bits 255).toNat:Int))/\i64.wrap (IntKind.u64.wrap ((x&&&BitVec.ofInt IntKind.u64.bits 255).toNat:Int))<=255:=by
 have hy:(x&&&BitVec.ofInt IntKind.u64.bits 255).toNat<=255:=by
  rw[a0B];exact gj Nat.and_le_right (by decide)
 generalize (x&&&BitVec.ofInt IntKind.u64.bits 255).toNat=y at hy⊢;rw[wrU (by omega) (by omega),aI (by omega) (by omega)];omega
def Vq(hb:Bt code)(h:Cu code n (c0,at_,dE))(hn:n<=9000000000000000):Rn (Gr c0 at_ dE) (λz=>0<=z.1/\z.1<=255/\Cu code (n+1) z.2):=by
 obtain⟨h1,h2,h3⟩:=h;have h1:c0=code:=h1;have h2:0<=at_:=h2;have h3:at_<=n:=h3;subst h1;have hw:i64.wrap (at_+1)=at_+1:=aI (by omega) (by omega);unfold Gr;refine ay (ψ:=λv=>0<=v/\v<=255) ?_ λv hv=>?_
 ·refine aZ (λg=>?_) λg=>aj (by omega)
  obtain⟨k,rfl⟩:=fJ h2;have hk:k<c0.length:=by simp at g;omega
  have:=hb.b _ (e9 hk);exact bD hk (aj (by rw[aI (by omega) (by omega)];exact this))
 simp only[hw];refine aZ (λg=>aj ⟨hv.1,hv.2,rfl,by show 0<=at_+1;omega,by show at_+1<=n+1;omega⟩) λg=>aj ?_
 exact⟨(ZT _).1,(ZT _).2,rfl,by show 0<=at_+1;omega,by show at_+1<=n+1;omega⟩
def jI{m:Int}(hb:Bt code)(h:Cu code n (c0,at_,dE))(hn:n<=8000000000000000):Rn (gJ c0 at_ dE m) (λz=>0<=z.1/\(m<=1->z.1=0)/\(1<m->z.1<m)/\z.1<=65535/\Cu code (n+2) z.2):=by
 unfold gJ;refine aZ (λg=>aj ⟨A2 0,λ_=>rfl,λh=>by simp at g;omega,by show(0:Int)<=_;omega,h.mono (by omega)⟩) λg=>?_
 have g:1<m:=by simpa using g
 refine ay (Vq hb h (by omega)) λz ⟨z1,z2,z3⟩=>?_
 refine ay (ψ:=λx=>0<=x.2/\x.2<=65535/\Cu code (n+2) x.1) ?_ λx ⟨x1,x2,x3⟩=>?_
 ·refine aZ (λ_=>ay (Vq hb z3 (by omega)) λy ⟨y1,y2,y3⟩=>aj ?_) λ_=>aj ⟨z1,by show z.1<=_;omega,z3.mono (by omega)⟩
  rw[aI (n:=z.1*256) (by omega) (by omega),aI (by omega) (by omega)];exact⟨by show 0<=z.1*256+y.1;omega,by show z.1*256+y.1<=_;omega,y3.mono (by omega)⟩
 refine aG (by omega) (aj ?_);rw[je x1];have b1:=nW x.2 (show m≠0 by omega);have b2:=sJ x.2 (show 0<m by omega)
 have b3:x.2%m<=x.2:=by
  rcases Int.lt_or_le x.2 m with h|h
  ·rw[qg x1 h];exact A2 _
  ·omega
 exact⟨b1,λh=>by omega,λ_=>b2,by show x.2%m<=_;omega,x3⟩
def LC{m:Int}(hb:Bt code)(h:Cu code n (c0,at_,dE))(hn:n<=8000000000000000):Rn (yU c0 at_ dE m) (λz=>Cu code (n+2) z.2):=by
 unfold yU;exact ay (jI hb h hn) λz hz=>aj hz.2.2.2.2
def oh(hb:Bt code)(h:Cu code n (c0,at_,dE))(hn:n<=8000000000000000)(hl:l≠[]):Rn (pI c0 at_ dE l) (λz=>z.1∈l/\Cu code (n+2) z.2):=by
 unfold pI;refine ay (jI hb h hn) λz ⟨z1,z2,z3,z4,z5⟩=>?_
 have h0:0<l.length:=List.length_pos_iff.2 hl;obtain⟨k,hk⟩:=fJ z1
 have hlt:k<l.length:=by
  rcases dK 1 l.length with h|h
  ·have:=z3 (by omega);omega
  ·have:=z2 (by omega);omega
 rw[hk];exact bD hlt (aj ⟨e9 hlt,z5⟩)
def YB{n d:Nat}(h:Pr n)(hd:d%n≠0):Nat.gcd n d=1:=by
 obtain⟨k,hk⟩:=Nat.gcd_dvd_left n d;have hn:=h.1;have h0:0<Nat.gcd n d:=Nat.gcd_pos_of_pos_left d (by omega);have Cp:=Nat.gcd_dvd_right n d;generalize Nat.gcd n d=g at hk h0 Cp;apply ON;intro hg;have BC:2<=g:=by omega
 have yS:2<=k:=by
  rcases dK k 2 with h|h
  ·have:k=0\/k=1:=by omega
   rcases this with rfl|rfl
   ·omega
   ·rw[Ky]at hk;rw[<-hk]at Cp;exact absurd (a2i Cp) hd
  ·exact h
 rcases Nat.le_total g k with h'|h'
 ·exact h.2 g BC (by rw[hk];exact OG g h') (by rw[hk];exact Nat.mul_mod_right g k)
 exact h.2 k yS (by rw[hk];exact gA k h') (by rw[hk];exact Nat.mul_mod_left g k)
def Do{n:Nat}(h:Pr n)(nR:(a*b)%(n:Int)=0):a%(n:Int)=0\/b%(n:Int)=0:=by
 have h1:n∣a.natAbs*b.natAbs:=by
  rw[<-Int.natAbs_mul];exact a0F.1 (UD nR)
 by_cases ha:a.natAbs%n=0
 ·exact .inl (a0G (a0F.2 (UA ha)))
 exact .inr (a0G (a0F.2 (Nat.Coprime.dvd_of_dvd_mul_left (YB h ha) h1)))
def iW(f:List Int)(x:Int):Int:=f.foldr (λc a=>a*x+c) 0
theorem zsV(c:Int)(f:List Int)(x:Int):iW (c::f) x=iW f x*x+c:=rfl
def nX(r:Int):List Int->List Int
 |[]=>[]
 |[_]=>[]
 |_::c::f=>iW (c::f) r::nX r (c::f)
theorem Xa(r:Int):∀f:List Int,(nX r f).length=f.length-1
 |[]=>rfl
 |[_]=>rfl
 |_::c::f=>by
  show(nX r (c::f)).length+1=_;rw[Xa r (c::f)];simp
theorem Z5(r x:Int):∀f:List Int,iW f x=iW (nX r f) x*(x-r)+iW f r
 |[]=>by simp[nX,iW]
 |[c]=>by simp[nX,iW]
 |d::c::f=>by
  have ih:=Z5 r x (c::f);show iW (c::f) x*x+d=(iW (nX r (c::f)) x*x+iW (c::f) r)*(x-r)+(iW (c::f) r*r+d);rw[ih];grind
theorem U9(r:Int):∀f:List Int,2<=f.length->(nX r f).getLastD 0=f.getLastD 0
 |[],h=>absurd h (by simp)
 |[_],h=>absurd h (by simp)
 |[d,c],_=>by simp[nX,iW]
 |e::d::c::f,_=>by
  have ih:=U9 r (d::c::f) (by simp);show(iW (d::c::f) r::iW (c::f) r::nX r (c::f)).getLastD 0=_;have:nX r (d::c::f)=iW (c::f) r::nX r (c::f):=rfl;rw[this]at ih;simpa[List.getLastD]using ih
theorem WG{p:Nat}(hp:Pr p):∀(n:Nat) (f:List Int),f.length=n+1->f.getLastD 0%(p:Int)≠0->∀rs:List Int,rs.Pairwise (λa b=>(b-a)%(p:Int)≠0)->(∀r∈rs,iW f r%(p:Int)=0)->rs.length<=n
 |0,f,hl,hf,rs,hd,hr=>by
  match f,hl with
  |[c],_=>
   cases rs with
   |nil=>simp
   |cons r rs=>
    have:=hr r (qc ..);simp[iW]at this;exact absurd (by first|exact this|exact a0G this) (by simpa[List.getLastD]using hf)
 |n+1,f,hl,hf,rs,hd,hr=>by
  cases rs with
  |nil=>simp
  |cons r rs=>
   have h1:=List.pairwise_cons.1 hd
   have:=WG hp n (nX r f) (by rw[Xa];omega) (by rw[U9 r f (by omega)];exact hf) rs h1.2 λs hs=>by
    have e:=Z5 r s f;have lD:=hr s (nV _ hs);have dD:=hr r (qc ..)
    have hm:(iW (nX r f) s*(s-r))%(p:Int)=0:=by
     rw[show iW (nX r f) s*(s-r)=iW f s-iW f r by omega,sI,lD,dD];simp
    rcases Do hp hm with h|h
    ·exact h
    ·exact absurd h (h1.1 s hs)
   simpa using this
def zzv(k:Nat)(x:Int):iW (List.replicate k 0++[1]) x=x^k:=by
 induction k with
 |zero=>simp[iW]
 |succ k ih=>rw[a2f,t5,zsV,ih,a0H];omega
def Xg{n:Nat}(hp:Pr p)(hn:1<=n)(rs:List Int)(hd:rs.Pairwise (λa b=>(b-a)%(p:Int)≠0))(hr:∀r∈rs,r^n%(p:Int)=1):rs.length<=n:=by
 have h2:=hp.1;have xV:(1:Int)%(p:Int)=1:=qg (by omega) (by omega);obtain⟨k,rfl⟩:∃k,n=k+1:=⟨n-1,by omega⟩
 refine WG hp (k+1) (-1::(List.replicate k 0++[1])) (by simp) ?_ rs hd λr gX=>?_
 ·have:(-1::(List.replicate k (0:Int)++[1])).getLastD 0=1:=by
   rw[<-t5,List.getLastD_concat]
  rw[this,xV];omega
 rw[zsV,zzv,<-a0H,o9,hr r gX]
 have:((-1:Int)%(p:Int))=p-1:=by
  have:=GE (-1) (p:Int) 1;rw[<-this,UB,qg (by omega) (by omega)];omega
 rw[this,show 1+((p:Int)-1)=p by omega,Int.emod_self]
def zxO{n:Nat}(hp:Pr p)(hn:1<=n)(hnp:n<p-1):∃h:Nat,2<=h/\h<p/\h^n%p≠1:=by
 apply ON;intro hc;have h2:=hp.1
 have h1:∀h:Nat,1<=h->h<p->h^n%p=1:=λh a b=>by
  rcases dK h 2 with c|c
  ·have:h=1:=by omega
   subst this;rw[GD,nU (by omega)]
  ·exact ON λd=>hc ⟨h,c,b,d⟩
 have:=Xg hp hn ((List.range (p-1)).map λk=>((k+1:Nat):Int)) ?_ ?_
 ·simp at this;omega
 ·rw[UE];refine a0I ?_ a2m;intro a b ha hb nR;have hb:=kp.1 hb;rw[show((b+1:Nat):Int)-((a+1:Nat):Int)=((b-a:Nat):Int)by omega,<-o7,nU (by omega)];omega
 intro r hr;obtain⟨k,hk,rfl⟩:=jE.1 hr;have hk:=kp.1 hk;rw[<-UF,<-o7,h1 (k+1) (by omega) (by omega)];rfl
structure Gs (gr:am):Prop where
 p:0<=gr.P/\gr.P<=2000000000
 q:0<=gr.Q/\gr.Q<=1000000000
 g:0<=gr.G/\gr.G<=2000000000
def zDD{q:Nat}(hq:2<=q):((1+(k:Int)*(q:Int))-1).tdiv (q:Int)=(k:Int):=by
 rw[show(1+(k:Int)*(q:Int))-1=(k:Int)*(q:Int)by omega,a2n _ (by omega)]
def ZO{q:Nat}(cM:q<=1000000):Rn (uM (q:Int)) (λz=>Gs z.1/\(z.2=Z->z.1.Q=q/\3<=z.1.P)/\(∀k:Nat,1<=k->Pr (1+k*q)->1+k*q<=2000000000->Pr q->z.2=Z)):=by
 unfold uM;refine ay (ψ:=λb=>b= !(decide (2<=q)&&lU (q:Int))) ?_ ?_
 ·refine ag (rY _ _ _) ?_;by_cases h:2<=q
  ·refine bt (by simp;omega) (ag (Dt _ (by omega)) (aj ?_));simp[h]
  refine fV (by simp;omega) (aj ?_);simp[h]
 rintro _ rfl;cases hc:(decide (2<=q)&&lU (q:Int))
 ·refine fV rfl (aj ⟨⟨⟨by decide,by decide⟩,⟨by decide,by decide⟩,by decide,by decide⟩,λh=>(by cases h),λk h1 h2 h3 h4=>?_⟩);rw[ng.2 h4]at hc;have:=h4.1;simp at hc;omega
 have hq:2<=q:=by simp at hc;exact hc.1
 have pj:Pr q:=by simp at hc;exact ng.1 hc.2
 refine bt rfl ?_;refine ay (ψ:=λb=>(b=.inl ()/\∀k:Nat,1<=k->Pr (1+k*q)->¬1+k*q<=2000000000)\/∃z:am×Bool,b=.inr z/\Gs z.1/\z.2=Z/\z.1.Q=q/\3<=z.1.P) ?_ ?_
 ·rw[aI (by omega) (by omega)];refine sO (λs=>∃k:Nat,1<=k/\s=1+(k:Int)*(q:Int)/\s<=2001000001/\∀j:Nat,1<=j->j<k->¬Pr (1+j*q)) (λs=>(2001000001-s).toNat) ⟨1,by omega,by omega,by omega,λj h1 h2=>by omega⟩ ?_;rintro s ⟨k,hk,rfl,hs,hn⟩;have hkq:k*2<=k*q:=OG k hq;have hkc:(k:Int)*(q:Int)=((k*q:Nat):Int):=zm k q;refine aZ (λg=>?_) λg=>?_
  ·have g:1+(k:Int)*(q:Int)<=2000000000:=by simpa using g
   refine ag (Dt _ (by omega)) ?_;have Q7:1+(k:Int)*(q:Int)=((1+k*q:Nat):Int):=by omega
   cases hp:lU (1+(k:Int)*(q:Int))
   ·refine fV rfl (aj ?_)
    have e:i64.wrap (1+(k:Int)*(q:Int)+(q:Int))=1+((k+1:Nat):Int)*(q:Int):=by
     rw[aI (by omega) (by omega)];grind
    refine⟨⟨k+1,by omega,e,by rw[aI (by omega) (by omega)];omega,λj h1 h2=>?_⟩,?_⟩
    ·rcases dK j k with h|h
     ·exact hn j h1 h
     have:j=k:=by omega
     subst this;intro eV;rw[Q7,ng.2 eV]at hp;cases hp
    rw[aI (by omega) (by omega)];omega
   refine bt rfl ?_;have eV:Pr (1+k*q):=by rw[Q7]at hp;exact ng.1 hp
   obtain⟨h0,a1,a2,a3⟩:=zxO eV hk (by omega)
   have Cp:i64.wrap ((i64.wrap (1+(k:Int)*(q:Int)-1)).tdiv (q:Int))=(k:Int):=by
    rw[aI (n:=1+(k:Int)*(q:Int)-1) (by omega) (by omega),zDD hq,aI (by omega) (by omega)]
   simp only[Cp];simp only[Q7];refine ay (ψ:=λh=>2<=h/\h<=(h0:Int)) (sO (λs=>2<=s/\s<=(h0:Int)) (λs=>(h0-s).toNat) (by omega) ?_) ?_
   ·rintro s ⟨s1,s2⟩;have CO:=(py (a:=s) (e:=(k:Int)) (m:=((1+k*q:Nat):Int)) (by omega) (by omega) (by omega) (by omega) (by omega) (by omega)).2;refine aG (by omega) (ag CO ?_);refine aZ (λg=>aj ?_) λg=>aj ⟨s1,s2⟩
    rw[aI (by omega) (by omega)]
    have hne:s≠(h0:Int):=λe=>by
     subst e;apply a3;have g:((((h0:Int).toNat^(k:Int).toNat%((1+k*q:Nat):Int).toNat:Nat)):Int)=1:=by simpa only[wa]using g
     rw[dG,dG,dG]at g;omega
    refine⟨⟨by omega,by omega⟩,?_⟩;omega
   rintro h ⟨s1,s2⟩;have CO:=(py (a:=h) (e:=(k:Int)) (m:=((1+k*q:Nat):Int)) (by omega) (by omega) (by omega) (by omega) (by omega) (by omega)).2;refine aG (by omega) (ag CO (aj ?_))
   have hlt:h.toNat^(k:Int).toNat%((1+k*q:Nat):Int).toNat<1+k*q:=by
    rw[dG (1+k*q)];exact mN _ (by omega)
   refine .inr ⟨_,rfl,⟨⟨by show(0:Int)<=((1+k*q:Nat):Int);omega,by show((1+k*q:Nat):Int)<=_;omega⟩,⟨by show(0:Int)<=(q:Int);omega,by show(q:Int)<=_;omega⟩,?_,?_⟩,rfl,rfl,by show(3:Int)<=((1+k*q:Nat):Int);omega⟩
   ·show(0:Int)<=((_:Nat):Int);omega
   show((_:Nat):Int)<=2000000000;omega
  refine aj (.inl ⟨rfl,λj h1 h2 h3=>?_⟩);have g:¬1+(k:Int)*(q:Int)<=2000000000:=by simpa using g
  rcases dK j k with h|h
  ·exact hn j h1 h h2
  have:k*q<=j*q:=gA q h;omega
 rintro b (⟨rfl,h⟩|⟨z,rfl,h1,h2,h3,h4⟩)
 ·exact aj ⟨⟨⟨by decide,by decide⟩,⟨by decide,by decide⟩,by decide,by decide⟩,λh=>(by cases h),λk h1 h2 h3 h4=>absurd h3 (h k h1 h2)⟩
 exact aj ⟨h1,λ_=>⟨h3,h4⟩,λ_ _ _ _ _=>h2⟩
def nG{n:Nat}(hn:n<64)(h2:2<=n)(h:∀d,d<8->2<=d->d*d<=n->n%d≠0):Pr n:=by
 refine⟨h2,λd h1 h3=>?_⟩;rcases dK d 8 with h8|h8
 ·exact h d h8 h1 h3
 have:8*8<=d*d:=rj h8 h8;omega
structure Gw (gr:am):Prop where
 p: -10<=gr.P/\gr.P<=2100000000
 q: -10<=gr.Q/\gr.Q<=2100000000
 g: -10<=gr.G/\gr.G<=2100000000
def Gs.w(h:Gs gr):Gw gr:=⟨by have:=h.p;omega,by have:=h.q;omega,by have:=h.g;omega⟩
def zC5(hx:x∈[(3:Int),5,5,7,11,11,13,23]):∃q k:Nat,x=(q:Int)/\3<=q/\q<=23/\1<=k/\Pr (1+k*q)/\1+k*q<=2000000000/\Pr q:=by
 simp only[fK,jf,jg]at hx;rcases hx with rfl|rfl|rfl|rfl|rfl|rfl|rfl|rfl
 ·exact⟨3,2,rfl,by decide,by decide,by decide,nG (by decide) (by decide) (by decide),by decide,nG (by decide) (by decide) (by decide)⟩
 ·exact⟨5,2,rfl,by decide,by decide,by decide,nG (by decide) (by decide) (by decide),by decide,nG (by decide) (by decide) (by decide)⟩
 ·exact⟨5,2,rfl,by decide,by decide,by decide,nG (by decide) (by decide) (by decide),by decide,nG (by decide) (by decide) (by decide)⟩
 ·exact⟨7,4,rfl,by decide,by decide,by decide,nG (by decide) (by decide) (by decide),by decide,nG (by decide) (by decide) (by decide)⟩
 ·exact⟨11,2,rfl,by decide,by decide,by decide,nG (by decide) (by decide) (by decide),by decide,nG (by decide) (by decide) (by decide)⟩
 ·exact⟨11,2,rfl,by decide,by decide,by decide,nG (by decide) (by decide) (by decide),by decide,nG (by decide) (by decide) (by decide)⟩
 ·exact⟨13,4,rfl,by decide,by decide,by decide,nG (by decide) (by decide) (by decide),by decide,nG (by decide) (by decide) (by decide)⟩
 exact⟨23,2,rfl,by decide,by decide,by decide,nG (by decide) (by decide) (by decide),by decide,nG (by decide) (by decide) (by decide)⟩
def zCZ(hb:Bt code)(h:Cu code n (c0,at_,dE))(hn:n<=7000000000000000):Rn (FM c0 at_ dE) (λz=>Gs z.1/\3<=z.1.Q/\z.1.Q<=23/\3<=z.1.P/\Cu code (n+2) z.2):=by
 unfold FM;refine ay (oh hb h (by omega) (by simp)) λz ⟨z1,z2⟩=>?_
 obtain⟨q,k,e,q1,q2,k1,k2,k3,k4⟩:=zC5 z1;rw[e];refine ay (ZO (by omega)) λy ⟨y1,y2,y3⟩=>aj ?_
 have y4:=y2 (y3 k k1 k2 k3 k4);exact⟨y1,by show 3<=y.1.Q;omega,by show y.1.Q<=23;omega,y4.2,z2⟩
def zA5(h:Gs gr)(hq:1<=gr.Q)(hp:1<=gr.P)(hx:0<=x/\x<=2000000000)(e:Int):Rn (cD gr x e) (λv=>0<=v/\v<=2000000000):=by
 have h1:=h.p;have h2:=h.q;have b1:0<=e%gr.Q:=nW _ (by omega);have b2:e%gr.Q<gr.Q:=sJ _ (by omega);have hw:=(py (a:=x) (e:=e%gr.Q) (m:=gr.P) (by omega) (by omega) (by omega) (by omega) b1 (by omega)).2;unfold cD;refine ag (Cv (by omega) (by omega)) (ag hw (aj ?_));have hlt:x.toNat^(e%gr.Q).toNat%gr.P.toNat<gr.P.toNat:=mN _ (by omega);omega
def zGU(hx:x∈[(101:Int),1009,1019,65537,999983]):∃q:Nat,x=(q:Int)/\q<=1000000:=by
 simp only[fK,jf,jg]at hx;rcases hx with rfl|rfl|rfl|rfl|rfl
 ·exact⟨101,rfl,by decide⟩
 ·exact⟨1009,rfl,by decide⟩
 ·exact⟨1019,rfl,by decide⟩
 ·exact⟨65537,rfl,by decide⟩
 exact⟨999983,rfl,by decide⟩
def zCx:Gs (am.mk 1000000007 500000003 4):=⟨⟨by decide,by decide⟩,⟨by decide,by decide⟩,by decide,by decide⟩
def Yi(code:List Int):Cu code 0 (code,0,0):=⟨rfl,A2 0,A2 0⟩
def PA(hb:Bt code)(h:Cu code n (c0,at_,dE))(hn:n<=6000000000000000):Rn (y8 c0 at_ dE) (λz=>Gs z.1/\Cu code (n+6) z.2):=by
 unfold y8;refine ay (jI hb h (by omega)) λz ⟨z1,z2,z3,z4,z5⟩=>?_
 refine aZ (λ_=>aj ⟨zCx,z5.mono (by omega)⟩) λ_=>aZ (λ_=>?_) λ_=>?_
 ·refine ay (oh hb z5 (by omega) (by simp)) λy ⟨y1,y2⟩=>?_
  obtain⟨q,e,hq⟩:=zGU y1;rw[e];exact ay (ZO hq) λx ⟨x1,_,_⟩=>aj ⟨x1,y2.mono (by omega)⟩
 refine ay (zCZ hb z5 (by omega)) λy ⟨y1,y2,y3,y4,y5⟩=>?_
 refine ay (jI hb y5 (by omega)) λx ⟨x1,x2,x3,x4,x5⟩=>?_
 have hg:=y1.g;refine ay (zA5 y1 (by omega) (by omega) hg _) λv hv=>aj ⟨⟨y1.p,y1.q,hv⟩,x5.mono (by omega)⟩
def zwx(hb:Bt code)(h:Cu code n (c0,at_,dE))(hn:n<=5000000000000000):Rn (CL c0 at_ dE) (λz=>Gw z.1/\Cu code (n+10) z.2):=by
 unfold CL;refine ay (PA hb h (by omega)) λz ⟨z1,z2⟩=>?_
 have g1:=z1.p;have g2:=z1.q;have g3:=z1.g;refine ay (jI hb z2 (by omega)) λy ⟨_,_,_,_,y5⟩=>?_
 rw[aI (n:=z.1.P+2) (by omega) (by omega),aI (n:=z.1.Q+1) (by omega) (by omega),aI (n:=z.1.P-1) (by omega) (by omega),aI (n:=z.1.G+1) (by omega) (by omega)];refine ay (ψ:=λx=>Gw (am.mk x.2.1 x.2.2.1 x.2.2.2)/\Cu code (n+10) x.1) ?_ λx hx=>aj hx
 refine aZ (λ_=>?_) λ_=>aZ (λ_=>?_) λ_=>aZ (λ_=>?_) λ_=>aj ⟨z1.w,y5.mono (by omega)⟩
 ·refine ay (oh hb y5 (by omega) (by simp)) λx ⟨x1,x2⟩=>aj ⟨?_,x2.mono (by omega)⟩
  simp only[fK,jf,jg]at x1;exact⟨by show-10<=x.1/\x.1<=_;omega,by show-10<=z.1.Q/\z.1.Q<=_;omega,by show-10<=z.1.G/\z.1.G<=_;omega⟩
 ·refine ay (oh hb y5 (by omega) (by simp)) λx ⟨x1,x2⟩=>aj ⟨?_,x2.mono (by omega)⟩
  simp only[fK,jf,jg]at x1;exact⟨by show-10<=z.1.P/\z.1.P<=_;omega,by show-10<=x.1/\x.1<=_;omega,by show-10<=z.1.G/\z.1.G<=_;omega⟩
 refine ay (oh hb y5 (by omega) (by simp)) λx ⟨x1,x2⟩=>aj ⟨?_,x2.mono (by omega)⟩
 simp only[fK,jf,jg]at x1;exact⟨by show-10<=z.1.P/\z.1.P<=_;omega,by show-10<=z.1.Q/\z.1.Q<=_;omega,by show-10<=x.1/\x.1<=_;omega⟩
def Qp(hb:Bt code)(h:Cu code n (c0,at_,dE))(hn:n<=7000000000000000)(hg:gr.Q<=2100000000):Rn (Bk c0 at_ dE gr) (λz=>0<=z.1/\z.1<=2100000000/\(2<=gr.Q->z.1<gr.Q)/\Cu code (n+4) z.2):=by
 unfold Bk;refine aZ (λg=>aj ⟨A2 0,by show(0:Int)<=_;omega,λh=>by simp at g;omega,h.mono (by omega)⟩) λg=>?_
 have g:2<=gr.Q:=by simp at g;omega
 refine ay (jI hb h (by omega)) λz ⟨z1,z2,z3,z4,z5⟩=>?_
 refine ay (jI hb z5 (by omega)) λy ⟨y1,y2,y3,y4,y5⟩=>aG (by omega) (aj ?_)
 rw[aI (n:=z.1*60000) (by omega) (by omega),aI (by omega) (by omega),je (by omega)];have b1:=nW (z.1*60000+y.1) (show gr.Q≠0 by omega);have b2:=sJ (z.1*60000+y.1) (show 0<gr.Q by omega);exact⟨b1,by show _%gr.Q<=_;omega,λ_=>b2,y5.mono (by omega)⟩
def YX(hb:Bt code)(h:Cu code n (c0,at_,dE))(hn:n<=6000000000000000)(hg:Gw gr):Rn (Gg c0 at_ dE gr) (λz=>-100<=z.1/\z.1<=2100000000/\Cu code (n+6) z.2):=by
 have g2:=hg.q;unfold Gg;refine ay (LC hb h (by omega)) λz z1=>?_
 rw[aI (by omega) (by omega)];refine aZ (λ_=>?_) λ_=>?_
 ·refine ay (oh hb z1 (by omega) (by simp)) λy ⟨y1,y2⟩=>aj ?_
  simp only[fK,jf,jg]at y1;exact⟨by show-100<=y.1;omega,by show y.1<=_;omega,y2.mono (by omega)⟩
 exact ay (Qp hb z1 (by omega) (by omega)) λy ⟨y1,y2,_,y3⟩=>aj ⟨by show-100<=y.1;omega,y2,y3.mono (by omega)⟩
def zBK(hb:Bt code)(h:Cu code n (c0,at_,dE))(hn:n<=5000000000000000)(hg:Gw gr)(hk:k<=1000000):Rn (He c0 at_ dE gr (k:Int)) (λz=>z.1.length=k/\(∀x∈z.1,0<=x/\x<=2100000000/\(2<=gr.Q->x<gr.Q))/\Cu code (n+4*k) z.2):=by
 unfold He;refine ay (ψ:=λr=>r.2.length=k/\(∀x∈r.2,0<=x/\x<=2100000000/\(2<=gr.Q->x<gr.Q))/\Cu code (n+4*k) r.1) (kK k (λj s=>s.2.1=(k:Int)-j/\s.2.2.length=j/\(∀x∈s.2.2,0<=x/\x<=2100000000/\(2<=gr.Q->x<gr.Q))/\Cu code (n+4*j) s.1) ⟨by show(k:Int)=_;omega,rfl,by simp,h.mono (by omega)⟩ ?_ ?_) λr hr=>aj hr
 ·rintro j s hj ⟨h1,h2,h3,h4⟩;refine fV (by rw[h1];simp;omega) (ay (Qp hb h4 (by omega) hg.q.2) λz ⟨z1,z2,z3,z4⟩=>aG (by omega) (aj ⟨?_,by simp[h2],λx hx=>?_,z4.mono (by omega)⟩))
  ·show i64.wrap (s.2.1-1)=_;rw[h1,aI (by omega) (by omega)];omega
  rcases jY.1 hx with h|h
  ·exact h3 x h
  rw[gB.1 h];exact⟨z1,z2,z3⟩
 rintro s ⟨h1,h2,h3,h4⟩;exact bt (by rw[h1];simp) (aj ⟨h2,h3,h4⟩)
def ZQ{a:Nat}(hp:2<=p){m:Nat}(h:a^m%p=1)(k r:Nat):a^(m*k+r)%p=a^r%p:=by
 rw[OM,o8,t7,qe (a^m),h,GD,nU (show 1<p by omega),Kw,OL]
def zBv{a:Nat}(hp:2<=p):∀m n,a^m%p=1->a^n%p=1->a^(Nat.gcd m n)%p=1:=by
 intro m n;induction m,n using Nat.gcd.induction with
 |H0 n=>intro _ h;simpa using h
 |H1 m n hm ih=>
  intro h1 h2;rw[Nat.gcd_rec];refine ih ?_ h1;rw[<-ZQ hp h1 (n/m) (n%m),OI];exact h2
def zBq{a q:Nat}(hp:2<=p)(hq:Pr q)(ha:a^q%p=1)(Q5:a%p≠1){i j:Nat}(T5:i<j)(hj:j<q):a^i%p≠a^j%p:=by
 intro e
 have h1:a^(j-i)%p=1:=by
  have e1:a^(j-i)%p=a^(q*1+(j-i))%p:=(ZQ hp ha 1 (j-i)).symm;rw[e1,show q*1+(j-i)=j+(q-i)by omega,OM,t7,<-e,<-t7,<-OM,show i+(q-i)=q by omega];exact ha
 have h2:=zBv hp q (j-i) ha h1;rw[YB hq (by rw[nU (by omega)];omega),Nat.pow_one]at h2;exact Q5 h2
def Tf(h:aK gr x=Z):x.toNat^gr.Q.toNat%gr.P.toNat=1:=by
 simp only[aK,bI,eC]at h;exact h.2
def XU(k:ao gr)(h:aK gr x=Z):x.toNat<gr.P.toNat/\1<=x.toNat:=by
 have:=qi h;have:=k.p;omega
def zDq(k:ao gr)(hh:aK gr h=Z)(h1:h≠1)(hx:aK gr x=Z):∃s:Nat,h.toNat^s%gr.P.toNat=x.toNat:=by
 have hp2:2<=gr.P.toNat:=by have:=k.p;omega
 have hb:=XU k hh;have MP:=XU k hx;have Q5:h.toNat%gr.P.toNat≠1:=by rw[nU hb.1];have:=qi hh;omega
 apply ON;intro hn;have JX:∀s:Nat,h.toNat^s%gr.P.toNat≠x.toNat:=λs e=>hn ⟨s,e⟩
 have key:∀a b:Nat,a<gr.P.toNat->b<gr.P.toNat->a≠b->((b:Int)-(a:Int))%(gr.P.toNat:Int)≠0:=by
  intro a b ha gD nR he;have h3:((gr.P.toNat:Nat):Int)∣(b:Int)-(a:Int):=UD he;obtain⟨c,hc⟩:=h3;rcases Int.lt_trichotomy c 0 with h4|h4|h4
  ·have:(gr.P.toNat:Int)*c<=(gr.P.toNat:Int)*(-1):=UG (by omega) (by omega);omega
  ·subst h4;simp at hc;omega
  ·have:(gr.P.toNat:Int)*1<=(gr.P.toNat:Int)*c:=UG (by omega) (by omega);omega
 have hlt:∀s,h.toNat^s%gr.P.toNat<gr.P.toNat:=λs=>mN _ (by omega)
 have hlen:=Xg (p:=gr.P.toNat) (n:=gr.Q.toNat) k.pp (by have:=k.q;omega) ((x.toNat:Int)::(List.range gr.Q.toNat).map λi=>((h.toNat^i%gr.P.toNat:Nat):Int)) ?_ ?_
 ·simp at hlen;omega
 ·rw[List.pairwise_cons];refine⟨λy hy=>?_,?_⟩
  ·obtain⟨i,hi,rfl⟩:=jE.1 hy;exact key _ _ MP.1 (hlt i) λe=>JX i e.symm
  rw[UE];refine a0I ?_ a2m;intro i j hi hj T5;exact key _ _ (hlt i) (hlt j) (zBq hp2 k.pq (Tf hh) Q5 T5 (kp.1 hj))
 intro r hr;rcases fK.1 hr with rfl|hr
 ·have:=Tf hx;rw[<-UF,<-o7,this];rfl
 obtain⟨i,hi,rfl⟩:=jE.1 hr
 have h5:(h.toNat^i%gr.P.toNat)^gr.Q.toNat%gr.P.toNat=1:=by
  rw[<-qe,<-o8,wc,o8,qe,Tf hh,GD,nU (by omega)]
 rw[<-UF,<-o7,h5];rfl
def VN(h0:0<q)(h1:q<=4000000000000000000):qr a q=J (a%q):=by
 unfold qr;rw[eE (by omega),eE (by omega)];have b1:a.tmod q<q:=Uv a h0
 have b2: -q<a.tmod q:=by
  have:=Uw a h0;omega
 rw[aI (by omega) (by omega),je (by omega)];congr 1;rw[Ux];rw[a0D,sI,a0E,Uy,eM]
def ZL(a:Int){m:Int}(h:0<m): -m<a.tmod m/\a.tmod m<m:=by
 have h1:=Uv a h;have h2:=Uw a h;omega
def zxw(a:Int){e m:Int}(h1:1<=m)(h2:0<=e)(h3:e<=4000000000000000000):Rn (k9 a e m) (λv=>-m<v/\v<m):=by
 unfold k9;refine aG (by omega) (ay (ψ:=λv=>-m<v/\v<m) (sO (λs=>(-m<s.2.2/\s.2.2<m)/\0<=s.2.1/\s.2.1<=e) (λs=>s.2.1.toNat) ⟨ZL _ (by omega),h2,A2 _⟩ ?_) λx hx=>aj hx);rintro s ⟨hs,h4,h5⟩;refine aZ (λg=>?_) λ_=>aj hs
 have g:0<s.2.1:=by simpa using g
 refine ay (ψ:=λv=>-m<v/\v<m) (aZ (λ_=>aG (by omega) (aj (ZL _ (by omega)))) λ_=>aj hs) λx hx=>aG (by omega) (aj ?_)
 have e1:s.2.1.tdiv 2=s.2.1/2:=Ur (by omega);have e2:i64.wrap (s.2.1.tdiv 2)=s.2.1/2:=by rw[e1,aI (by omega) (by omega)]
 exact⟨⟨hx,by show 0<=i64.wrap _;rw[e2];omega,by show i64.wrap _<=e;rw[e2];omega⟩,by show(i64.wrap _).toNat<_;rw[e2];omega⟩
def zBa(hq:1<=gr.Q/\gr.Q<=4000000000000000000)(hp:1<=gr.P)(x e:Int):Rn (cD gr x e) (λv=>-gr.P<v/\v<gr.P):=by
 unfold cD;refine ag (VN (by omega) hq.2) (ay (zxw x hp (nW _ (by omega)) ?_) λv hv=>aj hv);have:=sJ e (show 0<gr.Q by omega);omega
def Rq(hb:Bt code)(h:Cu code n (c0,at_,dE))(hn:n<=6000000000000000)(hg:Gw gr):Rn (Cx c0 at_ dE gr) (λz=>-2200000000<=z.1/\z.1<=2200000000/\Cu code (n+4) z.2):=by
 have g1:=hg.p;have g2:=hg.q;unfold Cx;refine ay (ψ:=λb=>b=aa->3<=gr.P/\1<=gr.Q) (aZ (λ_=>aj λh=>by cases h) λa=>aj λb=>by simp at a b;omega) λb gD=>aZ (λ_=>aj ⟨by show-2200000000<=(1:Int);decide,by show(1:Int)<=_;decide,h.mono (by omega)⟩) λe=>?_
 obtain⟨k1,k2⟩:=gD e;refine ag (VN (by omega) (by omega)) (ay (Qp hb h (by omega) (by omega)) λz ⟨z1,z2,_,z3⟩=>ay (zBa ⟨k2,by omega⟩ (by omega) _ _) λv hv=>aj ⟨by show _<=v;omega,by show v<=_;omega,z3⟩)
def Kb(hb:Bt code)(h:Cu code n (c0,at_,dE))(hn:n<=5000000000000000)(hg:Gw gr):Rn (xK c0 at_ dE gr) (λz=>-2200000000<=z.1/\z.1<=2200000000/\Cu code (n+6) z.2):=by
 have g1:=hg.p;unfold xK;refine ay (LC hb h (by omega)) λz z1=>aZ (λ_=>?_) λ_=>ay (Rq hb z1 (by omega) hg) λy ⟨y1,y2,y3⟩=>aj ⟨y1,y2,y3.mono (by omega)⟩
 rw[aI (n:=gr.P-1) (by omega) (by omega)];refine ay (oh hb z1 (by omega) (by simp)) λy ⟨y1,y2⟩=>aj ?_
 simp only[fK,jf,jg]at y1;exact⟨by show-2200000000<=y.1;omega,by show y.1<=_;omega,y2.mono (by omega)⟩
def b8(gr:am)(c:an):Bool:=aK gr c.A&&aK gr c.B
def zBh(k:ao gr)(h:b8 gr c=Z):0<=c.A/\c.A<=2000000000/\0<=c.B/\c.B<=2000000000:=by
 simp only[b8,bI]at h;have h1:=qi h.1;have h2:=qi h.2;have hp:=k.p;omega
def zCN(k:ao gr)(l:List an):Rn (HI l gr.P gr.Q gr.G) (λx=>(x=-1/\l.all (b8 gr)=Z)\/(0<=x/\l.all (b8 gr)=aa)):=by
 unfold HI;refine ay (ψ:=λx=>(x=.inl ()/\l.all (b8 gr)=Z)\/(∃j:Nat,x=.inr (j:Int)/\l.all (b8 gr)=aa)) (ec (λn _=>∀m,m<n->∀h:m<l.length,b8 gr l[m]=Z) (λm hm=>by omega) ?_ λs hs=>.inl ⟨rfl,?_⟩) ?_
 ·rintro n s hn hI;refine bD hn ?_;unfold My;refine ay (ψ:=λb=>b= !b8 gr l[n]) (ag (zt7 k l[n]) (aj rfl)) ?_;rintro _ rfl;refine aZ (λh=>aj (.inr ⟨n,rfl,?_⟩)) λh=>aj λm hm hl=>?_
  ·rw[yD];exact⟨l[n],e9 hn,by simpa using h⟩
  rcases dK m n with h1|h1
  ·exact hI m h1 hl
  have:m=n:=by omega
  subst this;simpa using h
 ·rw[bm];intro x hx;obtain⟨m,hm,rfl⟩:=KG.1 hx;exact hs m hm hm
 rintro x (⟨rfl,h⟩|⟨j,rfl,h⟩)
 ·exact aj (.inl ⟨rfl,h⟩)
 exact aj (.inr ⟨by show(0:Int)<=(j:Int);omega,h⟩)
def ztN(k:ao gr)(l:List an):IR gr l=J (decide (l.length<=24)&&l.all (b8 gr)):=by
 unfold IR;refine bE (ay (ψ:=λb=>b=(decide (l.length<=24)&&l.all (b8 gr))) (aZ (λh=>?_) λh=>aj ?_) λb hb=>aj hb)
 ·have h:l.length<=24:=by simp at h;omega
  unfold NP;refine ay (ψ:=λb=>b= !l.all (b8 gr)) (ay (zCN k l) λx hx=>aj ?_) ?_
  ·rcases hx with⟨rfl,h⟩|⟨h0,h⟩
   ·rw[h];rfl
   rw[h];simpa using h0
  rintro _ rfl;exact aj (by simp[h])
 have h:¬l.length<=24:=by simp at h;omega
 simp[h]
def W5(k:ao gr)(l:List an):Ee gr l=J (decide (l.length<=24)&&l.all (b8 gr)):=by
 unfold Ee;by_cases h:24<(l.length:Int)
 ·rw[aB (by simpa using h)];have h:¬l.length<=24:=by omega
  simp[h]
 rw[az (by simpa using h)];refine(Xl l (b8 gr) aa (λn hn=>?_)).trans ?_
 ·rw[jt hn,aR,yk k,aR];have e:([l[n].A,l[n].B].all (aK gr))=b8 gr l[n]:=by simp[b8]
  rw[e];cases b8 gr l[n]<;>rfl
 have h:l.length<=24:=by omega
 cases l.all (b8 gr)<;>simp[h]
def zzM(hb:Bt code)(h:Cu code n (c0,at_,dE))(hn:n<=4000000000000000)(hg:Gw gr):Rn (HW c0 at_ dE gr) (λz=>Cu code (n+8) z.2):=by
 unfold HW;exact ay (Rq hb h (by omega) hg) λz ⟨_,_,z3⟩=>ay (Rq hb z3 (by omega) hg) λy ⟨_,_,y3⟩=>aj (y3.mono (by omega))
def zuj(hb:Bt code)(h:Cu code n (c0,at_,dE))(hn:n<=4000000000000000)(hg:Gw gr):Rn (HZ c0 at_ dE gr) (λz=>Cu code (n+12) z.2):=by
 unfold HZ;exact ay (Kb hb h (by omega) hg) λz ⟨_,_,z3⟩=>ay (Kb hb z3 (by omega) hg) λy ⟨_,_,y3⟩=>aj (y3.mono (by omega))
def zDu(hb:Bt code)(h:Cu code n (c0,at_,dE))(hn:n<=4000000000000000)(hk:k<=1000):Rn (JL c0 at_ dE (k:Int)) (λz=>z.1.length=k/\Cu code (n+2*k+2) z.2):=by
 unfold JL;refine ay (ψ:=λl=>l.length=k) (kK k (λj s=>s.2=(j:Int)/\s.1.length=j) ⟨rfl,rfl⟩ ?_ ?_) λl hl=>?_
 ·rintro j ⟨l,i⟩ hj ⟨h1,h2⟩;have h1:i=(j:Int):=h1;have h2:l.length=j:=h2;subst h1;refine fV (by simp;omega) (aG (by dsimp only;omega) (aj ⟨?_,by simp[h2]⟩));show i64.wrap ((j:Int)+1)=_;rw[aI (by omega) (by omega)];push_cast;rfl
 ·rintro⟨l,i⟩ ⟨h1,h2⟩;have h1:i=(k:Int):=h1;subst h1;exact bt (by simp) (aj h2)
 rw[aI (n:=(k:Int)-1) (by omega) (by omega)];refine ay (ψ:=λx=>x.2.length=k/\Cu code (n+2*k+2) x.1) (sO (λs=>s.2.1.length=k/\-1<=s.2.2/\s.2.2<=(k:Int)-1/\Cu code (n+2*((k:Int)-1-s.2.2)) s.1) (λs=>s.2.2.toNat) ⟨hl,by dsimp only;omega,by dsimp only;omega,h.mono (by dsimp only;omega)⟩ ?_) λx hx=>aj hx
 rintro⟨c,l,i⟩ ⟨h1,h2,h3,h4⟩;have h1:l.length=k:=h1;have h2: -1<=i:=h2;have h3:i<=(k:Int)-1:=h3;have h4:Cu code (n+2*((k:Int)-1-i)) c:=h4;refine aZ (λg=>?_) λg=>aj ⟨h1,h4.mono (by omega)⟩
 have g:0<i:=by simpa using g
 obtain⟨m,rfl⟩:=fJ (show 0<=i by omega);dsimp only;rw[aI (n:=(m:Int)+1) (by omega) (by omega)];refine ay (jI hb h4 (by omega)) λz ⟨z1,_,z3,_,z5⟩=>?_
 have z3:=z3 (by omega);obtain⟨j,hj⟩:=fJ z1;rw[hj];refine bD (show m<l.length by omega) (bD (show j<l.length by omega) (bD (show j<(l.set _ _).length by rw[KF];omega) (aj ⟨⟨by simp[h1],?_,?_,z5.mono ?_⟩,?_⟩)))
 ·show-1<=i64.wrap ((m:Int)-1);rw[aI (by omega) (by omega)];omega
 ·show i64.wrap ((m:Int)-1)<=_;rw[aI (by omega) (by omega)];omega
 ·show _<=n+2*((k:Int)-1-i64.wrap ((m:Int)-1));rw[aI (by omega) (by omega)];omega
 show(i64.wrap ((m:Int)-1)).toNat<(m:Int).toNat;rw[aI (by omega) (by omega)];omega
def U0(hb:Bt code)(h:Cu code n (c0,at_,dE))(hn:n<=3000000000000000)(hg:Gw gr)(hk:k<=1000):Rn (Fk c0 at_ dE gr (k:Int)) (λz=>z.1.length<=k+1/\Cu code (n+4*k+20) z.2):=by
 unfold Fk;refine ay (zBK hb h (by omega) hg (by omega)) λz ⟨z1,_,z3⟩=>?_
 refine ay (jI hb z3 (by omega)) λp ⟨_,_,_,_,p5⟩=>?_
 refine ay (ψ:=λv=>Sum.elim (λx=>x.2.length<=k+1/\Cu code (n+4*k+20) x.1) (λy=>y.1.length<=k+1/\Cu code (n+4*k+20) y.2) v) ?_ ?_
 ·refine aZ (λ_=>aG (by omega) (aj ⟨by simp[z1],p5.mono (by omega)⟩)) λ_=>aZ (λ_=>aZ (λg=>?_) λ_=>aj ⟨by dsimp only;omega,p5.mono (by omega)⟩) λ_=>aZ (λ_=>aZ (λg=>?_) λ_=>aj ⟨by dsimp only;omega,p5.mono (by omega)⟩) λ_=>aj ⟨by dsimp only;omega,p5.mono (by omega)⟩
  ·have g:0<(k:Int):=by simpa using g
   exact aG (by omega) (aj ⟨by simp[z1];omega,p5.mono (by omega)⟩)
  have g:0<(k:Int):=by simpa using g
  refine ay (jI hb p5 (by omega)) λq ⟨q1,q2,q3,_,q5⟩=>?_
  refine ay (oh hb q5 (by omega) (by simp)) λw ⟨_,w2⟩=>?_
  obtain⟨j,hj⟩:=fJ q1
  have hlt:j<z.1.length:=by
   rcases dK 1 k with h|h
   ·have:=q3 (by omega);omega
   ·have:=q2 (by omega);omega
  rw[hj];exact bD hlt (aj ⟨by show(z.1.set _ _).length<=_;rw[KF];omega,w2.mono (by omega)⟩)
 rintro(x|y) hx
 ·exact aj hx
 exact aj hx
def oB(s:ByteArray):List Int:=s.data.toList.map λb=>(b.toNat:Int)
def Bx(s:ByteArray):(oB s).length=s.size:=by
 show(s.data.toList.map _).length=s.data.size;rw[Gx,wb]
def Yh(s:ByteArray):∀x∈oB s,0<=x/\x<=255:=by
 intro x hx;obtain⟨b,_,rfl⟩:=jE.1 hx;have:=b.toNat_lt;omega
def zDR(h:k<s.size):r9 s (k:Int)=J ((oB s)[k]'(by rw[Bx];exact h)):=by
 have h2:k<s.data.size:=h;simp[r9,oB,h];rfl
def Zs(s:ByteArray)(l:List Int)(hs:s.size<=1000000)(hl:l.length<=1000000000000):GY s l=J ((s.size:Int)::oB s++l):=by
 unfold GY;refine bE (ay (ψ:=λx=>x=(s.size:Int)::oB s) (kK s.size (λn p=>n<=s.size/\p=((s.size:Int)::(oB s).take n,(n:Int))) ⟨by omega,by simp⟩ ?_ ?_) ?_)
 ·rintro n p hn ⟨_,rfl⟩;have PE:n<(oB s).length:=by rw[Bx];exact hn
  have hb:=Yh s _ (e9 PE);refine aZ (λ_=>?_) λh=>absurd h (by simp;omega)
  refine ag (zDR hn) (aG ?_ (aj ⟨by omega,?_⟩))
  ·simp only[dX,nv,Bx];omega
  show((s.size:Int)::(oB s).take n++[_],_)=_;rw[aI (by omega) (by omega),aI (by omega) (by omega),t5,a0J PE];rfl
 ·rintro p ⟨_,rfl⟩;refine aZ (λh=>absurd h (by simp)) λ_=>aj ?_
  show(s.size:Int)::(oB s).take s.size=_;rw[KD (by rw[Bx];omega)]
 rintro _ rfl;refine aG ?_ (aj rfl);simp only[dX,Bx];omega
def zwI(s:ByteArray)(l:List Int)(hs:s.size<=1000000)(hl:l.length<=1000000000000):LH s l=J ((s.size:Int)::oB s++l):=Zs s l hs hl
def cC(x:Int):Bool:=decide (0<=x)&&decide (x<=4611686018427387903)
def jj :cC x=Z↔0<=x/\x<=4611686018427387903:=by simp[cC]
def Xj(x:Int):I6 x=J (cC x):=by
 unfold I6;rw[tS];rfl
def zv4(x:Int):Ij x=J (cC x):=by
 unfold Ij;rw[rY];rfl
def zBc(s:ByteArray):(oB s).all cC=Z:=by
 rw[bm];intro x hx;have:=Yh s x hx;exact jj.2 ⟨by omega,by omega⟩
def zM(c s k:Int):Int:=(c*s+k+1)%2147483647
def tF(p:Int×Int)(x:Int):Int×Int:=(zM 48271 (zM 48271 p.1 (x%2147483648)) (x/2147483648),zM 69621 (zM 69621 p.2 (x%2147483648)) (x/2147483648))
def Dk(l:List Int):Int:=let p:=(((l.length:Int)::l).foldl tF (1,2));p.1*2147483648+p.2
def Ge(c s k:Int):0<=zM c s k/\zM c s k<=2147483646:=by unfold zM;omega
def At{c s k:Int}(hc:c=48271\/c=69621)(hs:0<=s/\s<=2147483646)(hk:0<=k/\k<=2147483648):(i64.wrap ((i64.wrap ((i64.wrap (c*s))+k))+1)).tmod 2147483647=zM c s k:=by
 rcases hc with rfl|rfl
 ·rw[aI (n:=48271*s) (by omega) (by omega),aI (n:=48271*s+k) (by omega) (by omega),aI (by omega) (by omega),je (by omega)];rfl
 rw[aI (n:=69621*s) (by omega) (by omega),aI (n:=69621*s+k) (by omega) (by omega),aI (by omega) (by omega),je (by omega)];rfl
def MM(p:Int×Int):Prop:=(0<=p.1/\p.1<=2147483646)/\(0<=p.2/\p.2<=2147483646)
def zAM(p:Int×Int)(x:Int):MM (tF p x):=⟨Ge _ _ _,Ge _ _ _⟩
theorem ET:∀(l:List Int) (p:Int×Int),MM p->MM (l.foldl tF p)
 |[],_,h=>h
 |x::l,p,_=>ET l _ (zAM p x)
def zxq(l:List Int):cC (Dk l)=Z:=by
 obtain⟨h1,h2⟩:=ET ((l.length:Int)::l) (1,2) ⟨by decide,by decide⟩;refine jj.2 ?_;unfold Dk;dsimp only;omega
def ZP{p:Int×Int}(hp:MM p)(hx:cC x=Z):Ew p.1 p.2 x=J (tF p x):=by
 obtain⟨h1,h2⟩:=hp;have hx:=jj.1 hx;have e1:x.tmod 2147483648=x%2147483648:=je hx.1
 have e2:i64.wrap (x.tdiv 2147483648)=x/2147483648:=by
  rw[Ur hx.1,aI (by omega) (by omega)]
 have b1:0<=x%2147483648/\x%2147483648<=2147483648:=by omega
 have b2:0<=x/2147483648/\x/2147483648<=2147483648:=by omega
 have h0:ix [x%2147483648,x/2147483648] 0=J (x%2147483648):=rfl;have jO:ix [x%2147483648,x/2147483648] 1=J (x/2147483648):=rfl;unfold Ew;rw[e1,e2,aR,NX];simp only[dX,ia,show decide ((0:Int)<((0+1+1:Nat):Int))=Z from rfl,eP,h0,aR,At (.inl rfl) h1 b1,At (.inr rfl) h2 b1];rw[NX];simp only[show i64.wrap (0+1)=1 from rfl,show decide ((1:Int)<((0+1+1:Nat):Int))=Z from rfl,eP,jO,aR,At (.inl rfl) (Ge _ _ _) b2,At (.inr rfl) (Ge _ _ _) b2];rw[NX];simp only[show i64.wrap (1+1)=2 from rfl,show decide ((2:Int)<((0+1+1:Nat):Int))=aa from rfl,p8,l7,aR];rfl
def zvv(h:l.all cC=Z)(hk:k<l.length):cC l[k]=Z:=bm.1 h _ (e9 hk)
def zBN(hl:l.length<=1000000000000)(hd:l.all cC=Z):JE l=J (Dk l):=by
 unfold JE;have e0:=ZP (p:=(1,2)) (x:=(l.length:Int)) ⟨by decide,by decide⟩ (jj.2 ⟨by omega,by omega⟩);refine bE (ag e0 (ay (ψ:=λp=>p=((l.length:Int)::l).foldl tF (1,2)) (ec (λn p=>p=((l.length:Int)::l.take n).foldl tF (1,2)) rfl ?_ ?_) ?_))
 ·rintro n p hn rfl;refine bD hn (ag (ZP (ET _ _ ⟨by decide,by decide⟩) (zvv hd hn)) (aj ?_));show tF _ _=_;rw[<-a0J hn,<-t5,GC];rfl
 ·rintro p rfl;show(((l.length:Int)::l.take l.length).foldl tF (1,2))=_;rw[f6]
 rintro p rfl;obtain⟨h1,h2⟩:=ET ((l.length:Int)::l) (1,2) ⟨by decide,by decide⟩;refine aj ?_;rw[aI (n:=_*2147483648) (by omega) (by omega),aI (by omega) (by omega)];rfl
def zzm(hx:cC x=Z):i64.wrap (BitVec.ofInt IntKind.i64.bits x&&&BitVec.ofInt IntKind.i64.bits 2147483647).toNat=x%2147483648:=by
 have hx:=jj.1 hx;obtain⟨n,rfl⟩:=fJ hx.1
 have h1:(BitVec.ofInt IntKind.i64.bits ((n:Nat):Int)&&&BitVec.ofInt IntKind.i64.bits 2147483647).toNat=n%2147483648:=by
  rw[a0B]
  have a1:(BitVec.ofInt IntKind.i64.bits (n:Int)).toNat=n:=by
   rw[BitVec.toNat_ofInt];have:IntKind.i64.bits=64:=rfl;rw[this];omega
  have a2:(BitVec.ofInt IntKind.i64.bits 2147483647).toNat=2^31-1:=by decide
  rw[a1,a2,Nat.and_two_pow_sub_one_eq_mod]
 rw[h1,aI (by omega) (by omega)];omega
def zC0(hl:l.length<=1000000000000)(hd:l.all cC=Z):HQ l=J (Dk l):=by
 unfold HQ
 have ku:((l.length:Int)::l).all cC=Z:=by
  rw[yC,hd,A3];exact jj.2 ⟨by omega,by omega⟩
 refine bE (aG (by simp only[dX,ia];omega) (ag rfl (ay (ψ:=λp=>p=((l.length:Int)::l).foldl tF (1,2)) (ec (λn p=>p=(((l.length:Int)::l).take n).foldl tF (1,2)) rfl ?_ ?_) ?_)))
 ·rintro n p hn rfl;have ok:=ET ((((l.length:Int)::l)).take n) (1,2) ⟨by decide,by decide⟩;have dg:=zvv ku hn;have b:=jj.1 dg;have ef:(((l.length:Int)::l)[n]).fdiv 2147483648=((l.length:Int)::l)[n]/2147483648:=a0C _ (by omega);have JX:n<((l.length:Int)::l).length:=hn;refine bD hn (aj ?_);show(_,_)=_;simp only[a0u]
  rw[zzm dg,ef,At (.inl rfl) ok.1 (by omega),At (.inr rfl) ok.2 (by omega),At (.inl rfl) (Ge _ _ _) (by omega),At (.inr rfl) (Ge _ _ _) (by omega),
   <-a0J JX,GC]
  rfl
 ·rintro p rfl;show((((l.length:Int)::l).take ([(l.length:Int)]++l).length).foldl tF (1,2))=_;rw[a0u,f6]
 rintro p rfl;obtain⟨h1,h2⟩:=ET ((l.length:Int)::l) (1,2) ⟨by decide,by decide⟩;refine aj ?_;rw[aI (n:=_*2147483648) (by omega) (by omega),aI (by omega) (by omega)];rfl
def sT(s:ByteArray)(l:List Int):Int:=Dk ((s.size:Int)::oB s++l)
def RX(s:ByteArray)(l:List Int):cC (sT s l)=Z:=zxq _
def qu(s:ByteArray)(l:List Int):Bool:=decide (s.size<=40)&&decide (1+s.size+l.length<=400)&&l.all cC
def zvo(hs:s.size<=1000000):((s.size:Int)::oB s++l).all cC=l.all cC:=by
 rw[t5,yC,kq,zBc,jj.2 ⟨by omega,by omega⟩,gV,gV]
def UU(hs:s.size<=1000000)(hl:l.length<=100000000000)(hd:l.all cC=Z):DJ s l=J (sT s l):=by
 unfold DJ;rw[Zs s l hs (by omega),aR,zBN (by simp[Bx];omega) (by rw[zvo hs];exact hd)];rfl
def ztK(l:List Int):HB l=J (decide (l.length<=400)&&l.all cC):=by
 unfold HB
 have h1:DZ l=J (l.all cC):=NK (f:=BB) λx _=>by
  unfold BB;rw[Xj];rfl
 rw[h1];by_cases h:l.length<=400
 ·rw[aB (by simp;omega)];simp[h]
 rw[az (by simp;omega)];simp[h]
def zw2(l:List Int):Kk l=J (if(decide (l.length<=400)&&l.all cC)=Z then(Dk l,Z)else(0,aa)):=by
 unfold Kk;rw[ztK,aR];cases h:(decide (l.length<=400)&&l.all cC)with
 |true=>
  simp only[bI,eC]at h;rw[zC0 (by omega) h.2];rfl
 |false=>rfl
def Xt(s:ByteArray)(l:List Int):Br s l=J (if qu s l=Z then(sT s l,Z)else(0,aa)):=by
 unfold Br;by_cases h1:s.size<=40
 ·by_cases h2:l.length<=400
  ·rw[az (by simp;omega),aR,az (by simp;omega),zwI s l (by omega) (by omega),aR,zw2,zvo (by omega)];have e:((s.size:Int)::oB s++l).length=1+s.size+l.length:=by simp[Bx];omega
   rw[e];have e2:qu s l=(decide (1+s.size+l.length<=400)&&l.all cC):=by simp[qu,h1]
   rw[e2];cases decide (1+s.size+l.length<=400)<;>cases l.all cC<;>rfl
  rw[az (by simp;omega),aR,aB (by simp;omega)]
  have:qu s l=aa:=by
   have:¬1+s.size+l.length<=400:=by omega
   simp[qu,this]
  rw[this];rfl
 rw[aB (by simp;omega),aR,aB rfl];have:qu s l=aa:=by simp[qu,h1]
 rw[this];rfl
theorem YK{p:Nat}(hp:Pr p){b:Nat}(h1:1<=b)(h2:b<p):∀e:Nat,b^e%p≠0
 |0=>by
  have:=hp.1;rw[Uu,nU (by omega)];omega
 |e+1=>λh=>by
  have hb:((b^e:Nat):Int)%(p:Int)=0\/(b:Int)%(p:Int)=0:=Do hp (by
   rw[<-C9,<-Nat.pow_succ,<-o7,h];rfl)
  rcases hb with h3|h3
  ·exact YK hp h1 h2 e (by rw[<-o7]at h3;omega)
  ·rw[<-o7,nU h2]at h3;omega
def yV(gr:am)(s:ByteArray)(k c:Int):Int:=1+sT s [gr.P,gr.Q,gr.G,k,c]%(gr.P-1)
def kx(gr:am)(s:ByteArray)(k c:Int):Int:=(((yV gr s k c).toNat^((gr.P-1)/gr.Q).toNat%gr.P.toNat:Nat):Int)
def Pt(k:ao gr)(s:ByteArray)(i c:Int):1<=yV gr s i c/\yV gr s i c<=gr.P-1:=by
 have hp:=k.p;have h1:=nW (sT s [gr.P,gr.Q,gr.G,i,c]) (show gr.P-1≠0 by omega);have h2:=sJ (sT s [gr.P,gr.Q,gr.G,i,c]) (show 0<gr.P-1 by omega);unfold yV;omega
def QY(k:ao gr)(s:ByteArray)(i c:Int):1<=kx gr s i c/\kx gr s i c<=gr.P-1:=by
 have hp:=k.p;have hx:=Pt k s i c;have h1:=YK k.pp (b:=(yV gr s i c).toNat) (by omega) (by omega) ((gr.P-1)/gr.Q).toNat;have h2:=mN ((yV gr s i c).toNat^((gr.P-1)/gr.Q).toNat) (show 0<gr.P.toNat by omega);unfold kx;omega
def Wx(k:ao gr)(s:ByteArray)(i c:Int):
 nA (i64.wrap (1+((sT s [gr.P,gr.Q,gr.G,i,c]).tmod (i64.wrap (gr.P-1))))) (i64.wrap ((i64.wrap (gr.P-1)).tdiv gr.Q)) gr.P=J (kx gr s i c)/\
 k9 (i64.wrap (1+((sT s [gr.P,gr.Q,gr.G,i,c]).tmod (i64.wrap (gr.P-1))))) (i64.wrap ((i64.wrap (gr.P-1)).tdiv gr.Q)) gr.P=J (kx gr s i c):=by
 have hp:=k.p;have hq:=k.q;have hd:=jj.1 (RX s [gr.P,gr.Q,gr.G,i,c]);have hx:=Pt k s i c;have e1:i64.wrap (gr.P-1)=gr.P-1:=aI (by omega) (by omega)
 have e2:i64.wrap (1+((sT s [gr.P,gr.Q,gr.G,i,c]).tmod (gr.P-1)))=yV gr s i c:=by
  rw[je hd.1];unfold yV at hx⊢;exact aI (by omega) (by omega)
 have h3:(gr.P-1)/gr.Q<=gr.P-1:=Int.ediv_le_self _ (by omega);have h4:0<=(gr.P-1)/gr.Q:=Int.ediv_nonneg (by omega) (by omega)
 have e3:i64.wrap ((gr.P-1).tdiv gr.Q)=(gr.P-1)/gr.Q:=by
  rw[Ur (by omega),aI (by omega) (by omega)]
 rw[e1,e2,e3];exact py (by omega) (by omega) (by omega) (by omega) h4 (by omega)
def zvB(k:ao gr){c:Int}(hi:cC i=Z)(hc:0<=c/\c<=1000):[gr.P,gr.Q,gr.G,i,c].all cC=Z:=by
 have hp:=k.p;have hq:=k.q;have hg:=k.g;simp only[yC,KH,A3,bI];exact⟨jj.2 (by omega),jj.2 (by omega),jj.2 (by omega),hi,jj.2 (by omega)⟩
def qx(gr:am)(s:ByteArray)(i y:Int):Prop:=(∃c:Nat,c<1000/\y=kx gr s i c/\kx gr s i c≠1/\∀j:Nat,j<c->kx gr s i j=1)\/(y=0/\∀j:Nat,j<1000->kx gr s i j=1)
def RB(k:ao gr)(h1:qx gr s i x)(h2:qx gr s i y):x=y:=by
 rcases h1 with⟨c,hc,rfl,h3,h4⟩|⟨rfl,h4⟩<;>rcases h2 with⟨d,hd,rfl,h5,h6⟩|⟨rfl,h6⟩
 ·rcases Nat.lt_trichotomy c d with h|h|h
  ·exact absurd (h6 c h) h3
  ·rw[h]
  exact absurd (h4 d h) h5
 ·exact absurd (h6 c hc) h3
 ·exact absurd (h4 d hd) h5
 rfl
def zAK(k:ao gr)(h1:qx gr s i x):0<=x/\x<=gr.P-1:=by
 have hp:=k.p;rcases h1 with⟨c,hc,rfl,h3,h4⟩|⟨rfl,h4⟩
 ·have:=QY k s i c;omega
 omega
def zvG(k:ao gr)(hs:s.size<=40)(hi:cC i=Z):Rn (zL gr s i) (qx gr s i):=by
 have hp:=k.p;have hq:=k.q;unfold zL
 refine ay (ψ:=λx=>(x=.inl ()/\∀j:Nat,j<1000->kx gr s i j=1)\/∃c:Nat,c<1000/\x=.inr (kx gr s i c)/\kx gr s i c≠1/\∀j:Nat,j<c->kx gr s i j=1)
  (kK 1000 (λn p=>p=(n:Int)/\n<=1000/\∀j:Nat,j<n->kx gr s i j=1) ⟨rfl,by omega,λj hj=>by omega⟩ ?_ ?_) ?_
 ·rintro n p hn ⟨rfl,_,hI⟩;refine aZ (λ_=>?_) λh=>absurd h (by simp;omega)
  refine ag (UU (by omega) (by simp) (zvB k hi (by omega))) (aG (by rw[aI (by omega) (by omega)];omega) (aG (by omega) (ag (Wx k s i n).2 (aZ (λh=>aj (.inr ⟨n,hn,rfl,by simpa using h,hI⟩)) λh=>aj ⟨by rw[aI (by omega) (by omega)];rfl,hn,λj hj=>?_⟩))));rcases dK j n with h1|h1
  ·exact hI j h1
  have:j=n:=by omega
  subst this;simpa using h
 ·rintro p ⟨rfl,_,hI⟩;refine aZ (λh=>absurd h (by simp)) λ_=>aj (.inl ⟨rfl,hI⟩)
 rintro x (⟨rfl,h⟩|⟨c,hc,rfl,h⟩)
 ·exact aj (.inr ⟨rfl,h⟩)
 exact aj (.inl ⟨c,hc,rfl,h⟩)
def zyZ(k:ao gr)(hs:s.size<=40)(hi:cC i=Z):Rn (xj gr s i) (λx=>qx gr s i x.1/\x.2=decide (0<x.1)):=by
 have hp:=k.p;have hq:=k.q;unfold xj
 refine ay (ψ:=λx=>(x=.inl ()/\∀j:Nat,j<1000->kx gr s i j=1)\/∃c:Nat,c<1000/\x=.inr (kx gr s i c,Z)/\kx gr s i c≠1/\∀j:Nat,j<c->kx gr s i j=1)
  (kK 1000 (λn p=>p=(n:Int)/\n<=1000/\∀j:Nat,j<n->kx gr s i j=1) ⟨rfl,by omega,λj hj=>by omega⟩ ?_ ?_) ?_
 ·rintro n p hn ⟨rfl,_,hI⟩;refine aZ (λ_=>?_) λh=>absurd h (by simp;omega)
  have hl:qu s [gr.P,gr.Q,gr.G,i,(n:Int)]=Z:=by
   have:=zvB k (i:=i) (c:=n) hi (by omega);simp only[qu,this,A3,dX,ia,bI,eC];omega
  have eh:Br s [gr.P,gr.Q,gr.G,i,(n:Int)]=J (sT s [gr.P,gr.Q,gr.G,i,(n:Int)],Z):=by rw[Xt,aB hl]
  refine ag eh (bt rfl (aG (by rw[aI (by omega) (by omega)];omega) (aG (by omega) (ag (Wx k s i n).1 (aZ (λh=>aj (.inr ⟨n,hn,rfl,by simpa using h,hI⟩)) λh=>aj ⟨by rw[aI (by omega) (by omega)];rfl,hn,λj hj=>?_⟩)))));rcases dK j n with h1|h1
  ·exact hI j h1
  have:j=n:=by omega
  subst this;simpa using h
 ·rintro p ⟨rfl,_,hI⟩;refine aZ (λh=>absurd h (by simp)) λ_=>aj (.inl ⟨rfl,hI⟩)
 rintro x (⟨rfl,h⟩|⟨c,hc,rfl,h⟩)
 ·exact aj ⟨.inr ⟨rfl,h⟩,rfl⟩
 have:=QY k s i c;exact aj ⟨.inl ⟨c,hc,rfl,h⟩,by symm;simp;omega⟩
def MV(k:ao gr)(hs:s.size<=40)(hi:cC i=Z):∃y,zL gr s i=J y/\xj gr s i=J (y,decide (0<y))/\qx gr s i y:=by
 obtain⟨y,h1,h2⟩:=zvG k hs hi;obtain⟨⟨z,t⟩,h3,h4,h5⟩:=zyZ k hs hi;refine⟨y,h1,?_,h2⟩;simp only at h4 h5;have:z=y:=RB k h4 h2;subst this;rw[h3,h5]
def WR{α:Type}{R:Nat->α->Prop}{l:List α}{n:Nat}{z:α}(hl:l.length=n)(h:∀j (h:j<l.length),R j l[j])(hz:R n z):∀j (h:j<(l++[z]).length),R j (l++[z])[j]:=by
 intro j hj;rw[List.getElem_append];split
 ·exact h j _
 have hj:j<n+1:=by simpa[hl]using hj
 have e:j=n:=by omega
 subst e;simpa[hl]using hz
def E7(gr:am)(n:Nat)(l:List Int):Prop:=l.length=n/\∀j (h:j<l.length),qx gr ⟨#[104,115]⟩ j l[j]
def zB3(k:ao gr){n:Nat}(hn:n<=24):∃b t,sB gr (n:Int)=J (b,t)/\lw gr (n:Int)=J (b,t)/\
 (t=Z->qx gr ⟨#[104]⟩ 0 b.H/\0<b.H/\E7 gr n b.Hs/\∀x∈b.Hs,0<x):=by
 have hp:=k.p;obtain⟨y,hy1,JK,Qn⟩:=MV k (s:=⟨#[104]⟩) (by decide) (i:=0) rfl;have d6:uR gr=Z:=Oa.2 k;have D:∀m:Nat,m<24->∃z,zL gr ⟨#[104,115]⟩ m=J z/\xj gr ⟨#[104,115]⟩ m=J (z,decide (0<z))/\qx gr ⟨#[104,115]⟩ m z:=λm hm=>MV k (by decide) (jj.2 ⟨by omega,by omega⟩)
 have S:Rn (JM gr ⟨#[104,115]⟩ (n:Int)) (λx=>(x.2=Z/\E7 gr n x.1/\∀z∈x.1,0<z)\/(x=([],aa)/\∃m:Nat,m<n/\qx gr ⟨#[104,115]⟩ m 0)):=by
  unfold JM;refine ay (ψ:=λb=>b=aa) ?_ ?_
  ·refine ag (Ju gr) (bt (by rw[d6];rfl) (bt rfl (ag (rY _ _ _) (aj ?_))));simp;omega
  ·rintro _ rfl;refine bt rfl (ay (ψ:=λx=>(∃l,x=.inl l/\E7 gr n l/\∀z∈l,0<z)\/(x=.inr ([],aa)/\∃m:Nat,m<n/\qx gr ⟨#[104,115]⟩ m 0)) (kK n (λm p=>p.2=(m:Int)/\m<=n/\E7 gr m p.1/\∀z∈p.1,0<z) ⟨rfl,by omega,⟨rfl,λj hj=>by simp at hj⟩,λz hz=>by simp at hz⟩ ?_ ?_) ?_)
   ·rintro m ⟨l,c⟩ hm ⟨h1,_,hD,qD⟩;simp only at h1 hD qD;subst h1;obtain⟨z,z1,z2,z3⟩:=D m (by omega);have zb:=zAK k z3;refine aZ (λ_=>?_) λh=>absurd h (by simp;omega)
    refine ag z1 (aZ (λh=>aj (.inr ⟨rfl,m,hm,?_⟩)) λh=>aG ?_ (aj ⟨?_,hm,⟨by simp[hD.1],WR hD.1 hD.2 z3⟩,λw hw=>?_⟩))
    ·have:z=0:=by simpa using h
     rw[<-this];exact z3
    ·have:=hD.1;simp only;omega
    ·show i64.wrap _=_;rw[aI (by omega) (by omega)];rfl
    ·rcases jY.1 hw with h1|h1
     ·exact qD w h1
     ·have:w=z:=by simpa using h1
      subst this;have:¬w=0:=by simpa using h
      omega
   ·rintro⟨l,_⟩ ⟨rfl,_,hD⟩;exact aZ (λh=>absurd h (by simp)) λ_=>aj (.inl ⟨l,rfl,hD⟩)
   ·rintro x (⟨l,rfl,h⟩|⟨rfl,h⟩)
    ·exact aj (.inl ⟨rfl,h⟩)
    ·exact aj (.inr ⟨rfl,h⟩)
 have I:Rn (dJ (σ:=Int×List Int×Bool×Int) (β:=Int×List Int×Bool) (λgv=>
 if decide (gv.2.2.2<(n:Int))=Z then(
 (xj gr (⟨#[104,115]⟩:ByteArray) gv.2.2.2).bind λkM=>
 ((if gv.2.2.1=Z then(
 J kM.2)else(
 J aa):Option Bool).bind λqH=>
 gd ((gv.2.1.length+1)*8<=140737488355328/\gv.2.1.length+1<=4611686018427387904)<|
 J (.go (gv.1,gv.2.1++[kM.1],qH,i64.wrap (gv.2.2.2+1)))))else(
 J (.out (gv.1,gv.2.1,gv.2.2.1)))) (y,[],Z,0)) (λx=>x.1=y/\E7 gr n x.2.1/\x.2.2=x.2.1.all (λz=>decide (0<z))):=by
  refine kK n (λm p=>p.1=y/\p.2.2.2=(m:Int)/\m<=n/\E7 gr m p.2.1/\p.2.2.1=p.2.1.all (λz=>decide (0<z))) ⟨rfl,rfl,by omega,⟨rfl,λj hj=>by simp at hj⟩,rfl⟩ ?_ ?_
  ·rintro m ⟨w,l,t,c⟩ hm ⟨h1,h2,_,hD,h3⟩;simp only at h1 h2 hD h3;subst h1 h2 h3;obtain⟨z,z1,z2,z3⟩:=D m (by omega);refine aZ (λ_=>?_) λh=>absurd h (by simp;omega)
   refine ag z2 (ay (ψ:=λb=>b=(l.all (λz=>decide (0<z))&&decide (0<z))) (aZ (λh=>aj ?_) λh=>aj ?_) ?_)
   ·simp only at h;rw[h];rfl
   ·simp only at h;rw[h];rfl
   ·rintro _ rfl;refine aG (by have:=hD.1;dsimp only;omega) (aj ⟨rfl,?_,hm,⟨by simp[hD.1],WR hD.1 hD.2 z3⟩,?_⟩)
    ·show i64.wrap ((m:Int)+1)=_;rw[aI (by omega) (by omega)];rfl
    ·show _=(l++[z]).all _;simp
  ·rintro⟨w,l,t,c⟩ ⟨h1,h2,_,hD,h3⟩;simp only at h1 h2 hD h3;subst h1 h2 h3;exact aZ (λh=>absurd h (by simp)) λ_=>aj ⟨rfl,hD,rfl⟩
 obtain⟨⟨b,l,t⟩,i1,i2,i3,i4⟩:=I;simp only at i2 i3 i4;subst i2;obtain⟨⟨l2,t2⟩,s1,s2⟩:=S
 have E:t2=t/\(t=Z->l2=l/\∀z∈l,0<z):=by
  rcases s2 with⟨h1,h2,h3⟩|⟨h1,m,hm,h3⟩
  ·simp only at h1 h2 h3;have e:l2=l:=List.ext_getElem (h2.1.trans i3.1.symm) λj a c=>RB k (h2.2 j a) (i3.2 j c)
   subst e;have:l2.all (λz=>decide (0<z))=Z:=by simpa using h3
   rw[this]at i4;exact⟨by rw[h1,i4],λ_=>⟨rfl,h3⟩⟩
  ·cases h1;have kA:m<l.length:=by rw[i3.1];exact hm
   have:l[m]=0:=RB k (i3.2 m kA) h3
   have hf:l.all (λz=>decide (0<z))=aa:=by
    rw[yD];exact⟨l[m],e9 kA,by simp[this]⟩
   rw[hf]at i4;exact⟨i4.symm,λh=>by rw[i4]at h;cases h⟩
 have S0:sB gr (n:Int)=J (if(decide (0<b)&&t2)=Z then(⟨b,l2⟩,Z)else(⟨0,[]⟩,aa)):=by
  have hD:GF gr ⟨#[104]⟩ 0=J (b,decide (0<b)):=by
   unfold GF;rw[Ju,d6];simp only[aR,wd,p8,l7];rw[az (show¬(decide (40<(((⟨#[104]⟩:ByteArray).size:Nat):Int))=Z)by decide),zv4,aR,aR,az (by decide),hy1,aR]
  unfold sB;rw[Ju,d6];simp only[aR,wd,p8,l7];rw[rY,aR,aR,az (by simp;omega),hD,aR,s1,aR];cases decide (0<b)<;>cases t2<;>rfl
 have I0:lw gr (n:Int)=J (if(decide (0<b)&&t)=Z then(⟨b,l⟩,Z)else(⟨0,[]⟩,aa)):=by
  unfold lw;rw[JK,aR,i1,aR];cases decide (0<b)<;>cases t<;>rfl
 obtain⟨rfl,E2⟩:=E;cases hb:(decide (0<b)&&t2)with
 |false=>
  rw[hb]at S0 I0;exact⟨_,_,S0,I0,λh=>by cases h⟩
 |true=>
  rw[hb]at S0 I0;simp only[bI,eC]at hb;obtain⟨rfl,qD⟩:=E2 hb.2;exact⟨_,_,S0,I0,λ_=>⟨Qn,hb.1,i3,qD⟩⟩
def zC4{α β γ:Type}{l:List α}{f:α->β}{body:Int->List β->Option (fb (List β) γ)}{stop:List β->γ}(a0:List β)(hs:∀k (h:k<l.length) (s:List β),s.length=a0.length+k->body (k:Int) s=J (.go (s++[f l[k]]))):
 aS body stop l.length 0 a0=J (stop (a0++l.map f)):=by
 refine bE (ec (λk s=>s=a0++(l.take k).map f/\k<=l.length) ⟨by simp,by omega⟩ ?_ ?_)
 ·rintro k s hk ⟨rfl,_⟩;refine⟨_,hs k hk _ (by simp;omega),?_,hk⟩;rw[iO hk,l8,gU];rfl
 rintro s ⟨rfl,_⟩;simp
def zCX{γ:Type}{m:Nat}(p:Nat->Bool)(c d:γ){body:Int->Unit->Option (fb Unit (Unit ⊕ γ))}(h:∀k,k<m->body (k:Int) ()=J (if p k=Z then .go ()else .out (.inr c))):
 (aS body (λ_=>.inl ()) m 0 ()).bind (Sum.elim (λ_=>J d) J)=J (if(List.range m).all p=Z then d else c):=by
 rcases Ix (body:=body) m p (λ_=>c) h with⟨e,h1⟩|⟨k,h1,h2,h3,e⟩
 ·have:(List.range m).all p=Z:=by
   rw[bm];intro x hx;exact h1 x (kp.1 hx)
  rw[e,this];rfl
 have:(List.range m).all p=aa:=by
  rw[yD];exact⟨k,kp.2 h1,by simp[h2]⟩
 rw[e,this];rfl
def cX(a b x:Int):Bool:=decide (a<=x)&&decide (x<=b)
def Vi :cX a b x=Z↔a<=x/\x<=b:=by simp[cX]
def TO(a b:Bool):(if a=Z then J b else J aa)=J (a&&b):=by cases a<;>rfl
def zBo(hl:l.length<=1000000000000):NE l=J (oz l):=zsx zvs l hl
def Nn(h:l.length<=1048576):B6 l=J l:=eE (by omega)
def zBJ(h:l.length<=1048576):u0 l=J l:=eE (by omega)
def FQ{σ:Type}(f:Nat->σ->σ):Nat->σ->σ
 |0,s=>s
 |n+1,s=>f n (FQ f n s)
theorem Nt{σ:Type}{f:Nat->σ->σ}{I:Nat->σ->Prop}{s0:σ}(h0:I 0 s0){m:Nat}(h:∀k s,k<m->I k s->I (k+1) (f k s)):∀k,k<=m->I k (FQ f k s0)
 |0,_=>h0
 |k+1,hk=>h k _ (by omega) (Nt h0 h k (by omega))
def zDZ{σ β:Type}{body:Int->σ->Option (fb σ β)}{stop:σ->β}{m:Nat}{s0:σ}(f:Nat->σ->σ)(I:Nat->σ->Prop)(h0:I 0 s0)(hi:∀k s,k<m->I k s->I (k+1) (f k s))(hs:∀k s,k<m->I k s->body (k:Int) s=J (.go (f k s))):
 aS body stop m 0 s0=J (stop (FQ f m s0)):=by
 refine bE (ec (λk s=>s=FQ f k s0/\k<=m) ⟨rfl,by omega⟩ ?_ ?_)
 ·rintro k s hk ⟨rfl,_⟩;exact⟨_,hs k _ hk (Nt h0 hi k (by omega)),rfl,hk⟩
 rintro s ⟨rfl,_⟩;rfl
def O1{α:Type}{L:List (List α)}{i:Nat}(h:i<L.length):(L.take (i+1)).flatten=(L.take i).flatten++L[i]:=by
 rw[iO h,Uf];simp
def Za{α:Type}(L:List (List α))(i:Nat):(L.take i).flatten.length<=L.flatten.length:=by
 have e:L.flatten=(L.take i).flatten++(L.drop i).flatten:=by rw[<-Uf,Df]
 rw[e,bP];omega
def Dr(L:List (List Int))(h:L.flatten.length<=1000000000000):pS L=J L.flatten:=by
 unfold pS;refine bE (ay (ψ:=λn=>n=(L.flatten.length:Int)) (ec (λi s=>s=((L.take i).flatten.length:Int)) rfl ?_ ?_) ?_)
 ·rintro i s hi rfl;have e:=gn List.length (O1 hi);rw[bP]at e;have hl:=Za L (i+1);refine bD hi ?_;rw[aI (by omega) (by omega)];refine bt (by simp only[we];omega) (aj ?_);show _=_;omega
 ·rintro s rfl;rw[f6]
 rintro n rfl;refine aG (by omega) (ay (ψ:=λr=>r=L.flatten) (ec (λi s=>s=(L.take i).flatten) rfl ?_ ?_) λr hr=>aj hr)
 ·rintro i s hi rfl;have e:=gn List.length (O1 hi);rw[bP]at e;have hl:=Za L (i+1);refine bD hi (aG (by omega) (aj ?_));show _=_;rw[O1 hi]
 rintro s rfl;rw[f6]
def chG(gr:am)(s:ByteArray)(l:List Int):Int:=sT s ([gr.P,gr.Q,gr.G]++l)%gr.Q
def mE(k:ao gr)(s:ByteArray)(l:List Int):0<=chG gr s l/\chG gr s l<gr.Q:=by
 have:=k.q;exact⟨nW _ (by omega),sJ _ (by omega)⟩
def Va(k:ao gr) :([gr.P,gr.Q,gr.G]++l).all cC=l.all cC:=by
 have hp:=k.p;have hq:=k.q;have hg:=k.g;rw[kq]
 have:[gr.P,gr.Q,gr.G].all cC=Z:=by
  simp only[yC,KH,A3,bI];exact⟨jj.2 (by omega),jj.2 (by omega),jj.2 (by omega)⟩
 rw[this,gV]
def L4(k:ao gr)(hs:s.size<=1000000)(hl:l.length<=10000000000)(hd:l.all cC=Z):pd gr s l=J (chG gr s l):=by
 have hq:=k.q;have hb:=jj.1 (RX s ([gr.P,gr.Q,gr.G]++l));unfold pd;rw[eE (by simp only[dX,ia];omega),UU hs (by simp only[bP,dX,ia];omega) (by rw[Va k];exact hd),aR,eE (by omega),je hb.1];rfl
def K3(k:ao gr)(s:ByteArray)(hl:l.length<=10000000000):ml gr s l=J (if qu s ([gr.P,gr.Q,gr.G]++l)=Z then(chG gr s l,Z)else(0,aa)):=by
 have hq:=k.q;have hb:=jj.1 (RX s ([gr.P,gr.Q,gr.G]++l));unfold ml;rw[eE (by simp only[dX,ia];omega),Xt,aR];cases qu s ([gr.P,gr.Q,gr.G]++l)with
 |false=>rfl
 |true=>
  simp only[eP,wd,p8,l7];rw[eE (by omega),je hb.1];rfl
def K7(k:ao gr)(hs:s.size<=40)(hl:4+s.size+l.length<=400)(hd:l.all cC=Z):qu s ([gr.P,gr.Q,gr.G]++l)=Z:=by
 unfold qu;rw[Va k,hd,A3,bI,eC,eC];simp only[bP,dX,ia];omega
def oF(k:ao gr)(h:l.all (aK gr)=Z):l.all cC=Z:=by
 have hp:=k.p;rw[bm]at h⊢;intro x hx;have:=qi (h x hx);exact jj.2 (by omega)
def zaO(gr:am):List Int->List Int->Int->Int
 |x::l,e::m,o=>zaO gr l m (o*av gr x e%gr.P)
 |_,_,o=>o
theorem LM(gr:am):∀(l m:List Int) (x e o:Int),l.length=m.length->zaO gr (l++[x]) (m++[e]) o=zaO gr l m o*av gr x e%gr.P
 |[],[],x,e,o,_=>rfl
 |y::l,f::m,x,e,o,h=>LM gr l m x e _ (by simpa using h)
theorem QA(gr:am):∀(l m:List Int) (o:Int),zaO gr l (m.take l.length) o=zaO gr l m o
 |[],m,o=>by cases m<;>rfl
 |y::l,[],o=>rfl
 |y::l,f::m,o=>QA gr l m _
theorem OP{gr:am}(h:0<gr.P):∀(l m:List Int) (o:Int),0<=o/\o<gr.P->0<=zaO gr l m o/\zaO gr l m o<gr.P
 |x::l,e::m,o,_=>OP h l m _ ⟨nW _ (by omega),sJ _ h⟩
 |[],_,o,ho=>ho
 |_::_,[],o,ho=>ho
def Kc(k:ao gr)(hx:0<=x/\x<gr.P)(hy:0<=y):aP gr [x,y]=x*y%gr.P:=by
 have hp:=k.p;simp only[aP,Oy,List.foldl_nil,UH];rw[qg hx.1 hx.2]
def oO(k:ao gr)(hl:∀x∈l,0<=x/\x<=2000000000)(hm:l.length<=m.length):lq gr l m=J (zaO gr l m 1):=by
 have hp:=k.p;unfold lq;refine bE (ay (ψ:=λb=>b=zaO gr l m 1) (ec (λi s=>s=zaO gr (l.take i) (m.take i) 1) rfl ?_ ?_) λb hb=>aj hb)
 ·rintro i s hi rfl;have bd:=OP (gr:=gr) (by omega) (l.take i) (m.take i) 1 (by omega);have hx:=hl l[i] (e9 hi);have pb:=zu k l[i] (m[i]'(by omega));refine bD hi (bD (show i<m.length by omega) (ag (zC7 k hx.1 hx.2 _) (aG (by omega) (aj ?_))));show _=zaO gr (l.take (i+1)) (m.take (i+1)) 1;rw[iO hi,iO (show i<m.length by omega),LM _ _ _ _ _ _ (by simp;omega)];have b1:=sK bd.1 pb.1;have b2:zaO gr (l.take i) (m.take i) 1*av gr l[i] (m[i]'(by omega))<=2000000000*2000000000:=wh (by omega) (by omega) pb.1 (by omega);rw[aI (by omega) (by omega),je b1]
 rintro s rfl;rw[f6,QA]
def oR(k:ao gr)(hl:∀x∈l,0<=x/\x<=2000000000)(hm:l.length<=m.length):kU gr l m=J (zaO gr l m 1):=by
 have hp:=k.p;unfold kU;refine bE (ay (ψ:=λb=>b=zaO gr l m 1) (ec (λi s=>s=zaO gr (l.take i) (m.take i) 1) rfl ?_ ?_) λb hb=>aj hb)
 ·rintro i s hi rfl;have bd:=OP (gr:=gr) (by omega) (l.take i) (m.take i) 1 (by omega);have hx:=hl l[i] (e9 hi);have pb:=zu k l[i] (m[i]'(by omega));refine bD hi (bD (show i<m.length by omega) (ag (DY k hx.1 hx.2 _).1 (ag (AK k ?_) (aj ?_))))
  ·intro y hy;simp only[fK,jf,jg]at hy;rcases hy with rfl|rfl<;>omega
  show _=zaO gr (l.take (i+1)) (m.take (i+1)) 1;rw[iO hi,iO (show i<m.length by omega),LM _ _ _ _ _ _ (by simp;omega),Kc k bd pb.1]
 rintro s rfl;rw[f6,QA]
structure ZY (gr:am) (bs:List (List Int)):Prop where
 n:1<=bs.length/\bs.length<=8
 m:1<=(bs.headD []).length/\(bs.headD []).length<=8
 r:∀r∈bs,r.length=(bs.headD []).length/\r.all (aK gr)=Z
def ZY.y7(k:ao gr){bs:List (List Int)}(h:ZY gr bs):bs.flatten.all cC=Z:=by
 rw[bm];intro x hx;obtain⟨r,hr,hx⟩:=Kx.1 hx;exact bm.1 (oF k (h.r r hr).2) x hx
def zAL(k:ao gr)(h:l.all (aK gr)=Z):∀x∈l,0<=x/\x<=2000000000:=λx hx=>by
 have hp:=k.p;have:=qi (bm.1 h x hx);omega
def nK(k:ao gr):aK gr gr.G=Z:=by
 have hg:=k.g;simp only[aK,bI,eC];exact⟨by omega,k.o⟩
def da(l:List Int):List Int:=(l.length:Int)::l
def iH(p:bZ):List Int:=da p.aC++da p.aW++da p.aD
def H3(h:l.length<=10000000):yp l=J (da l):=by
 unfold yp;rw[eE (by simp;omega)];rfl
def eN(l:List Int):Bool:=decide ((l.length:Int)<=400)&&l.all cC
def Ha(l:List Int):zf l=J (eN l):=by
 unfold zf
 have h1:DZ l=J (l.all cC):=NK (f:=BB) λx _=>by
  unfold BB;rw[Xj];rfl
 rw[h1,aR,TO];rfl
def L7(l:List Int):Aw l=J (if eN l=Z then(l,Z)else([],aa)):=by
 unfold Aw;rw[Ha];cases eN l<;>rfl
def zrG{p:bZ}(h1:p.aC.length<=1048576)(h2:p.aW.length<=1048576)(h3:p.aD.length<=1048576):JV p=J (if eN (iH p)=Z then(iH p,Z)else([],aa)):=by
 have e:[da p.aC,da p.aW,da p.aD].flatten=iH p:=by simp[iH]
 unfold JV;rw[H3 (by omega),aR,H3 (by omega),aR,H3 (by omega),aR,Dr _ (by rw[e];simp[iH,da];omega),aR,e,L7];cases eN (iH p)<;>rfl
def zCV{β γ:Type}{n:Nat}{f:Nat->β}{body:Int->List β->Option (fb (List β) γ)}{stop:List β->γ}(hs:∀k (s:List β),k<n->s.length=k->body (k:Int) s=J (.go (s++[f k]))):
 aS body stop n 0 []=J (stop ((List.range n).map f)):=by
 refine bE (ec (λk s=>s=(List.range k).map f) rfl ?_ ?_)
 ·rintro k s hk rfl;refine⟨_,hs k _ hk (by simp),?_⟩;show _=_;rw[mO,l8];rfl
 rintro s rfl;rfl
def zHL{α:Type}(f:α->Int)(L:List α)(T:Nat):List α:=(List.range T).flatMap λi=>L.filter λe=>f e==((i+1:Nat):Int)
def Oo(k:ao gr)(ha:0<=a):av gr gr.G a=((gr.G.toNat^a.toNat%gr.P.toNat:Nat):Int):=by
 have hq:=k.q;obtain⟨n,rfl⟩:=fJ ha;obtain⟨q,hQ⟩:=fJ (show 0<=gr.Q by omega);unfold av;have ho:=k.o;rw[hQ]at ho⊢;rw[dG]at ho;rw[<-o7,dG,dG,HK ho]
def zzN(k:ao gr)(ha:0<=a)(hb:0<=b):aP gr [av gr gr.G a,av gr gr.G b]=av gr gr.G (a+b):=by
 have hp:=k.p;obtain⟨P,hP⟩:=fJ (show 0<=gr.P by omega);have hx:=zu k gr.G a;rw[Kc k (by omega) (zu k gr.G b).1,Oo k ha,Oo k hb,Oo k (by omega),hP];rw[<-C9,<-o7,dG,<-t7,<-OM,Int.toNat_add ha hb]
def zxn(k:ao gr):av gr gr.G 0=1:=by
 have hp:=k.p;rw[Oo k (A2 0)];show((1%gr.P.toNat:Nat):Int)=1;rw[nU (by omega)];rfl
def VV(x:Int)(h:a%gr.Q=b%gr.Q):av gr x a=av gr x b:=by
 unfold av;rw[h]
def zB1 :JU l l=J Z:=by
 unfold JU;refine bE (bt (by simp) (ay (ψ:=λv=>v=.inl ()) (ec (λ_ _=>True) trivial ?_ λs _=>rfl) ?_))
 ·rintro k s hk _;exact bD hk (bD hk (bt (by simp) (aj trivial)))
 rintro _ rfl;exact aj rfl
structure Gb (gr:am):Prop where
 p:1<=gr.P/\gr.P<=2000000000
 q:1<=gr.Q/\gr.Q<=2000000000
 g:0<=gr.G/\gr.G<=2000000000
def Lg(p:bZ):Prop:=p.aC.length<=1001/\p.aW.length<=1001/\p.aD.length<=1001
def X5{p:bZ}(hb:Bt code)(h:Cu code n (c0,at_,dE))(hn:n<=3000000000000000)(k:Gw gr)(hp:p.aC.length<=1000/\p.aW.length<=1000/\p.aD.length<=1000):
 Rn (FP c0 at_ dE gr p) (λz=>Lg z.1/\Cu code (n+12) z.2):=by
 unfold FP;rw[Nn (l:=p.aC) (by omega),Nn (l:=p.aW) (by omega),Nn (l:=p.aD) (by omega)];simp only[aR];refine ay (jI hb h (by omega)) λz1 ⟨_,_,_,_,y1⟩=>?_
 have sp:Lg p:=⟨by omega,by omega,by omega⟩
 have pk:∀l:List Int,0<l.length->Rn (gJ z1.2.1 z1.2.2.1 z1.2.2.2 (l.length:Int)) (λz=>(∃i:Nat,z.1=(i:Int)/\i<l.length)/\Cu code (n+4) z.2):=λl hl=>by
  obtain⟨v,v1,w0,w1,w2,_,w3⟩:=jI (m:=(l.length:Int)) hb y1 (by omega);obtain⟨i,hi⟩:=fJ w0;refine⟨v,v1,⟨i,hi,?_⟩,w3.mono (by omega)⟩;rcases Int.lt_or_le 1 (l.length:Int)with g|g
  ·have:=w2 g;omega
  ·have:=w1 g;omega
 refine ay (ψ:=λx=>match x with| .inl v=>Lg ⟨v.2.1,v.2.2.1,v.2.2.2⟩/\Cu code (n+12) v.1| .inr v=>Lg v.1/\Cu code (n+12) v.2) ?_ ?_
 ·refine aZ (λ_=>aZ (λg=>?_) λ_=>aj ⟨sp,y1.mono (by omega)⟩) λ_=>?_
  ·have g:0<p.aD.length:=by simpa using g
   refine ay (pk _ g) λz2 ⟨⟨i,e,hi⟩,y2⟩=>?_
   refine ay (YX hb y2 (by omega) k) λz3 ⟨_,_,y3⟩=>?_
   rw[e];exact bD hi (aj ⟨⟨by show p.aC.length<=1001;omega,by show p.aW.length<=1001;omega,by show(p.aD.set _ _).length<=1001;simp;omega⟩,y3.mono (by omega)⟩)
  refine aZ (λ_=>aZ (λg=>?_) λ_=>aj ⟨sp,y1.mono (by omega)⟩) λ_=>?_
  ·have g:0<p.aC.length:=by simpa using g
   refine ay (pk _ g) λz2 ⟨⟨i,e,hi⟩,y2⟩=>?_
   refine ay (Kb hb y2 (by omega) k) λz3 ⟨_,_,y3⟩=>?_
   rw[e];exact bD hi (aj ⟨⟨by show(p.aC.set _ _).length<=1001;simp;omega,by show p.aW.length<=1001;omega,by show p.aD.length<=1001;omega⟩,y3.mono (by omega)⟩)
  refine aZ (λ_=>aZ (λg=>?_) λ_=>aj ⟨sp,y1.mono (by omega)⟩) λ_=>?_
  ·have g:0<p.aW.length:=by simpa using g
   refine ay (pk _ g) λz2 ⟨⟨i,e,hi⟩,y2⟩=>?_
   refine ay (YX hb y2 (by omega) k) λz3 ⟨_,_,y3⟩=>?_
   rw[e];exact bD hi (aj ⟨⟨by show p.aC.length<=1001;omega,by show(p.aW.set _ _).length<=1001;simp;omega,by show p.aD.length<=1001;omega⟩,y3.mono (by omega)⟩)
  refine aZ (λ_=>aG (by omega) (aj ⟨⟨by show p.aC.length<=1001;omega,by show p.aW.length<=1001;omega,by show(p.aD++[0]).length<=1001;simp;omega⟩,y1.mono (by omega)⟩)) λ_=>?_
  exact aZ (λ_=>aj ⟨⟨by simp,by simp,by simp⟩,y1.mono (by omega)⟩) λ_=>aj ⟨sp,y1.mono (by omega)⟩
 intro x hx;cases x with
 |inl v=>exact aj hx
 |inr v=>exact aj hx
def Gb.w(k:Gb gr):Gw gr:=by
 have a:=k.p;have b:=k.q;have c:=k.g;exact⟨by omega,by omega,by omega⟩
theorem WQ:∀{l v:List Int},l.Nodup->(∀x∈l,x∈v)->l.length<=v.length
 |[],v,_,_=>by simp
 |x::l,v,hn,hs=>by
  obtain⟨h1,h2⟩:=UC.1 hn;have hx:=hs x (by simp);have:=WQ (l:=l) (v:=v.erase x) h2 λy hy=>(a2o (show y≠x from λe=>h1 (e▸hy))).2 (hs y (nV _ hy))
  rw[a2p hx]at this;have:=List.length_pos_of_mem hx;rw[dX];omega
def UP :di gr x=Z↔0<=x/\x<gr.Q:=by
 unfold di;simp only[bI,eC];omega
def F0(k:ao gr)(h:∀x∈l,aK gr x=Z):∀x∈l,0<=x/\x<=2000000000:=zAL k (bm.2 h)
def lv(k:ao gr)(v:Int):eU gr v=J (v%gr.Q):=by
 have hp:=k.p;have hq:=k.q;unfold eU;rw[O9 (by omega) (by omega)];rfl
def bU{α:Type}{l:List α}{d:α}{i:Nat}(h:i<l.length):l.getD i d=l[i]:=by
 rw[nw,cE h];rfl
def zzw{m:Nat}(hb:Bt code)(h:Cu code n (c0,at_,dE))(hn:n<=8000000000000000)(hm:1<=m):Rn (gJ c0 at_ dE (m:Int)) (λz=>(∃i:Nat,z.1=(i:Int)/\i<m)/\Cu code (n+2) z.2):=by
 obtain⟨z,h1,h2,h3,h4,_,h5⟩:=jI (m:=(m:Int)) hb h hn;obtain⟨i,hi⟩:=fJ h2;refine⟨z,h1,⟨i,hi,?_⟩,h5⟩;rcases dK 1 m with h6|h6
 ·have:=h4 (by omega);omega
 have:=h3 (by omega);omega
def lp(k:Nat)(p:bZ):Prop:=p.aC.length<=k/\p.aW.length<=k/\p.aD.length<=k
def R9(x:Int):Prop:=0<=x/\x<=2000000000
def dT(k:ao gr)(h:aK gr x=Z):R9 x:=by
 have:=qi h;have:=k.p;exact⟨by omega,by omega⟩
def bJ(k:ao gr)(x e:Int):R9 (av gr x e):=by
 have:=zu k x e;have:=k.p;exact⟨by omega,by omega⟩
def Tx(hx:R9 x)(hy:R9 y):∀z∈[x,y],0<=z/\z<=2000000000:=by
 intro z hz;simp only[fK,jf,jg]at hz;rcases hz with rfl|rfl
 ·exact hx
 exact hy
def F6(k:ao gr)(h:∀x∈l,0<=x/\x<=2000000000):R9 (aP gr l):=by
 have:=zBS k h;have:=k.p;exact⟨by omega,by omega⟩
def nF(k:ao gr)(hx:R9 x)(hy:R9 y):R9 (aP gr [x,y]):=F6 k (Tx hx hy)
def VB(h:∀x∈l,R9 x):l.all cC=Z:=bm.2 λx hx=>jj.2 ⟨(h x hx).1,by have:=(h x hx).2;omega⟩
def jG(k:ao gr)(hx:R9 x)(hy:R9 y):eg gr [x,y]=J (aP gr [x,y]):=AK k (Tx hx hy)
def iD(k:ao gr)(hx:R9 x)(hy:R9 y):d8 gr [x,y]=J (aP gr [x,y]):=GM k (Tx hx hy)
def fa(k:ao gr)(hx:R9 x)(e:Int):cQ gr x e=J (av gr x e):=(DY k hx.1 hx.2 e).1
def fe(k:ao gr)(hx:R9 x)(e:Int):cD gr x e=J (av gr x e):=(DY k hx.1 hx.2 e).2
def fF(k:ao gr):R9 gr.G:=dT k (nK k)
def Nr(k:ao gr){n:Nat}(h0:n<gr.P.toNat)(h:n^gr.Q.toNat%gr.P.toNat=1):aK gr (n:Int)=Z:=by
 have hp:=k.p;have hq:=k.q
 have h1:1<=n:=by
  rcases Uj n with h2|h2
  ·rw[h2,Nat.zero_pow (by omega),Nat.zero_mod]at h;omega
  ·exact h2
 simp only[aK,bI,eC];exact⟨⟨by omega,by omega⟩,by rw[dG];exact h⟩
def kH(k:ao gr)(hx:aK gr x=Z)(e:Int):aK gr (av gr x e)=Z:=by
 have hp:=k.p;refine Nr k (mN _ (by omega)) ?_;rw[<-qe,<-o8,wc,o8,qe,(EQ hx).2.2,GD,nU (by omega)]
def qN(k:ao gr)(hx:aK gr x=Z)(hy:aK gr y=Z):aK gr (aP gr [x,y])=Z:=by
 have hp:=k.p;have bx:=qi hx;have by':=qi hy;rw[Kc k ⟨by omega,by omega⟩ (by omega)];obtain⟨a,rfl⟩:=fJ (show 0<=x by omega);obtain⟨b,rfl⟩:=fJ (show 0<=y by omega);obtain⟨p,hP⟩:=fJ (show 0<=gr.P by omega);have h1:=(EQ hx).2.2;have h2:=(EQ hy).2.2;rw[dG]at h1 h2;have e:((a:Int)*(b:Int))%gr.P=((a*b%gr.P.toNat:Nat):Int):=by rw[hP,dG,o7,C9]
 rw[e];refine Nr k (mN _ (by omega)) ?_;rw[<-qe,Nat.mul_pow,t7,h1,h2,nU (by omega)]
def QG(k:ao gr):aK gr 1=Z:=by
 have hp:=k.p;exact Nr (n:=1) k (by omega) (by rw[GD,nU (by omega)])
def Vd{p:Int}(h:a%p=b%p):(a-b)%p=0:=by rw[sI,h,Int.sub_self,Int.zero_emod]
def oD(l:List Int):Int:=l.foldr (· * ·) 1
def zyT(h:l.Perm m):oD l=oD m:=by
 induction h with
 |nil=>rfl
 |cons x _ ih=>show x*oD _=x*oD _;rw[ih]
 |swap x y l=>show y*(x*oD l)=x*(y*oD l);rw[<-KI,<-KI,a0K y x]
 |trans _ _ h1 h2=>rw[h1,h2]
theorem Zr:∀{l m:List Int},l.Nodup->(∀x∈l,x∈m)->m.length<=l.length->l.Perm m
 |[],m,_,_,h=>by rw[Un.1 (show m.length=0 by simpa using h)]
 |x::l,m,hn,hs,h=>by
  obtain⟨h1,h2⟩:=UC.1 hn;have hx:=hs x (by simp);have hl:(m.erase x).length=m.length-1:=a2p hx
  have:=Zr (l:=l) (m:=m.erase x) h2 (λy hy=>by
   have JK:=hs y (nV _ hy)
   exact(a2o (λe=>h1 (by rw[<-e];exact hy))).2 JK) (by rw[dX]at h;omega)
  exact(this.cons x).trans (List.perm_cons_erase hx).symm
theorem Wr{p a:Int}:∀l:List Int,oD (l.map λi=>(a*i)%p)%p=(a^l.length*oD l)%p
 |[]=>by simp[oD]
 |x::l=>by
  have ih:=Wr (p:=p) (a:=a) l;show((a*x)%p*oD (l.map λi=>(a*i)%p))%p=(a^(l.length+1)*(x*oD l))%p;rw[mP,eM,ih,<-mP];congr 1;rw[a0H];grind
theorem YL{p:Nat}(hp:Pr p)(h2:2<=p):∀{l:List Int},(∀x∈l,x%(p:Int)≠0)->oD l%(p:Int)≠0
 |[],_=>by show(1:Int)%(p:Int)≠0;rw[qg (by omega) (by omega)];omega
 |x::l,h=>λe=>by
  rcases Do hp (a:=x) (b:=oD l) e with e|e
  ·exact h x (by simp) e
  ·exact YL hp h2 (λy hy=>h y (nV _ hy)) e
def zDQ(hp:Pr p)(h2:2<=p){a:Nat}(ha:1<=a)(hap:a<p):a^(p-1)%p=1:=by
 let L:List Int:=(List.range (p-1)).map λ(i:Nat)=>(i:Int)+1
 have hL:∀x,x∈L↔1<=x/\x<=(p:Int)-1:=by
  intro x;simp only[L,jE,kp];constructor
  ·rintro⟨i,hi,rfl⟩;omega
  ·rintro⟨h1,h2⟩;exact⟨(x-1).toNat,by omega,by omega⟩
 have hN:L.Nodup:=List.Pairwise.map _ (λa b (h:a≠b)=>by omega) List.nodup_range
 have inj:∀x∈L,∀y∈L,((a:Int)*x)%p=((a:Int)*y)%p->x=y:=by
  intro x hx y hy e;have hx:=(hL x).1 hx;have hy:=(hL y).1 hy
  have e2:((a:Int)*(x-y))%(p:Int)=0:=by
   rw[Int.mul_sub];exact Vd e
  rcases Do hp e2 with e3|e3
  ·rw[qg (by omega) (by omega)]at e3;omega
  ·obtain⟨c,hc⟩:=UD e3
   have:c=0:=by
    rcases Int.lt_trichotomy c 0 with h|h|h
    ·have:(p:Int)*c<=(p:Int)*(-1):=UG (by omega) (by omega);omega
    ·exact h
    ·have:(p:Int)*1<=(p:Int)*c:=UG (by omega) (by omega);omega
   rw[this,Int.mul_zero]at hc;omega
 have hM:(L.map λi=>((a:Int)*i)%(p:Int)).Perm L:=by
  refine Zr ?_ ?_ (by simp)
  ·refine UE.2 (a0I ?_ hN);intro x y hx hy hne e;exact hne (inj x hx y hy e)
  ·intro z hz;obtain⟨x,hx,rfl⟩:=jE.1 hz;refine(hL _).2 ?_;have h1:=nW ((a:Int)*x) (show(p:Int)≠0 by omega);have h3:=sJ ((a:Int)*x) (show(0:Int)<p by omega)
   have:((a:Int)*x)%(p:Int)≠0:=λe=>by
    have hx:=(hL x).1 hx;rcases Do hp e with e|e<;>rw[qg (by omega) (by omega)]at e<;>omega
   omega
 have h4:=Wr (p:=(p:Int)) (a:=(a:Int)) L;rw[zyT hM]at h4
 have hne:oD L%(p:Int)≠0:=YL hp h2 λx hx=>by
  have hx:=(hL x).1 hx;rw[qg (by omega) (by omega)];omega
 have hlen:L.length=p-1:=by simp[L]
 rw[hlen]at h4
 have e5:(((a:Int)^(p-1)-1)*oD L)%(p:Int)=0:=by
  rw[Int.sub_mul,UH];exact Vd h4.symm
 rcases Do hp e5 with e|e
 ·obtain⟨c,hc⟩:=UD e
  have e6:(a:Int)^(p-1)%(p:Int)=1:=by
   rw[show(a:Int)^(p-1)=1+(p:Int)*c by omega,GE,qg (by omega) (by omega)]
  have:((a^(p-1)%p:Nat):Int)=1:=by rw[o7,UF];exact e6
  omega
 exact absurd e hne
def US(k:ao gr)(h:qx gr s i y)(h0:0<y):aK gr y=Z:=by
 have hp:=k.p;have hq:=k.q;rcases h with⟨c,_,hy,_,_⟩|⟨hy,_⟩
 ·rw[hy];have hx:=Pt k s i c;refine Nr k (mN _ (by omega)) ?_;rw[<-qe,<-o8]
  have e:((gr.P-1)/gr.Q).toNat*gr.Q.toNat=gr.P.toNat-1:=by
   obtain⟨P,hP⟩:=fJ (show 0<=gr.P-1 by omega);obtain⟨Q,hQ⟩:=fJ (show 0<=gr.Q by omega);have hd:=k.d;have Z6:gr.P.toNat-1=P:=by omega
   rw[Z6,hQ,dG]at hd;rw[hP,hQ,Z6,dG,<-Int.natCast_ediv,dG];exact Nat.div_mul_cancel (UA hd)
  rw[e];exact zDQ k.pp (by omega) (by omega) (by omega)
 omega
def AF(gr:am)(key:Int)(c:an)(r:Int):an:=⟨aP gr [c.A,av gr gr.G r],aP gr [c.B,aP gr [1,av gr key r]]⟩
def zCB(k:ao gr)(hk:aK gr key=Z)(hc:b8 gr c=Z)(r:Int):b8 gr (AF gr key c r)=Z:=by
 simp only[b8,bI]at hc⊢;exact⟨qN k hc.1 (kH k (nK k) r),qN k hc.2 (qN k (QG k) (kH k hk r))⟩
def XT(k:ao gr)(hx:0<=x/\x<gr.P):d8 gr [1,x]=J x:=by
 have hp:=k.p;rw[iD k (x:=1) (y:=x) ⟨by omega,by omega⟩ ⟨by omega,by omega⟩,Kc k ⟨by omega,by omega⟩ (by omega),UH,qg hx.1 hx.2]
def zH8(k:ao gr)(hk:aK gr key=Z)(hc:b8 gr c=Z)(r:Int):FI gr key c r=J (AF gr key c r):=by
 have oa:=hc;simp only[b8,bI]at oa;unfold FI;rw[(V2 k hk (QG k) r).1,aR];unfold Ni;rw[jG k (dT k oa.1) (bJ k _ _),aR,jG k (dT k oa.2) (nF k ⟨by omega,by omega⟩ (bJ k _ _))];rfl
def zGD(k:ao gr)(hk:aK gr key=Z)(hc:b8 gr c=Z)(r:Int):F8 gr key c r=J (AF gr key c r):=by
 have oa:=hc;simp only[b8,bI]at oa;have hp:=k.p;have b1:=qi oa.1;have b2:=qi oa.2;unfold F8;rw[(V2 k hk (QG k) r).2,aR];unfold N0;simp only[dX,ia,aS];have e0:∀{a b:an},ix [a,b] 0=J a:=λ{a b}=>rfl
 have e1:∀{a b:an},ix [a,b] (0+1)=J b:=λ{a b}=>rfl
 simp only[e0,e1,aR,XT k (x:=c.A) ⟨by omega,by omega⟩,XT k (x:=c.B) ⟨by omega,by omega⟩,iD k (dT k oa.1) (bJ k _ _),iD k (dT k oa.2) (nF k (x:=1) ⟨by omega,by omega⟩ (bJ k _ _))];rfl
def vj(k:ao gr)(key:Int)(l:List an):p7 gr key l=J (aK gr key&&(cX 1 12 l.length&&l.all (b8 gr))):=by
 unfold p7 JQ;rw[Ju,Oa.2 k,aR,aB rfl,zDy k];simp only[aR];cases aK gr key
 ·rfl
 simp only[aB,rY,aR,gV];show Option.bind (if cX 1 12 l.length=Z then _ else _) _=_;by_cases h:cX 1 12 l.length=Z
 ·rw[aB h,W5 k,h];have h2:l.length<=24:=by simp only[cX,bI,eC]at h;omega
  simp[h2]
 rw[az h];simp only[Bool.not_eq_true]at h;rw[h];rfl
def EL(k:¬ao gr)(key:Int)(l:List an):p7 gr key l=J aa:=by
 unfold p7 JQ;rw[Ju,od k,aR,az (by simp)];rfl
def xt(k:ao gr)(l:List an):yG gr l=J (cX 1 12 l.length&&l.all (b8 gr)):=by
 unfold yG;rw[tS,aR];show Option.bind (if cX 1 12 l.length=Z then _ else _) _=_;by_cases h:cX 1 12 l.length=Z
 ·rw[aB h,ztN k,h];have h2:l.length<=24:=by simp only[cX,bI,eC]at h;omega
  simp[h2]
 rw[az h];simp only[Bool.not_eq_true]at h;rw[h];rfl
noncomputable def d5(l:List Int):Bool:=l.all (cX 0 ((l.length:Int)-1))&&oz l
def SD(l:List Int)(m:Nat)(hm:m<=1000):Ey l (m:Int)=J (decide (l.length=m)&&d5 l):=by
 unfold Ey;by_cases h:l.length=m
 ·subst h;rw[aI (n:=(l.length:Int)-1) (by omega) (by omega),O4,zyf l (by omega)];simp only[a0L,eP,aR,decide_true,gV];show Option.bind (if l.all (cX 0 ((l.length:Int)-1))=Z then _ else _) _=_;unfold d5;cases l.all (cX 0 ((l.length:Int)-1))<;>rfl
 have h2:((l.length:Int)==(m:Int))=aa:=by simp;omega
 simp[h2,h]
def zzK(l:List Int):Ji l=J (decide (l.length<=24)&&d5 l):=by
 unfold Ji;by_cases h:l.length<=24
 ·have h2:decide ((l.length:Int)<=24)=Z:=by simp;omega
  rw[h2,aB rfl]
  have e:Kf l l=J (l.all (cX 0 ((l.length:Int)-1))):=by
   unfold Kf LS NH;refine NK (p:=cX 0 ((l.length:Int)-1)) (f:=λx=>JC x l) λx _=>?_
   unfold JC Nw;rw[aI (n:=(l.length:Int)-1) (by omega) (by omega),tS];rfl
  rw[e,XR l (by omega)];unfold d5;cases l.all (cX 0 ((l.length:Int)-1))<;>simp[h]
 have h2:decide ((l.length:Int)<=24)=aa:=by simp;omega
 simp[h2,h]
def yP(k:ao gr){n:Nat}(hn:n<=24)(perm rs:List Int):A6 gr perm rs (n:Int)=J (decide (perm.length=n)&&d5 perm&&(decide (rs.length=n)&&rs.all (di gr))):=by
 have hq:=k.q;have hp:=k.p;unfold A6;rw[zzK,yt (by omega) (by omega)];have e1:((perm.length:Int)==(n:Int))=decide (perm.length=n):=by by_cases h:perm.length=n<;>simp[h];omega
 have e2:((rs.length:Int)==(n:Int))=decide (rs.length=n):=by by_cases h:rs.length=n<;>simp[h];omega
 rw[e1,e2];by_cases h1:perm.length=n
 ·have S7:decide (perm.length<=24)=Z:=by simp;omega
  rw[S7];simp only[h1,decide_true,gV];cases d5 perm<;>by_cases h3:rs.length=n<;>simp[h3]
 simp only[h1,decide_false,a0t];cases (decide (perm.length<=24)&&d5 perm)<;>simp
def TN(h:d5 l=Z){j:Int}(hj:0<=j/\j<l.length):j∈l:=by
 simp only[d5,bI,oz,eC,bm,cX]at h;refine ON λhn=>?_
 have:=WQ (l:=j::l) (v:=(List.range l.length).map λ(i:Nat)=>(i:Int)) (UC.2 ⟨hn,h.2⟩) (λx hx=>by
  simp only[jE,kp];rcases fK.1 hx with rfl|hx
  ·exact⟨x.toNat,by omega,by omega⟩
  ·have:=h.1 x hx;exact⟨x.toNat,by omega,by omega⟩)
 simp at this;omega
structure ni (gr:am) (key:Int) (l:List an) (perm rs:List Int):Prop where
 key:aK gr key=Z
 n:1<=l.length/\l.length<=12
 c:∀x∈l,b8 gr x=Z
 pl:perm.length=l.length
 pr:∀x∈perm,0<=x/\x<l.length
 pb:d5 perm=Z
 rl:rs.length=l.length
 re:rs.all (di gr)=Z
def zHU{l:List an}:((aK gr key&&(cX 1 12 l.length&&l.all (b8 gr)))&&(decide (perm.length=l.length)&&d5 perm&&(decide (rs.length=l.length)&&rs.all (di gr))))=Z↔ni gr key l perm rs:=by
 constructor
 ·intro h;simp only[bI,eC,cX]at h;obtain⟨⟨h1,⟨h2,h3⟩,h4⟩,⟨h5,h6⟩,h7,h8⟩:=h;refine⟨h1,by omega,bm.1 h4,h5,λx hx=>?_,h6,h7,h8⟩;simp only[d5,bI]at h6;have:=bm.1 h6.1 x hx;simp only[cX,bI,eC]at this;omega
 intro h;simp only[bI,eC,cX];have:=h.n;exact⟨⟨h.key,⟨by omega,by omega⟩,bm.2 h.c⟩,⟨h.pl,h.pb⟩,h.rl,h.re⟩
def zaR(gr:am)(key:Int)(l:List an)(perm rs:List Int):List an:=(List.range perm.length).map λi=>AF gr key (l.getD (perm.getD i 0).toNat ⟨0,0⟩) (rs.getD i 0)
def XO(k:ao gr){l:List an}(m:ni gr key l perm rs)(E:an->Int->Option an)(hE:∀c r,b8 gr c=Z->E c r=J (AF gr key c r)):aS (σ:=List an) (λi5 s4=>
 (ix perm i5).bind λaU=>
 (ix l aU).bind λcY=>
 (ix rs i5).bind λgW=>
 (E cY gW).bind λeT=>
 gd ((s4.length+1)*16<=140737488355328/\s4.length+1<=4611686018427387904)<|
 J (.go (s4++[eT]))) (λs4=>s4) perm.length 0 []=J (zaR gr key l perm rs):=by
 have hn:=m.n;have dN:=m.pl;have fj:=m.rl;refine zCV (f:=λi=>AF gr key (l.getD (perm.getD i 0).toNat ⟨0,0⟩) (rs.getD i 0)) λi s hi hs=>?_
 have hx:=m.pr _ (e9 hi);obtain⟨j,hj⟩:=fJ hx.1;have rU:j<l.length:=by omega
 rw[jt hi,aR,hj,jt rU,aR,jt (show i<rs.length by omega),aR,hE _ _ (m.c _ (e9 rU)),aR,eE (by omega),bU hi,hj,dG,bU rU,bU (show i<rs.length by omega)]
def RZ(k:ao gr){l:List an}(m:ni gr key l perm rs):Cl gr key l perm rs=J (zaR gr key l perm rs):=by
 unfold Cl;rw[XO k m (FI gr key) λc r hc=>zH8 k m.key hc r];rfl
def Sd(k:ao gr){l:List an}(m:ni gr key l perm rs):Cw gr key l perm rs=J (zaR gr key l perm rs):=by
 unfold Cw;rw[XO k m (F8 gr key) λc r hc=>zGD k m.key hc r];rfl
def kO(gr:am)(key:Int)(l:List an)(perm rs:List Int):(zaR gr key l perm rs).length=perm.length:=by simp[zaR]
def uN(k:ao gr){l:List an}(m:ni gr key l perm rs):∀c∈zaR gr key l perm rs,b8 gr c=Z:=by
 intro c hc;obtain⟨i,hi,rfl⟩:=jE.1 hc;have hi:=kp.1 hi;refine zCB k m.key ?_ _;have hx:=m.pr _ (e9 hi);rw[bU hi,bU (show(perm[i]).toNat<l.length by omega)];exact m.c _ (e9 _)
structure tU (gr:am) (n:Nat) (b:cr):Prop where
 h:aK gr b.H=Z
 l:b.Hs.length=n
 s:∀x∈b.Hs,aK gr x=Z
def TS(k:ao gr){n:Nat}(hn:n<=24):∃b t,sB gr (n:Int)=J (b,t)/\lw gr (n:Int)=J (b,t)/\(t=Z->tU gr n b):=by
 obtain⟨b,t,h1,h2,h3⟩:=zB3 k hn;refine⟨b,t,h1,h2,λht=>?_⟩;obtain⟨c1,c2,c3,c4⟩:=h3 ht;refine⟨US k c1 c2,c3.1,λx hx=>?_⟩;obtain⟨j,hj,rfl⟩:=OA hx;exact US k (c3.2 j hj) (c4 _ hx)
def tR(gr:am)(Hs perm ss:List Int)(i:Nat)(s:List Int):List Int:=s.set (perm.getD i 0).toNat (aP gr [av gr gr.G (ss.getD (perm.getD i 0).toNat 0),Hs.getD i 0])
def zez(gr:am)(Hs perm ss:List Int):List Int:=FQ (tR gr Hs perm ss) perm.length (List.replicate perm.length 0)
def zsq(k:ao gr){Hs:List Int}(hp:∀x∈perm,0<=x/\x<perm.length)(hs:ss.length=perm.length)(hH:Hs.length=perm.length)(hb:∀x∈Hs,aK gr x=Z)(P:Int->Int->Option Int)(M:List Int->Option Int)(hP:∀x e,R9 x->P x e=J (av gr x e))(hM:∀x y,R9 x->R9 y->M [x,y]=J (aP gr [x,y])):aS (σ:=(List Int)) (λmB dx=>
 (ix perm mB).bind λfM=>
 (ix ss fM).bind λig=>
 (ix Hs mB).bind λj6=>
 (P gr.G ig).bind λeY=>
 (M [eY,j6]).bind λgp=>
 (ix dx fM).bind λn6=>
 J (.go (dx.set fM.toNat gp))) (λdx=>dx) perm.length 0 (List.replicate perm.length 0)=J (zez gr Hs perm ss):=by
 refine zDZ (tR gr Hs perm ss) (λ_ s=>s.length=perm.length) (by simp) (λi s _ h=>by simp[tR,h]) λi s hi h=>?_
 have hx:=hp _ (e9 hi);obtain⟨j,hj⟩:=fJ hx.1;have rU:j<perm.length:=by omega
 have hc:=hb _ (e9 (show i<Hs.length by omega));rw[jt hi,aR,hj,jt (show j<ss.length by omega),aR,jt (show i<Hs.length by omega),aR,hP _ _ (fF k),aR,hM _ _ (bJ k _ _) (dT k hc),aR,jt (show j<s.length by omega),aR];unfold tR;rw[bU hi,hj,dG,bU (show j<ss.length by omega),bU (show i<Hs.length by omega)]
def zCq(k:ao gr){b:cr}(hp:∀x∈perm,0<=x/\x<perm.length)(hl:perm.length<=1000)(hs:ss.length=perm.length)(hb:tU gr perm.length b):Jj gr b perm ss=J (zez gr b.Hs perm ss):=by
 unfold Jj;rw[eE (by omega),aR,zsq k hp hs hb.l hb.s (cQ gr) (eg gr) (λx e hx=>fa k hx e) λx y hx hy=>jG k hx hy];rfl
def zDW(k:ao gr){b:cr}(hp:∀x∈perm,0<=x/\x<perm.length)(hl:perm.length<=1000)(hs:ss.length=perm.length)(hb:tU gr perm.length b):GG gr b perm ss=J (zez gr b.Hs perm ss):=by
 unfold GG;rw[eE (by omega),aR,zsq k hp hs hb.l hb.s (cD gr) (d8 gr) (λx e hx=>fe k hx e) λx y hx hy=>iD k hx hy];rfl
def zBR(k:ao gr){Hs:List Int}(hp:d5 perm=Z)(hH:Hs.length=perm.length)(hb:∀x∈Hs,aK gr x=Z):(zez gr Hs perm ss).length=perm.length/\∀x∈zez gr Hs perm ss,aK gr x=Z:=by
 have h:=Nt (f:=tR gr Hs perm ss) (I:=λm s=>s.length=perm.length/\∀i (hi:i<m) (cF:i<perm.length),aK gr (s.getD (perm[i]).toNat 0)=Z) (s0:=List.replicate perm.length 0) (m:=perm.length) ⟨by simp,λi hi=>by omega⟩ (λm s hm ⟨h1,h2⟩=>by
  refine⟨by simp[tR,h1],λi hi cF=>?_⟩;unfold tR;rw[bU hm];by_cases e:(perm[m]).toNat=(perm[i]).toNat
  ·by_cases hlt:(perm[i]).toNat<s.length
   ·rw[e,nw,a2q hlt,v9];refine qN k (kH k (nK k) _) ?_;rw[bU (show m<Hs.length by omega)];exact hb _ (e9 _)
   ·have hx:=bm.1 (bI _ _▸hp:perm.all _=Z/\oz perm=Z).1 _ (e9 cF);simp only[cX,bI,eC]at hx;omega
  ·rw[nw,a2r e,<-nw];rcases dK i m with h|h
   ·exact h2 i h cF
   ·have:i=m:=by omega
    subst this;exact absurd rfl e) perm.length (cy _)
 refine⟨h.1,λx hx=>?_⟩;obtain⟨j,hj,rfl⟩:=OA hx;have DL:j<(zez gr Hs perm ss).length:=hj;have hl:(zez gr Hs perm ss).length=perm.length:=h.1;have hm:=TN hp (j:=(j:Int)) ⟨by omega,by omega⟩;obtain⟨i,hi,he⟩:=OA hm;have:=h.2 i hi hi;rw[he,dG]at this;have e:(FQ (tR gr Hs perm ss) perm.length (List.replicate perm.length 0)).getD j 0=(zez gr Hs perm ss)[j]:=bU DL
 rwa [e]at this
def hN(gr:am)(h:Int)(es ts:List Int):Nat->Int
 |0=>h
 |i+1=>aP gr [av gr gr.G (ts.getD i 0),av gr (hN gr h es ts i) (es.getD i 0)]
theorem Lb(k:ao gr)(hh:R9 h)(es ts:List Int):∀i,R9 (hN gr h es ts i)
 |0=>hh
 |i+1=>nF k (bJ k _ _) (bJ k _ _)
theorem Rr{gr:am}(k:ao gr){h:Int}(hh:aK gr h=Z)(es ts:List Int):∀i,aK gr (hN gr h es ts i)=Z
 |0=>hh
 |i+1=>qN k (kH k (nK k) _) (kH k (Rr k hh es ts i) _)
def zcp(gr:am)(h:Int)(es ts:List Int):List Int:=(List.range es.length).map λi=>hN gr h es ts (i+1)
def zDe(k:ao gr)(hh:R9 h){es ts:List Int}(hl:es.length<=1000)(ht:ts.length=es.length):J7 gr h es ts=J (zcp gr h es ts):=by
 unfold J7;refine bE (ay (ψ:=(· =zcp gr h es ts)) (ec (λi s=>s=(hN gr h es ts i,(List.range i).map λi=>hN gr h es ts (i+1))) rfl ?_ ?_) λx hx=>aj hx)
 ·rintro i s hi rfl;refine bD hi (bD (show i<ts.length by omega) (ag (fa k (fF k) _) (ag (fa k (Lb k hh es ts i) _) (ag (jG k (bJ k _ _) (bJ k _ _)) (aG (by simp;omega) (aj ?_))))));show _=_;rw[mO,l8];simp only[jD,p9,hN,bU hi,bU (show i<ts.length by omega)]
 rintro s rfl;rfl
def zCr(k:ao gr){b:cr}(hh:R9 b.H){es ts:List Int}(hl:es.length<=1000)(ht:ts.length=es.length):Jg gr b es ts=J (zcp gr b.H es ts):=by
 unfold Jg;refine bE (ay (ψ:=(· =zcp gr b.H es ts)) (ec (λi s=>s=((List.range i).map λi=>hN gr b.H es ts (i+1),hN gr b.H es ts i)) rfl ?_ ?_) λx hx=>aj hx)
 ·rintro i s hi rfl;refine bD hi (bD (show i<ts.length by omega) (ag (fe k (fF k) _) (ag (fe k (Lb k hh es ts i) _) (ag (iD k (bJ k _ _) (bJ k _ _)) (aG (by simp;omega) (aj ?_))))));show _=_;rw[mO,l8];simp only[jD,p9,hN,bU hi,bU (show i<ts.length by omega)]
 rintro s rfl;rfl
def oV(l:List an):List Int:=l.flatMap λc=>[c.A,c.B]
def zdR(key:Int)(l out:List an)(m:List Int):List Int:=key::(oV l++(oV out++m))
def J1(l:List an):(oV l).length=2*l.length:=by
 induction l with
 |nil=>rfl
 |cons c l ih=>show([c.A,c.B]++oV l).length=_;simp[ih];omega
def zB6(l:List an)(c:an):oV (l++[c])=oV l++[c.A,c.B]:=by simp[oV]
def zDj(l m:List an):oV (l++m)=oV l++oV m:=by simp[oV]
def RL{l:List an}(h0:List Int)(hl:l.length<=100000)(hh:h0.length<=1000000):aS (σ:=List Int) (λi5 s4=>
 (ix l i5).bind λaU=>
 gd ((s4.length+2)*8<=140737488355328/\s4.length+2<=4611686018427387904)<|
 J (.go (s4++[aU.A,aU.B]))) (λs4=>s4) l.length 0 h0=J (h0++oV l):=by
 refine bE (ec (λi s=>s=h0++oV (l.take i)) (by simp[oV]) ?_ ?_)
 ·rintro i s hi rfl;refine bD hi (aG ?_ (aj ?_))
  ·rw[bP,J1,nv];omega
  show _=_;rw[iO hi,zB6,gU]
 rintro s rfl;rw[f6]
def DD{l:List an}(h1:l.length<=1000)(h2:out.length<=1000)(h3:m.length<=1000000):qq key l out m=J (zdR key l out m):=by
 unfold qq K8;rw[eE (by omega),aR,eE (by omega),aR,RL [key] (by simp;omega) (by simp),aR,eE (by simp[J1];omega)];simp[zdR,zDj]
def zB{l:List an}(h1:l.length<=1000)(h2:out.length<=1000)(h3:m.length<=1000000):rD key l out m=J (zdR key l out m):=by
 unfold rD;rw[RL [key] (by omega) (by simp),aR,RL _ (by omega) (by simp[J1];omega),aR,eE (by simp[J1];omega)];simp[zdR]
def FJ{l:List an}:(zdR key l out m).length=1+2*l.length+2*out.length+m.length:=by
 simp[zdR,J1];omega
def FO(k:ao gr)(hk:aK gr key=Z){l:List an}(h1:∀c∈l,b8 gr c=Z)(h2:∀c∈out,b8 gr c=Z)(h3:m.all cC=Z):(zdR key l out m).all cC=Z:=by
 have A:∀l:List an,(∀c∈l,b8 gr c=Z)->(oV l).all cC=Z:=λl h=>by
  refine oF k (bm.2 λx hx=>?_);obtain⟨c,hc,hx⟩:=a0r.1 hx;have:=h c hc;simp only[b8,bI]at this;simp only[fK,jf,jg]at hx;rcases hx with rfl|rfl
  ·exact this.1
  ·exact this.2
 have hd:cC key=Z:=by have:=oF k (l:=[key]) (by simp[hk]);simpa using this
 simp only[zdR,yC,kq,hd,A l h1,A out h2,h3,Uk]
abbrev JT:ByteArray:=⟨#[109,105,120,32,99,111,108,117,109,110,115]⟩
abbrev Bd:ByteArray:=⟨#[109,105,120,32,112,114,111,111,102]⟩
def ziD(gr:am)(s:ByteArray)(l:List Int)(n:Nat):List Int:=(List.range n).map λ(i:Nat)=>chG gr s (l++[(i:Int)])
def Z0(hd:l.all cC=Z){i:Nat}(hi:i<=1000000):(l++[(i:Int)]).all cC=Z:=by
 have:cC (i:Int)=Z:=jj.2 ⟨by omega,by omega⟩;simp[hd,this]
def XH(k:ao gr)(hs:s.size<=40)(hl:l.length<=300)(hd:l.all cC=Z){n:Nat}(h1:1<=n)(hn:n<=1000):yJ gr s l (n:Int)=J (ziD gr s l n,Z):=by
 unfold yJ;rw[az (show¬((n:Int)<1)by omega)];refine bE (ay (ψ:=(· =.inl (ziD gr s l n))) (kK n (λi t=>t=((List.range i).map λ(i:Nat)=>chG gr s (l++[(i:Int)]),(i:Int))) rfl ?_ ?_) ?_)
 ·rintro i t hi rfl;refine fV (by simp;omega) (ag (a:=l) ?_ (aG (by omega) (ag (K3 k s (by simp;omega)) ?_)))
  ·unfold u0;rw[eE (by omega)]
  rw[aB (K7 k hs (by simp;omega) (Z0 hd (by omega)))];refine bt rfl (aG (by simp;omega) (aj ?_));show _=_;rw[mO,l8,aI (by omega) (by omega)];rfl
 ·rintro t rfl;exact bt (by simp) (aj rfl)
 rintro t rfl;refine aG (by omega) (aG (by simp[ziD]) (aj ?_));rw[dG,KD (by simp[ziD])]
def YN(k:ao gr)(hs:s.size<=40)(hl:l.length<=300)(hd:l.all cC=Z){n:Nat}(hn:n<=1000):DF gr s l (n:Int)=J (ziD gr s l n):=by
 unfold DF;refine bE (ay (ψ:=(· =ziD gr s l n)) (kK n (λi t=>t=((List.range i).map λ(i:Nat)=>chG gr s (l++[(i:Int)]),(i:Int))) rfl ?_ ?_) λx hx=>aj hx)
 ·rintro i t hi rfl;refine fV (by simp;omega) (ag (Nn (by omega)) (aG (by omega) (ag (L4 k (by omega) (by simp;omega) (Z0 hd (by omega))) (aG (by simp;omega) (aj ?_)))));show _=_;rw[mO,l8,aI (by omega) (by omega)];rfl
 rintro t rfl;exact bt (by simp) (aj rfl)
def YO(k:ao gr)(s:ByteArray)(l:List Int)(n:Nat):(ziD gr s l n).length=n/\∀x∈ziD gr s l n,0<=x/\x<gr.Q:=by
 refine⟨by simp[ziD],λx hx=>?_⟩;obtain⟨i,_,rfl⟩:=jE.1 hx;exact mE k s _
def E9(q x:Int):Prop:=0<=x/\x<q
def zp(h:l.all (di gr)=Z):∀x∈l,E9 gr.Q x:=λx hx=>UP.1 (bm.1 h x hx)
def iK{z t:Int}(hq:q<=2000000000)(ha:E9 q a)(hz:E9 q z)(ht:E9 q t):i64.wrap (a+i64.wrap (z*t))=a+z*t/\(i64.wrap (a+i64.wrap (z*t))).tmod q=(a+z*t)%q:=by
 obtain⟨a1,a2⟩:=ha;obtain⟨z1,z2⟩:=hz;obtain⟨t1,t2⟩:=ht;have h1:0<=z*t:=sK z1 t1;have h2:z*t<=2000000000*2000000000:=wh (by omega) (by omega) t1 (by omega);rw[aI (n:=z*t) (by omega) (by omega),aI (n:=a+z*t) (by omega) (by omega)];exact⟨rfl,je (by omega)⟩
def gf(hq:0<q)(x:Int):E9 q (x%q):=⟨nW _ (by omega),sJ _ hq⟩
def dtN(q:Int)(l m:List Int):Nat->Int
 |0=>0
 |i+1=>(dtN q l m i+l.getD i 0*m.getD i 0)%q
theorem yK(hq:0<q)(l m:List Int):∀i,E9 q (dtN q l m i)
 |0=>⟨by show(0:Int)<=0;omega,hq⟩
 |i+1=>gf hq _
def iE{α:Type}{l:List α}{P:α->Prop}(h:∀x∈l,P x){i:Nat}(hi:i<l.length):P l[i]:=h _ (e9 hi)
def PQ(hq:0<q/\q<=2000000000)(hl:∀x∈l,E9 q x)(hm:∀x∈m,E9 q x)(hn:m.length=l.length):vg l m q=J (dtN q l m l.length):=by
 unfold vg;refine bE (ay (ψ:=(· =dtN q l m l.length)) (ec (λi s=>s=dtN q l m i) rfl ?_ λs h=>h) λx hx=>aj hx);rintro i s hi rfl;have ha:=yK hq.1 l m i;have h1:=iE hl hi;have h2:=iE hm (show i<m.length by omega);refine bD hi (bD (show i<m.length by omega) (aG (by omega) (aG (by omega) (aj ?_))));show _=(dtN q l m i+l.getD i 0*m.getD i 0)%q;rw[bU hi,bU (show i<m.length by omega)];have e:=iK hq.2 ⟨A2 0,hq.1⟩ h1 h2;rw[KE,KE]at e
 have e2:i64.wrap (l[i]*m[i])=l[i]*m[i]:=by
  have h3:0<=l[i]*m[i]:=sK h1.1 h2.1;have h4:l[i]*m[i]<=2000000000*2000000000:=wh (by have:=h1.2;omega) (by have:=h2.2;omega) h2.1 (by omega);exact aI (by omega) (by omega)
 rw[e2,je (sK h1.1 h2.1)];have h5:=gf hq.1 (l[i]*m[i]);rw[aI (by have:=ha.1;have:=h5.1;omega) (by have:=ha.2;have:=h5.2;omega),je (by have:=ha.1;have:=h5.1;omega)];rw[o9,eM,<-o9]
def Rf(hq:0<q/\q<=2000000000)(hl:∀x∈l,E9 q x)(hm:∀x∈m,E9 q x)(hn:m.length=l.length):vl l m q=J (dtN q l m l.length):=by
 unfold vl;refine bE (ay (ψ:=(· =dtN q l m l.length)) (ec (λi s=>s=dtN q l m i) rfl ?_ λs h=>h) λx hx=>aj hx);rintro i s hi rfl;refine bD hi (bD (show i<m.length by omega) (aG (by omega) (aj ?_)));show _=(dtN q l m i+l.getD i 0*m.getD i 0)%q;rw[bU hi,bU (show i<m.length by omega)];exact(iK hq.2 (yK hq.1 l m i) (iE hl hi) (iE hm (show i<m.length by omega))).2
def smN(q:Int)(l:List Int):Nat->Int
 |0=>0
 |i+1=>(smN q l i+l.getD i 0)%q
theorem Ol(hq:0<q)(l:List Int):∀i,E9 q (smN q l i)
 |0=>⟨by show(0:Int)<=0;omega,hq⟩
 |i+1=>gf hq _
def zxs(hq:0<q/\q<=2000000000)(hl:∀x∈l,E9 q x):Ff l q=J (smN q l l.length)/\FK l q=J (smN q l l.length):=by
 refine⟨?_,?_⟩
 ·unfold Ff;refine bE (ay (ψ:=(· =smN q l l.length)) (ec (λi s=>s=smN q l i) rfl ?_ λs h=>h) λx hx=>aj hx);rintro i s hi rfl;have ha:=Ol hq.1 l i;have h1:=iE hl hi;refine bD hi (aG (by omega) (aj ?_));show _=(smN q l i+l.getD i 0)%q;rw[bU hi,aI (by have:=ha.1;have:=h1.1;omega) (by have:=ha.2;have:=h1.2;omega),je (by have:=ha.1;have:=h1.1;omega)]
 unfold FK;refine bE (ay (ψ:=(· =smN q l l.length)) (ec (λi s=>s=smN q l i) rfl ?_ λs h=>h) λx hx=>aj hx);rintro i s hi rfl;have ha:=Ol hq.1 l i;have h1:=iE hl hi;refine bD hi (aG (by omega) (aj ?_));show _=(smN q l i+l.getD i 0)%q;rw[bU hi,aI (by have:=ha.1;have:=h1.1;omega) (by have:=ha.2;have:=h1.2;omega),je (by have:=ha.1;have:=h1.1;omega)]
def yN(q:Int)(own t:List Int):Nat->Int
 |0=>0
 |i+1=>(t.getD i 0+own.getD i 0*yN q own t i)%q
theorem N4(hq:0<q)(own t:List Int):∀i,E9 q (yN q own t i)
 |0=>⟨by show(0:Int)<=0;omega,hq⟩
 |i+1=>gf hq _
def pM(e perm:List Int):List Int:=perm.map λj=>e.getD j.toNat 0
def zMw{e:List Int}(hp:∀x∈perm,0<=x/\x<e.length)(hl:perm.length<=1000):EP e perm=J (pM e perm):=by
 unfold EP;rw[zC4 (l:=perm) (f:=λj=>e.getD j.toNat 0) []]
 ·rw[mM];rfl
 intro i hi s hs;have hx:=iE hp hi;obtain⟨j,hj⟩:=fJ hx.1;rw[jt hi,aR,hj,jt (show j<e.length by omega),aR,eE (by simp at hs;omega),dG,bU (show j<e.length by omega)]
def sdV(l:List an):List Int×List Int:=(l.map (·.A),l.map (·.B))
def rE{l:List an}(hl:l.length<=1000):ul l=J (sdV l)/\uY l=J (sdV l):=by
 have h:aS (σ:=(List Int)×List Int) (λi5 s4=>
  (ix l i5).bind λaU=>
  gd ((s4.1.length+1)*8<=140737488355328/\s4.1.length+1<=4611686018427387904)<|
  gd ((s4.2.length+1)*8<=140737488355328/\s4.2.length+1<=4611686018427387904)<|
  J (.go (s4.1++[aU.A],s4.2++[aU.B]))) (λs4=>(s4.1,s4.2)) (l.length) 0 ([],[])=J (sdV l):=by
  refine bE (ec (λi s=>s=sdV (l.take i)) rfl ?_ ?_)
  ·rintro i s hi rfl;refine bD hi (aG (by simp[sdV];omega) (aG (by simp[sdV];omega) (aj ?_)));show _=_;rw[iO hi];simp only[sdV,l8,jD,p9]
  ·rintro s rfl;rw[f6]
 unfold ul uY;rw[h];exact⟨rfl,rfl⟩
def sA(k:ao gr){l:List an}(h:∀c∈l,b8 gr c=Z):(∀x∈(sdV l).1,0<=x/\x<=2000000000)/\∀x∈(sdV l).2,0<=x/\x<=2000000000:=by
 refine⟨λx hx=>?_,λx hx=>?_⟩<;>obtain⟨c,hc,rfl⟩:=jE.1 hx<;>obtain⟨b1,b2,b3,b4⟩:=zBh k (h c hc)
 ·exact⟨b1,b2⟩
 exact⟨b3,b4⟩
theorem Y6{gr:am}(k:ao gr):∀(l m:List Int) (o:Int),0<=o/\o<gr.P->R9 (zaO gr l m o)
 |[],_,o,h=>by have:=k.p;unfold zaO;exact⟨h.1,by omega⟩
 |_::_,[],o,h=>by have:=k.p;unfold zaO;exact⟨h.1,by omega⟩
 |x::l,e::m,o,h=>by
  have:=k.p;unfold zaO;exact Y6 k l m _ ⟨nW _ (by omega),sJ _ (by omega)⟩
def fE(k:ao gr)(l m:List Int):R9 (zaO gr l m 1):=Y6 k l m 1 (by have:=k.p;exact⟨by omega,by omega⟩)
def mF{a r:List Int}{n:Nat}(h:a.length=n):i9 (a++r) (n:Int)=J (a,r):=by
 unfold i9;rw[dG,eE (by omega),eE (by simp;omega),eE (by omega),eE (by simp;omega)];simp[h,KD]
def zAP{a:List Int}{n:Nat}(h:a.length=n):i9 a (n:Int)=J (a,[]):=by
 have:=mF (r:=[]) h
 rwa [ri]at this
def AR(x:Int)(r:List Int):r8 (x::r)=J (x,r):=by
 unfold r8;have h:=mF (a:=[x]) (r:=r) (n:=1) rfl;show(i9 ([x]++r) ((1:Nat):Int)).bind _=_;rw[h];rfl
structure YR (gr:am) (n:Nat) (s t w x:List Int) (a b d f:Int):Prop where
 s:s.length=n/\∀z∈s,E9 gr.Q z
 t:t.length=n/\∀z∈t,E9 gr.Q z
 w:w.length=n/\∀z∈w,E9 gr.Q z
 x:x.length=n/\∀z∈x,E9 gr.Q z
 a:E9 gr.Q a
 b:E9 gr.Q b
 d:E9 gr.Q d
 f:E9 gr.Q f
def UM{n:Nat}{aH:List Int}(hl:aH.length=4*n+4)(he:aH.all (di gr)=Z):∃s t w x a b d f,aH=s++(t++(a::b::d::f::(w++x)))/\YR gr n s t w x a b d f:=by
 have h:=zp he;obtain⟨s,r,rfl,hs⟩:∃s r,aH=s++r/\s.length=n:=⟨aH.take n,aH.drop n,(Df n aH).symm,by simp;omega⟩
 obtain⟨t,r,rfl,ht⟩:∃t r',r=t++r'/\t.length=n:=⟨r.take n,r.drop n,(Df n r).symm,by simp at hl⊢;omega⟩
 simp only[bP]at hl
 match r,hl with
 |a::b::d::f::r,hl=>
  obtain⟨w,x,rfl,hw⟩:∃w x,r=w++x/\w.length=n:=⟨r.take n,r.drop n,(Df n r).symm,by simp at hl⊢;omega⟩
  simp only[dX,bP]at hl;refine⟨s,t,w,x,a,b,d,f,rfl,⟨hs,λz hz=>h z ?_⟩,⟨ht,λz hz=>h z ?_⟩,⟨hw,λz hz=>h z ?_⟩,⟨by omega,λz hz=>h z ?_⟩,h a ?_,h b ?_,h d ?_,h f ?_⟩<;>simp_all
 |[],hl=>simp at hl;omega
 |[_],hl=>simp at hl;omega
 |[_,_],hl=>simp at hl;omega
 |[_,_,_],hl=>simp at hl;omega
section
attribute [local irreducible] chG ziD zez zaR zdR zcp zaO dtN smN yN
def pmL(gr:am)(key:Int)(B:cr)(l:List an)(perm rs s:List Int):List Int:=zdR key l (zaR gr key l perm rs) (zez gr B.Hs perm s)
def pmE(gr:am)(key:Int)(B:cr)(l:List an)(perm rs s:List Int):List Int:=ziD gr JT (pmL gr key B l perm rs s) l.length
def pmO(gr:am)(key:Int)(B:cr)(l:List an)(perm rs s:List Int):List Int:=pM (pmE gr key B l perm rs s) perm
def zj8(gr:am)(h:Int)(own t w x:List Int)(i:Nat):Int:=aP gr [av gr gr.G (w.getD i 0),av gr (hN gr h own t i) (x.getD i 0)]
def yu(gr:am)(key:Int)(Hs:List Int)(out:List an)(x:List Int)(a b d f:Int):List Int:=[av gr gr.G a,aP gr [av gr gr.G b,zaO gr Hs x 1],av gr gr.G d,aP gr [av gr gr.G (i64.wrap (0-f)),zaO gr (sdV out).1 x 1],aP gr [av gr key (i64.wrap (0-f)),zaO gr (sdV out).2 x 1]]
def pmC(gr:am)(key:Int)(B:cr)(l:List an)(perm rs s t w x:List Int)(a b d f:Int):List Int:=yu gr key B.Hs (zaR gr key l perm rs) x a b d f++(List.range l.length).map (zj8 gr B.H (pmO gr key B l perm rs s) t w x)
def pmZ(gr:am)(key:Int)(B:cr)(l:List an)(perm rs s t w x:List Int)(a b d f:Int):Int:=chG gr Bd (pmL gr key B l perm rs s++zcp gr B.H (pmO gr key B l perm rs s) t++pmC gr key B l perm rs s t w x a b d f)
def rsF(q z:Int)(w t:List Int)(i:Nat):Int:=(w.getD i 0+z*t.getD i 0)%q
def vn(gr:am)(z:Int)(n:Nat)(e own rs s t w x:List Int)(a b d f:Int):List Int:=[(a+z*smN gr.Q s n)%gr.Q,(b+z*dtN gr.Q s e n)%gr.Q,(d+z*yN gr.Q own t n)%gr.Q,(f+z*dtN gr.Q rs own n)%gr.Q]++(List.range n).map (rsF gr.Q z w t)++(List.range n).map (rsF gr.Q z x own)
def ke(gr:am)(key:Int)(B:cr)(l:List an)(perm rs s t w x:List Int)(a b d f:Int):cH:=
 ⟨zez gr B.Hs perm s,zcp gr B.H (pmO gr key B l perm rs s) t,⟨pmC gr key B l perm rs s t w x a b d f,[pmZ gr key B l perm rs s t w x a b d f],vn gr (pmZ gr key B l perm rs s t w x a b d f) l.length (pmE gr key B l perm rs s) (pmO gr key B l perm rs s) rs s t w x a b d f⟩⟩
structure dS (gr:am) (key:Int) (B:cr) (l:List an) (perm rs s t w x:List Int) (a b d f:Int):Prop where
 m:ni gr key l perm rs
 bs:tU gr l.length B
 c:YR gr l.length s t w x a b d f
section
variable {gr:am}{key:Int}{B:cr}{l:List an}{perm rs s t w x:List Int}{a b d f:Int}
def dS.KP(P:dS gr key B l perm rs s t w x a b d f):∀z∈perm,0<=z/\z<perm.length:=λz hz=>by have:=P.m.pr z hz;have:=P.m.pl;omega
def dS.bl(P:dS gr key B l perm rs s t w x a b d f):tU gr perm.length B:=by rw[P.m.pl];exact P.bs
def dS.fS(k:ao gr)(P:dS gr key B l perm rs s t w x a b d f):(zez gr B.Hs perm s).length=l.length/\∀z∈zez gr B.Hs perm s,aK gr z=Z:=by
 have h:=zBR k (ss:=s) P.m.pb (by rw[P.m.pl];exact P.bs.l) P.bs.s;exact⟨by rw[h.1,P.m.pl],h.2⟩
def dS.len(k:ao gr)(P:dS gr key B l perm rs s t w x a b d f):(pmL gr key B l perm rs s).length=1+5*l.length:=by
 have h1:=(P.fS k).1;have h2:=P.m.pl;unfold pmL;rw[FJ,kO,h1];omega
def dS.y7(k:ao gr)(P:dS gr key B l perm rs s t w x a b d f):(pmL gr key B l perm rs s).all cC=Z:=
 FO k P.m.key P.m.c (uN k P.m) (oF k (bm.2 (P.fS k).2))
def dS.e(k:ao gr)(P:dS gr key B l perm rs s t w x a b d f):(pmE gr key B l perm rs s).length=l.length/\∀z∈pmE gr key B l perm rs s,E9 gr.Q z:=YO k _ _ _
def dS.o(k:ao gr)(P:dS gr key B l perm rs s t w x a b d f):(pmO gr key B l perm rs s).length=l.length/\∀z∈pmO gr key B l perm rs s,E9 gr.Q z:=by
 obtain⟨h1,h2⟩:=P.e k;refine⟨by rw[<-P.m.pl];simp[pmO,pM],λz hz=>?_⟩;obtain⟨j,hj,rfl⟩:=jE.1 hz;have:=P.m.pr j hj;rw[bU (show j.toNat<_ by omega)];exact h2 _ (e9 _)
def dS.me(k:ao gr)(P:dS gr key B l perm rs s t w x a b d f):(zcp gr B.H (pmO gr key B l perm rs s) t).length=l.length/\∀z∈zcp gr B.H (pmO gr key B l perm rs s) t,aK gr z=Z:=by
 unfold zcp;refine⟨by simp[(P.o k).1],λz hz=>?_⟩;obtain⟨j,hj,rfl⟩:=jE.1 hz;exact Rr k P.bs.h _ _ _
def zCw{h:Int}{es ts:List Int}{i:Nat}(hi:i<es.length):ix ([h]++zcp gr h es ts) (i:Int)=J (hN gr h es ts i):=by
 unfold zcp;cases i with
 |zero=>rfl
 |succ i=>exact Jv (by simp[show i<es.length by omega])
def dS.oM(k:ao gr)(P:dS gr key B l perm rs s t w x a b d f):(pmC gr key B l perm rs s t w x a b d f).length=l.length+5/\∀z∈pmC gr key B l perm rs s t w x a b d f,R9 z:=by
 have hh:=dT k P.bs.h;refine⟨by simp[pmC,yu],λz hz=>?_⟩;rcases jY.1 hz with h|h
 ·simp only[yu,fK,jf,jg]at h;rcases h with rfl|rfl|rfl|rfl|rfl
  ·exact bJ k _ _
  ·exact nF k (bJ k _ _) (fE k _ _)
  ·exact bJ k _ _
  ·exact nF k (bJ k _ _) (fE k _ _)
  exact nF k (bJ k _ _) (fE k _ _)
 obtain⟨i,_,rfl⟩:=jE.1 h;exact nF k (bJ k _ _) (bJ k _ _)
def dS.FY(k:ao gr)(P:dS gr key B l perm rs s t w x a b d f):(pmL gr key B l perm rs s++zcp gr B.H (pmO gr key B l perm rs s) t++pmC gr key B l perm rs s t w x a b d f).length=6+7*l.length/\(pmL gr key B l perm rs s++zcp gr B.H (pmO gr key B l perm rs s) t++pmC gr key B l perm rs s t w x a b d f).all cC=Z:=by
 have h1:=P.len k;have h2:=(P.me k).1;have h3:=(P.oM k).1;refine⟨by rw[bP,bP,h1,h2,h3];omega,?_⟩;rw[kq,kq,P.y7 k,oF k (bm.2 (P.me k).2),VB (P.oM k).2];rfl
def OX(P:dS gr key B l perm rs s t w x a b d f)(k:ao gr):qq key l (zaR gr key l perm rs) (zez gr B.Hs perm s)=J (pmL gr key B l perm rs s)/\rD key l (zaR gr key l perm rs) (zez gr B.Hs perm s)=J (pmL gr key B l perm rs s):=by
 have hn:=P.m.n;have dN:=P.m.pl;exact⟨DD (by omega) (by rw[kO];omega) (by rw[(P.fS k).1];omega),zB (by omega) (by rw[kO];omega) (by rw[(P.fS k).1];omega)⟩
def Xw(P:dS gr key B l perm rs s t w x a b d f)(k:ao gr):yJ gr JT (pmL gr key B l perm rs s) (l.length:Int)=J (pmE gr key B l perm rs s,Z)/\DF gr JT (pmL gr key B l perm rs s) (l.length:Int)=J (pmE gr key B l perm rs s):=by
 have hn:=P.m.n;exact⟨XH k (by decide) (by rw[P.len k];omega) (P.y7 k) (by omega) (by omega),YN k (by decide) (by rw[P.len k];omega) (P.y7 k) (by omega)⟩
def zGg(P:dS gr key B l perm rs s t w x a b d f)(k:ao gr):EP (pmE gr key B l perm rs s) perm=J (pmO gr key B l perm rs s):=by
 have hn:=P.m.n;have dN:=P.m.pl;have h:=(P.e k).1;exact zMw (e:=pmE gr key B l perm rs s) (λz hz=>by have:=P.m.pr z hz;omega) (by omega)
def zCP(P:dS gr key B l perm rs s t w x a b d f)(k:ao gr):pS [pmL gr key B l perm rs s,zcp gr B.H (pmO gr key B l perm rs s) t,pmC gr key B l perm rs s t w x a b d f]=J (pmL gr key B l perm rs s++zcp gr B.H (pmO gr key B l perm rs s) t++pmC gr key B l perm rs s t w x a b d f):=by
 have hfl:[pmL gr key B l perm rs s,zcp gr B.H (pmO gr key B l perm rs s) t,pmC gr key B l perm rs s t w x a b d f].flatten=pmL gr key B l perm rs s++zcp gr B.H (pmO gr key B l perm rs s) t++pmC gr key B l perm rs s t w x a b d f:=by simp
 have h:=P.FY k;have hn:=P.m.n;rw[Dr _ (by rw[hfl];omega),hfl]
def VH(P:dS gr key B l perm rs s t w x a b d f)(k:ao gr):ml gr Bd (pmL gr key B l perm rs s++zcp gr B.H (pmO gr key B l perm rs s) t++pmC gr key B l perm rs s t w x a b d f)=J (pmZ gr key B l perm rs s t w x a b d f,Z)/\pd gr Bd (pmL gr key B l perm rs s++zcp gr B.H (pmO gr key B l perm rs s) t++pmC gr key B l perm rs s t w x a b d f)=J (pmZ gr key B l perm rs s t w x a b d f):=by
 have h:=P.FY k;have hn:=P.m.n;refine⟨?_,L4 k (by decide) (by omega) h.2⟩;rw[K3 k _ (by omega),aB (K7 k (by decide) (by rw[show Bd.size=9 from rfl];omega) h.2)];rfl
def dS.z(P:dS gr key B l perm rs s t w x a b d f)(k:ao gr):E9 gr.Q (pmZ gr key B l perm rs s t w x a b d f):=mE k _ _
theorem YJ:yu gr key B.Hs (zaR gr key l perm rs) x a b d f++(List.range l.length).map (zj8 gr B.H (pmO gr key B l perm rs s) t w x)=pmC gr key B l perm rs s t w x a b d f:=rfl
end
variable{n:Nat}
def zCK{gr:am}(k:ao gr){own t:List Int}(ho:own.length=n)(ht:t.length=n)(uE:∀z∈own,E9 gr.Q z)(hte:∀z∈t,E9 gr.Q z):aS (σ:=Int) (λqL eI=>
 (ix t qL).bind λD6=>
 (ix own qL).bind λfM=>
 (eU gr (i64.wrap (D6+(i64.wrap (fM*eI))))).bind λfP=>
 J (.go fP)) (λeI=>eI) n 0 0=J (yN gr.Q own t n):=by
 have hp:=k.p;have hq:=k.q;refine bE (ec (λi y=>y=yN gr.Q own t i) (by unfold yN;rfl) ?_ λy h=>h);rintro i y hi rfl;refine bD (show i<t.length by omega) (bD (show i<own.length by omega) (ag (lv k _) (aj ?_)));rw[(iK (q:=gr.Q) (by omega) (iE hte (by omega)) (iE uE (by omega)) (N4 (by omega) _ _ _)).1];show _=yN gr.Q own t (i+1);conv=>rhs;unfold yN
 rw[bU (show i<t.length by omega),bU (show i<own.length by omega)]
def zye{gr:am}(k:ao gr){h:Int}(hh:R9 h){own t w x A D E c5:List Int}(ho:own.length=n)(hw:w.length=n)(hx:x.length=n)(h5:c5.length=5)(hn:n<=100):aS (σ:=(List Int)×List Int×List Int×List Int×List Int) (λPK qy=>
 (ix w PK).bind λGT=>
 (ix ([h]++zcp gr h own t) PK).bind λx69=>
 (ix x PK).bind λQ3=>
 (cQ gr gr.G GT).bind λv7=>
 (cQ gr x69 Q3).bind λoH=>
 (eg gr [v7,oH]).bind λrJ=>
 gd ((qy.2.2.1.length+1)*8<=140737488355328/\qy.2.2.1.length+1<=4611686018427387904)<|
 J (.go (qy.1,qy.2.1,qy.2.2.1++[rJ],qy.2.2.2.1,qy.2.2.2.2))) (λqy=>(qy.1,qy.2.1,qy.2.2.1,qy.2.2.2.1,qy.2.2.2.2)) n 0 (A,zcp gr h own t,c5,D,E)=J (A,zcp gr h own t,c5++(List.range n).map (zj8 gr h own t w x),D,E):=by
 refine bE (ec (λi y=>y=(A,zcp gr h own t,c5++(List.range i).map (zj8 gr h own t w x),D,E)) (by simp) ?_ (by rintro y rfl;rfl));rintro i y hi rfl;refine bD (show i<w.length by omega) (ag (zCw (by omega)) (bD (show i<x.length by omega) (ag (fa k (fF k) _) (ag (fa k (Lb k hh _ _ _) _) (ag (jG k (bJ k _ _) (bJ k _ _)) (aG (by simp;omega) (aj ?_)))))));show _=_;rw[mO,l8,<-gU];simp only[jD,p9,zj8,bU (show i<w.length by omega),bU (show i<x.length by omega)]
def zxQ{gr:am}(k:ao gr){h:Int}(hh:R9 h){own t w x A D E c5:List Int}(ho:own.length=n)(hw:w.length=n)(hx:x.length=n)(h5:c5.length=5)(hn:n<=100):aS (σ:=(List Int)×List Int×List Int×List Int×List Int×Int) (λuh eK=>
 (ix w uh).bind λNc=>
 (ix x uh).bind λqX=>
 (cD gr gr.G Nc).bind λCf=>
 (cD gr eK.2.2.2.2.2 qX).bind λBh=>
 (d8 gr [Cf,Bh]).bind λHk=>
 gd ((eK.2.2.1.length+1)*8<=140737488355328/\eK.2.2.1.length+1<=4611686018427387904)<|
 (ix eK.2.1 uh).bind λqO=>
 J (.go (eK.1,eK.2.1,eK.2.2.1++[Hk],eK.2.2.2.1,eK.2.2.2.2.1,qO))) (λeK=>(eK.1,eK.2.1,eK.2.2.1,eK.2.2.2.1,eK.2.2.2.2.1)) n 0 (A,zcp gr h own t,c5,D,E,h)=J (A,zcp gr h own t,c5++(List.range n).map (zj8 gr h own t w x),D,E):=by
 have gQ:(zcp gr h own t).length=n:=by simp[zcp,ho]
 refine bE (ec (λi y=>y=(A,zcp gr h own t,c5++(List.range i).map (zj8 gr h own t w x),D,E,hN gr h own t i)) (by simp[hN]) ?_ (by rintro y rfl;rfl));rintro i y hi rfl;have oa:(zcp gr h own t)[i]'(by omega)=hN gr h own t (i+1):=by simp[zcp]
 refine bD (show i<w.length by omega) (bD (show i<x.length by omega) (ag (fe k (fF k) _) (ag (fe k (Lb k hh _ _ _) _) (ag (iD k (bJ k _ _) (bJ k _ _)) (aG (by simp;omega) (bD (l:=zcp gr h own t) (show i<_ by omega) (aj ?_)))))));show _=_;rw[oa,mO,l8,<-gU];simp only[jD,p9,zj8,bU (show i<w.length by omega),bU (show i<x.length by omega)]
def YA{gr:am}(k:ao gr){z:Int}(hz:E9 gr.Q z){w t A B C D R:List Int}(hw:w.length=n/\∀z∈w,E9 gr.Q z)(ht:t.length=n/\∀z∈t,E9 gr.Q z)(hR:R.length<=1000)(hn:n<=100):aS (σ:=(List Int)×List Int×List Int×List Int×List Int) (λZG qZ=>
 (ix w ZG).bind λa1j=>
 (ix t ZG).bind λN2=>
 (eU gr (i64.wrap (a1j+(i64.wrap (z*N2))))).bind λNh=>
 gd ((qZ.2.2.2.2.length+1)*8<=140737488355328/\qZ.2.2.2.2.length+1<=4611686018427387904)<|
 J (.go (qZ.1,qZ.2.1,qZ.2.2.1,qZ.2.2.2.1,qZ.2.2.2.2++[Nh]))) (λqZ=>(qZ.1,qZ.2.1,qZ.2.2.1,qZ.2.2.2.1,qZ.2.2.2.2)) n 0 (A,B,C,D,R)=J (A,B,C,D,R++(List.range n).map (rsF gr.Q z w t)):=by
 have hp:=k.p;have hq:=k.q;refine bE (ec (λi y=>y=(A,B,C,D,R++(List.range i).map (rsF gr.Q z w t))) (by simp) ?_ (by rintro y rfl;rfl));rintro i y hi rfl;refine bD (show i<w.length by omega) (bD (show i<t.length by omega) (ag (lv k _) (aG (by simp;omega) (aj ?_))));rw[(iK (q:=gr.Q) (by omega) (iE (i:=i) hw.2 (by omega)) hz (iE (i:=i) ht.2 (by omega))).1];show _=_;rw[mO,l8,<-gU];simp only[jD,p9,rsF,bU (show i<w.length by omega),bU (show i<t.length by omega)]
def Z4{gr:am}(k:ao gr){z:Int}(hz:E9 gr.Q z){w t A B C D R:List Int}(hw:w.length=n/\∀z∈w,E9 gr.Q z)(ht:t.length=n/\∀z∈t,E9 gr.Q z)(hR:R.length<=1000)(hn:n<=100):aS (σ:=(List Int)×List Int×List Int×List Int×List Int) (λAy fu=>
 (ix w Ay).bind λxv=>
 (ix t Ay).bind λxe=>
 gd (gr.Q≠0)<|
 gd ((fu.2.2.2.2.length+1)*8<=140737488355328/\fu.2.2.2.2.length+1<=4611686018427387904)<|
 J (.go (fu.1,fu.2.1,fu.2.2.1,fu.2.2.2.1,fu.2.2.2.2++[(i64.wrap (xv+(i64.wrap (z*xe)))).tmod gr.Q]))) (λfu=>(fu.1,fu.2.1,fu.2.2.1,fu.2.2.2.1,fu.2.2.2.2)) n 0 (A,B,C,D,R)=J (A,B,C,D,R++(List.range n).map (rsF gr.Q z w t)):=by
 have hp:=k.p;have hq:=k.q;refine bE (ec (λi y=>y=(A,B,C,D,R++(List.range i).map (rsF gr.Q z w t))) (by simp) ?_ (by rintro y rfl;rfl));rintro i y hi rfl;refine bD (show i<w.length by omega) (bD (show i<t.length by omega) (aG (by omega) (aG (by simp;omega) (aj ?_))));rw[(iK (q:=gr.Q) (by omega) (iE (i:=i) hw.2 (by omega)) hz (iE (i:=i) ht.2 (by omega))).2];show _=_;rw[mO,l8,<-gU];simp only[jD,p9,rsF,bU (show i<w.length by omega),bU (show i<t.length by omega)]
def zzf{gr:am}(k:ao gr){e t perm own:List Int}(hp:perm.length=n)(ht:t.length=n/\∀z∈t,E9 gr.Q z)(hb:∀z∈perm,0<=z/\z<e.length)(uE:∀z∈e,E9 gr.Q z)(ho:own=pM e perm)(hn:n<=100):aS (σ:=(List Int)×Int) (λAv cJ=>
 (ix perm Av).bind λll=>
 (ix e ll).bind λog=>
 gd ((cJ.1.length+1)*8<=140737488355328/\cJ.1.length+1<=4611686018427387904)<|
 (ix t Av).bind λfI=>
 gd (gr.Q≠0)<|
 J (.go (cJ.1++[og],(i64.wrap (fI+(i64.wrap (og*cJ.2)))).tmod gr.Q))) (λcJ=>(cJ.1,cJ.2)) perm.length 0 ([],0)=J (own,yN gr.Q own t n):=by
 have hP:=k.p;have hq:=k.q;have hol:own.length=n:=by rw[ho];simp[pM,hp]
 refine bE (ec (λi y=>y=(own.take i,yN gr.Q own t i)) (by unfold yN;rfl) ?_ ?_)
 ·rintro i y hi rfl;have kZ:=iE hb hi;obtain⟨j,hj⟩:=fJ kZ.1;have rU:j<e.length:=by omega
  have Dp:own[i]'(by omega)=e[j]:=by
   simp only[ho,pM,List.getElem_map,hj,dG];exact bU rU
  refine bD hi ?_;rw[hj];refine bD rU (aG (by simp;omega) (bD (show i<t.length by omega) (aG (by omega) (aj ?_))));rw[(iK (q:=gr.Q) (by omega) (iE (i:=i) ht.2 (by omega)) (iE (i:=j) uE rU) (N4 (by omega) _ _ _)).2];show _=(own.take (i+1),yN gr.Q own t (i+1));conv=>rhs;unfold yN
  rw[bU (show i<t.length by omega),bU (show i<own.length by omega),iO (show i<own.length by omega),Dp]
 rintro y rfl;rw[KD (by omega),hp]
attribute [local irreducible] pmL pmE pmO pmC pmZ zj8 rsF sdV hN
section
variable {gr:am}{key:Int}{B:cr}{l:List an}{perm rs s t w x:List Int}{a b d f:Int}
def mH(l:List an):(sdV l).1.length=l.length/\(sdV l).2.length=l.length:=by unfold sdV;simp
set_option maxHeartbeats 4000000 in
def UN(k:ao gr)(P:dS gr key B l perm rs s t w x a b d f):DI gr B key l perm rs (s++(t++(a::b::d::f::(w++x))))=J (ke gr key B l perm rs s t w x a b d f,Z):=by
 have hp:=k.p;have hq:=k.q;have cM:0<gr.Q/\gr.Q<=2000000000:=by omega
 have hn:=P.m.n;have dN:=P.m.pl;have fj:=P.m.rl;have hk:=dT k P.m.key;have hH:=dT k P.bs.h;have Fc:=uN k P.m;have kA:(zaR gr key l perm rs).length=l.length:=by rw[kO,P.m.pl]
 have f9:=sA k Fc;have eW:=mH (zaR gr key l perm rs);rw[kA]at eW;obtain⟨hol,uE⟩:=P.o k;obtain⟨rB,zZ⟩:=P.e k;have hz:=P.z k;have Oi:=P.c.x.1;have Nx:=P.c.w.1;have Sp:=P.c.t.1;have zA:=P.c.s.1;have hB:=F0 k P.bs.s;have Pv:=P.bs.l;have c1:=RZ k P.m;have c2:=zCq (ss:=s) k P.KP (by omega) (by omega) P.bl;have c3:=(OX P k).1;have c4:=(Xw P k).1;have c5:=zGg P k;have c6:=zDe k hH (es:=pmO gr key B l perm rs s) (ts:=t) (by omega) (by omega);have c7:=zCK k hol Sp uE P.c.t.2;have c8:=(rE (l:=zaR gr key l perm rs) (by omega)).1;have c9:=zCP P k;have xT:=(VH P k).1;have rH:=zye (A:=zez gr B.Hs perm s) (D:=[]) (E:=[]) (t:=t) k hH hol Nx Oi (show(yu gr key B.Hs (zaR gr key l perm rs) x a b d f).length=5 from rfl) (by omega);rw[YJ]at rH;have p1:=oR (m:=x) k hB (by omega);have p2:=oR (m:=x) k f9.1 (by omega);have p3:=oR (m:=x) k f9.2 (by omega);have d1:=((zxs cM P.c.s.2).1.trans (by rw[zA]):Ff s gr.Q=J (smN gr.Q s l.length))
 have d2:=((PQ cM (m:=pmE gr key B l perm rs s) P.c.s.2 zZ (by omega)).trans (by rw[zA]):vg s (pmE gr key B l perm rs s) gr.Q=J (dtN gr.Q s (pmE gr key B l perm rs s) l.length))
 have d3:=((PQ cM (l:=rs) (m:=pmO gr key B l perm rs s) (zp P.m.re) uE (by omega)).trans (by rw[P.m.rl]):vg rs (pmO gr key B l perm rs s) gr.Q=J (dtN gr.Q rs (pmO gr key B l perm rs s) l.length))
 have P0:=Ol cM.1 s l.length;have vu:=yK cM.1 s (pmE gr key B l perm rs s) l.length;have ku:=yK cM.1 rs (pmO gr key B l perm rs s) l.length;have hy:=N4 cM.1 (pmO gr key B l perm rs s) t l.length;have hcn:(zcp gr B.H (pmO gr key B l perm rs s) t).length=l.length:=(P.me k).1;have x1:=(lv k _).trans (gn (λv=>J (v%gr.Q)) (iK (by omega) P.c.a hz P0).1);have x2:=(lv k _).trans (gn (λv=>J (v%gr.Q)) (iK (by omega) P.c.b hz vu).1);have x3:=(lv k _).trans (gn (λv=>J (v%gr.Q)) (iK (by omega) P.c.d hz hy).1);have x4:=(lv k _).trans (gn (λv=>J (v%gr.Q)) (iK (by omega) P.c.f hz ku).1);have r1:=λR hR=>YA (A:=zez gr B.Hs perm s) (B:=zcp gr B.H (pmO gr key B l perm rs s) t) (C:=pmC gr key B l perm rs s t w x a b d f) (D:=[pmZ gr key B l perm rs s t w x a b d f]) (R:=R) k hz P.c.w P.c.t hR (by omega)
 have r2:=λR hR=>YA (A:=zez gr B.Hs perm s) (B:=zcp gr B.H (pmO gr key B l perm rs s) t) (C:=pmC gr key B l perm rs s t w x a b d f) (D:=[pmZ gr key B l perm rs s t w x a b d f]) (R:=R) k hz P.c.x ⟨hol,uE⟩ hR (by omega)
 clear eW f9 Fc hB;unfold DI;refine bE (ag (mF zA) (ag (mF Sp) (ag (AR _ _) (ag (AR _ _) (ag (AR _ _) (ag (AR _ _) (ag (mF Nx) (ag (zAP Oi) ?_))))))));dsimp only;refine ag c1 (ag c2 (ag c3 (ag c4 (bt rfl (ag c5 (ag c6 (ag c7 (ag c8 ?_))))))));refine ag (fa k (fF k) _) (ag (fa k (fF k) _) (ag p1 (ag (jG k (bJ k _ _) (fE k _ _)) (ag (fa k (fF k) _) (ag (fa k (fF k) _) (ag p2 (ag (jG k (bJ k _ _) (fE k _ _)) (ag (fa k hk _) (ag p3 (ag (jG k (bJ k _ _) (fE k _ _)) (aG ?_ (ag rfl (ag rH (ag c9 (ag xT (bt rfl ?_))))))))))))))))
 ·simp only[dX,ia];omega
 refine ag d1 (ag x1 (ag d2 (ag x2 (ag x3 (ag d3 (ag x4 (ag (r1 _ ?_) (ag (r2 _ ?_) (aj ?_)))))))))
 ·simp
 ·simp;omega
 unfold ke vn;rfl
end
end
section
attribute [local irreducible] chG ziD zez zaR zdR zcp zaO dtN smN yN
section
variable {gr:am}{key:Int}{B:cr}{l:List an}{perm rs s t w x:List Int}{a b d f:Int}
def cL{m:Nat}(h:m<=1000000){z:Int}(e:z=(m:Int)):i64.wrap z=(m:Int):=by rw[e];exact aI (by omega) (by omega)
def zDd(k:ao gr)(P:dS gr key B l perm rs s t w x a b d f):yI gr key l (zaR gr key l perm rs) (zez gr B.Hs perm s)=J (pmE gr key B l perm rs s):=by
 unfold yI;exact bE (ag (OX P k).2 (ag (Xw P k).2 (aj rfl)))
def zCS(k:ao gr)(P:dS gr key B l perm rs s t w x a b d f){ch rr:List Int}:Ar gr key l (zaR gr key l perm rs) ⟨zez gr B.Hs perm s,zcp gr B.H (pmO gr key B l perm rs s) t,⟨pmC gr key B l perm rs s t w x a b d f,ch,rr⟩⟩=J (pmZ gr key B l perm rs s t w x a b d f):=by
 have hn:=P.m.n;have h1:=P.len k;have h2:=(P.me k).1;have h3:=(P.oM k).1;unfold Ar;dsimp only;exact bE (ag (OX P k).2 (aG (by rw[h1,h2];omega) (aG (by rw[bP,h1,h2,h3];omega) (ag (VH P k).2 (aj rfl)))))
theorem zCo:pmO gr key B l perm rs s=pM (pmE gr key B l perm rs s) perm:=rfl
attribute [local irreducible] pmL pmE pmO pmC pmZ zj8 rsF sdV hN
set_option maxHeartbeats 4000000 in
def zEM(k:ao gr)(P:dS gr key B l perm rs s t w x a b d f):EU gr key B l perm rs (s++(t++(a::b::d::f::(w++x))))=J (ke gr key B l perm rs s t w x a b d f):=by
 have hp:=k.p;have hq:=k.q;have cM:0<gr.Q/\gr.Q<=2000000000:=by omega
 have hn:=P.m.n;have dN:=P.m.pl;have fj:=P.m.rl;have hk:=dT k P.m.key;have hH:=dT k P.bs.h;have Fc:=uN k P.m;have kA:(zaR gr key l perm rs).length=l.length:=by rw[kO,P.m.pl]
 have f9:=sA k Fc;have eW:=mH (zaR gr key l perm rs);rw[kA]at eW;obtain⟨hol,uE⟩:=P.o k;obtain⟨rB,zZ⟩:=P.e k;have hz:=P.z k;have Oi:=P.c.x.1;have Nx:=P.c.w.1;have Sp:=P.c.t.1;have zA:=P.c.s.1;have hB:=F0 k P.bs.s;have Pv:=P.bs.l;have c1:=Sd k P.m;have c2:=zDW (ss:=s) k P.KP (by omega) (by omega) P.bl;have c3:=zDd k P;have c6:=zCr k hH (es:=pmO gr key B l perm rs s) (ts:=t) (by omega) (by omega);have c7:=zzf (e:=pmE gr key B l perm rs s) (own:=pmO gr key B l perm rs s) k dN P.c.t (λz hz=>by have:=P.m.pr z hz;omega) zZ zCo (by omega);have c8:=(rE (l:=zaR gr key l perm rs) (by omega)).2;have c9:=zCS k P (ch:=[]) (rr:=[]);have rH:=zxQ (A:=zez gr B.Hs perm s) (D:=[]) (E:=[]) (t:=t) k hH hol Nx Oi (show(yu gr key B.Hs (zaR gr key l perm rs) x a b d f).length=5 from rfl) (by omega);rw[YJ]at rH;have p1:=oO (m:=x) k hB (by omega);have p2:=oO (m:=x) k f9.1 (by omega);have p3:=oO (m:=x) k f9.2 (by omega);have d1:=((zxs cM P.c.s.2).2.trans (by rw[zA]):FK s gr.Q=J (smN gr.Q s l.length))
 have d2:=((Rf cM (m:=pmE gr key B l perm rs s) P.c.s.2 zZ (by omega)).trans (by rw[zA]):vl s (pmE gr key B l perm rs s) gr.Q=J (dtN gr.Q s (pmE gr key B l perm rs s) l.length))
 have d3:=((Rf cM (l:=rs) (m:=pmO gr key B l perm rs s) (zp P.m.re) uE (by omega)).trans (by rw[P.m.rl]):vl rs (pmO gr key B l perm rs s) gr.Q=J (dtN gr.Q rs (pmO gr key B l perm rs s) l.length))
 have P0:=Ol cM.1 s l.length;have vu:=yK cM.1 s (pmE gr key B l perm rs s) l.length;have ku:=yK cM.1 rs (pmO gr key B l perm rs s) l.length;have hy:=N4 cM.1 (pmO gr key B l perm rs s) t l.length;have x1:=(iK (by omega) P.c.a hz P0).2;have x2:=(iK (by omega) P.c.b hz vu).2;have x3:=(iK (by omega) P.c.d hz hy).2;have x4:=(iK (by omega) P.c.f hz ku).2;have r1:=λR hR=>Z4 (A:=zez gr B.Hs perm s) (B:=zcp gr B.H (pmO gr key B l perm rs s) t) (C:=pmC gr key B l perm rs s t w x a b d f) (D:=[pmZ gr key B l perm rs s t w x a b d f]) (R:=R) k hz P.c.w P.c.t hR (by omega)
 have r2:=λR hR=>Z4 (A:=zez gr B.Hs perm s) (B:=zcp gr B.H (pmO gr key B l perm rs s) t) (C:=pmC gr key B l perm rs s t w x a b d f) (D:=[pmZ gr key B l perm rs s t w x a b d f]) (R:=R) k hz P.c.x ⟨hol,uE⟩ hR (by omega)
 have hQ:gr.Q≠0:=by omega
 clear eW f9 Fc hB;have w2:i64.wrap (2*(l.length:Int))=((2*l.length:Nat):Int):=cL (by omega) (by omega);have w21:i64.wrap (((2*l.length:Nat):Int)+1)=((2*l.length+1:Nat):Int):=cL (by omega) (by omega);have w22:i64.wrap (((2*l.length:Nat):Int)+2)=((2*l.length+2:Nat):Int):=cL (by omega) (by omega);have w23:i64.wrap (((2*l.length:Nat):Int)+3)=((2*l.length+3:Nat):Int):=cL (by omega) (by omega);have w24:i64.wrap (((2*l.length:Nat):Int)+4)=((2*l.length+4:Nat):Int):=cL (by omega) (by omega);have w3:i64.wrap (3*(l.length:Int))=((3*l.length:Nat):Int):=cL (by omega) (by omega);have w34:i64.wrap (((3*l.length:Nat):Int)+4)=((3*l.length+4:Nat):Int):=cL (by omega) (by omega);generalize hc:s++(t++(a::b::d::f::(w++x)))=aH;have a1v:aH.length=4*l.length+4:=by rw[<-hc];simp;omega
 have hs:(aH.take l.length).drop 0=s:=by rw[<-hc,<-zA];simp
 have ht:(aH.take (2*l.length)).drop l.length=t:=by
  rw[<-hc,<-gU,a0M (by simp;omega),OO zA]
 have hw:(aH.take (3*l.length+4)).drop (2*l.length+4)=w:=by
  have e:aH=(s++(t++[a,b,d,f]))++(w++x):=by rw[<-hc];simp
  rw[e,<-gU,a0M (by simp;omega),OO (by simp;omega)]
 have hx:(aH.take aH.length).drop (3*l.length+4)=x:=by
  have e:aH=(s++(t++([a,b,d,f]++w)))++x:=by rw[<-hc];simp
  rw[f6,e,OO (by simp;omega)]
 have sM:∀(i:Nat) (y:Int),i<4->[a,b,d,f][i]? =J y->ix aH ((2*l.length+i:Nat):Int)=J y:=λi y hi hy=>by
  have e:aH=(s++t)++([a,b,d,f]++(w++x)):=by rw[<-hc];simp
  refine Jv ?_;have h0:(s++t).length=2*l.length:=by simp;omega
  rw[e,fT (by omega),h0,UI,fw (by simpa using hi),hy]
 unfold EU;simp only[w2,w21,w22,w23,w24,w3,w34,dG,hs,ht,hw,hx];refine bE (ag c1 (aG (by omega) (aG (by omega) (aG (by omega) (aG (by omega) (aG (by omega) (ag (sM 0 a (by omega) rfl) (ag (sM 1 b (by omega) rfl) (ag (sM 2 d (by omega) rfl) (ag (sM 3 f (by omega) rfl) (aG (by omega) (aG (by omega) (aG (by omega) (aG (by omega) (aG (by omega) ?_)))))))))))))));refine ag c2 (ag c3 (ag c7 (ag c6 (ag c8 ?_))));refine ag (fe k (fF k) _) (ag (fe k (fF k) _) (ag p1 (ag (iD k (bJ k _ _) (fE k _ _)) (ag (fe k (fF k) _) (ag (fe k (fF k) _) (ag p2 (ag (iD k (bJ k _ _) (fE k _ _)) (ag (fe k hk _) (ag p3 (ag (iD k (bJ k _ _) (fE k _ _)) (ag rH (ag c9 ?_))))))))))));refine aG hQ (ag d1 (aG hQ (ag d2 (aG hQ (ag d3 (aG hQ ?_))))));dsimp only;rw[x1,x2,x3,x4];refine ag (r1 _ ?_) (ag (r2 _ ?_) (aj ?_))
 ·simp
 ·simp;omega
 unfold ke vn;rfl
end
end
abbrev sC:cH:=⟨[],[],⟨[],[],[]⟩⟩
def fG(gr:am)(key:Int)(l:List an):Bool:=aK gr key&&(cX 1 12 l.length&&l.all (b8 gr))
noncomputable def kd(gr:am)(n:Nat)(perm rs:List Int):Bool:=decide (perm.length=n)&&d5 perm&&(decide (rs.length=n)&&rs.all (di gr))
def vf{gr:am}(k:ao gr)(key:Int)(l:List an){B:cr}{tb:Bool}(hB:lw gr (l.length:Int)=J (B,tb)):tt gr key l=J (if fG gr key l=Z then(B,tb)else(⟨0,[]⟩,aa)):=by
 unfold tt;rw[zsO,Oa.2 k,K5 k,xt k,hB];unfold fG;cases aK gr key<;>cases (cX 1 12 l.length&&l.all (b8 gr))<;>rfl
def Nz{gr:am}(k:¬ao gr)(key:Int)(l:List an):tt gr key l=J (⟨0,[]⟩,aa):=by
 unfold tt;rw[zsO,od k];rfl
def N3{gr:am}{key:Int}{l:List an}{perm rs:List Int}:(fG gr key l&&kd gr l.length perm rs)=Z↔ni gr key l perm rs:=zHU
structure XW (gr:am) (key:Int) (l:List an) (perm rs aH:List Int) (p:cH):Prop where
 k:ao gr
 x:∃(B:cr) (s t w x:List Int) (a b d f:Int),aH=s++(t++(a::b::d::f::(w++x)))/\dS gr key B l perm rs s t w x a b d f/\p=ke gr key B l perm rs s t w x a b d f/\lw gr (l.length:Int)=J (B,Z)
def zLy(gr:am)(key:Int){l:List an}(hl:l.length<=20)(perm rs aH:List Int):∃p t,pP gr key l perm rs aH=J (p,t)/\uO gr key l perm rs aH=J (p,t)/\(t=aa->p=sC)/\(t=Z->XW gr key l perm rs aH p):=by
 have w4:i64.wrap (i64.wrap (4*(l.length:Int))+4)=((4*l.length+4:Nat):Int):=by
  rw[aI (n:=4*(l.length:Int)) (by omega) (by omega)];exact cL (by omega) (by omega)
 by_cases k:ao gr
 ·have hq:=k.q;have hp:=k.p;obtain⟨B,tb,b1,b2,b3⟩:=TS k (n:=l.length) (by omega);have e2:((rs.length:Int) !=(l.length:Int))= !decide (rs.length=l.length):=by by_cases h:rs.length=l.length<;>simp[h];omega
  have e3:((aH.length:Int) !=((4*l.length+4:Nat):Int))= !decide (aH.length=4*l.length+4):=by by_cases h:aH.length=4*l.length+4<;>simp[h];omega
  cases h1:fG gr key l
  ·refine⟨sC,aa,?_,?_,λ_=>rfl,λh=>by cases h⟩
   ·unfold pP;rw[vf k key l b2,h1];rfl
   unfold uO;rw[vj k,show(aK gr key&&(cX 1 12 l.length&&l.all (b8 gr)))=fG gr key l from rfl,h1];rfl
  cases h2:kd gr l.length perm rs
  ·refine⟨sC,aa,?_,?_,λ_=>rfl,λh=>by cases h⟩
   ·unfold pP;rw[vf k key l b2,h1,yP k (by omega),show(decide (perm.length=l.length)&&d5 perm&&(decide (rs.length=l.length)&&rs.all (di gr)))=kd gr l.length perm rs from rfl,h2];cases tb<;>rfl
   unfold uO;rw[vj k,show(aK gr key&&(cX 1 12 l.length&&l.all (b8 gr)))=fG gr key l from rfl,h1,SD perm l.length (by omega),zq (by omega) (by omega),e2];unfold kd at h2;cases h3:(decide (perm.length=l.length)&&d5 perm)
   ·simp
   cases h4:decide (rs.length=l.length)
   ·simp
   rw[h3,h4]at h2;have h2:rs.all (di gr)=aa:=by simpa using h2
   simp[h2]
  have m:=N3.1 (show(fG gr key l&&kd gr l.length perm rs)=Z by rw[h1,h2];rfl)
  have I:∀cc,uP gr aH=J cc->pP gr key l perm rs aH=if(tb&&(decide (aH.length=4*l.length+4)&&cc))=Z then(DI gr B key l perm rs aH).bind (λz=>J (z.1,z.2))else J (sC,aa):=by
   intro cc Rh;unfold pP;rw[vf k key l b2,h1,yP k (by omega),show(decide (perm.length=l.length)&&d5 perm&&(decide (rs.length=l.length)&&rs.all (di gr)))=kd gr l.length perm rs from rfl,h2,w4,e3,Rh];cases tb<;>cases decide (aH.length=4*l.length+4)<;>cases cc<;>rfl
  have S:∀cc,rI gr aH=J cc->uO gr key l perm rs aH=if(tb&&(decide (aH.length=4*l.length+4)&&cc))=Z then(EU gr key B l perm rs aH).bind (λz=>J (z,Z))else J (sC,aa):=by
   intro cc Rh;unfold uO;have h4:decide (rs.length=l.length)=Z:=by simp[m.rl]
   have h5:(decide (perm.length=l.length)&&d5 perm)=Z:=by simp[m.pl,m.pb]
   rw[vj k,show(aK gr key&&(cX 1 12 l.length&&l.all (b8 gr)))=fG gr key l from rfl,h1,SD perm l.length (by omega),zq (l:=rs) (by omega) (by omega),e2,h4,h5,m.re,w4,e3,Rh,b1];cases tb<;>cases decide (aH.length=4*l.length+4)<;>cases cc<;>rfl
  have I2:=I _ (yt (by omega) (by omega) aH);have S2:=S _ (zq (by omega) (by omega) aH);by_cases hc:(tb&&(decide (aH.length=4*l.length+4)&&aH.all (di gr)))=Z
  ·rw[aB hc]at I2 S2;simp only[bI,eC]at hc;obtain⟨ht,DM,oa⟩:=hc;subst ht;obtain⟨s,t,w,x,a,b,d,f,rfl,hC⟩:=UM DM oa;have P:dS gr key B l perm rs s t w x a b d f:=⟨m,b3 rfl,hC⟩
   rw[UN k P]at I2;rw[zEM k P]at S2;refine⟨ke gr key B l perm rs s t w x a b d f,Z,I2,S2,λh=>(by cases h),λ_=>⟨k,B,s,t,w,x,a,b,d,f,rfl,P,rfl,b2⟩⟩
  rw[az hc]at I2 S2;refine⟨sC,aa,I2,S2,λ_=>rfl,λh=>by cases h⟩
 refine⟨sC,aa,?_,?_,λ_=>rfl,λh=>by cases h⟩
 ·unfold pP;rw[Nz k];rfl
 unfold uO;rw[EL k];rfl
def zC3{gr:am}{key:Int}{l:List an}(hl:l.length<=20){perm rs aH:List Int}{p:cH}(h:XW gr key l perm rs aH p):p.cu.length<=1000/\p.aF.length<=1000/\p.Pi.aC.length<=1000/\p.Pi.aW.length<=1000/\p.Pi.aD.length<=1000:=by
 obtain⟨k,B,s,t,w,x,a,b,d,f,_,P,rfl,_⟩:=h;have h1:=(P.fS k).1;have h2:=(P.me k).1;have h3:=(P.oM k).1;refine⟨?_,?_,?_,by simp[ke],by simp[ke,vn];omega⟩
 ·show(zez gr B.Hs perm s).length<=_;omega
 ·show(zcp gr B.H (pmO gr key B l perm rs s) t).length<=_;omega
 show(pmC gr key B l perm rs s t w x a b d f).length<=_;omega
def oK(gr:am)(n:Nat)(p:cH):Bool:=decide (p.cu.length=n)&&(decide (p.aF.length=n)&&(decide (p.Pi.aC.length=n+5)&&(decide (p.Pi.aW.length=1)&&(decide (p.Pi.aD.length=2*n+4)&&(p.cu.all (aK gr)&&(p.aF.all (aK gr)&&(p.Pi.aC.all (aK gr)&&p.Pi.aD.all (di gr))))))))
def iG(a b:Nat):((a:Int)==(b:Int))=decide (a=b):=by by_cases h:a=b<;>simp[h];omega
def zG8{gr:am}(k:ao gr){n:Nat}(hn:n<=1000)(p:cH):GW gr p (n:Int)=J (oK gr n p):=by
 have hq:=k.q;have hp:=k.p;have e1:i64.wrap ((n:Int)+5)=((n+5:Nat):Int):=cL (by omega) (by omega)
 have e2:i64.wrap (i64.wrap (2*(n:Int))+4)=((2*n+4:Nat):Int):=by
  rw[aI (n:=2*(n:Int)) (by omega) (by omega)];exact cL (by omega) (by omega)
 unfold GW;have e3:((p.Pi.aW.length:Int)==1)=decide (p.Pi.aW.length=1):=iG _ 1;rw[e1,e2,iG,iG,iG,iG,e3,B7 k,B7 k,B7 k,yt (by omega) (by omega)];unfold oK;generalize decide (p.cu.length=n)=a1;generalize decide (p.aF.length=n)=a2;generalize decide (p.Pi.aC.length=n+5)=a3;generalize decide (p.Pi.aW.length=1)=a4;generalize decide (p.Pi.aD.length=2*n+4)=a5;generalize p.cu.all (aK gr)=a6;generalize p.aF.all (aK gr)=a7;generalize p.Pi.aC.all (aK gr)=a8;generalize p.Pi.aD.all (di gr)=a9;cases a1<;>cases a2<;>cases a3<;>cases a4<;>cases a5<;>cases a6<;>cases a7<;>cases a8<;>rfl
def zG6{gr:am}(k:ao gr){n:Nat}(hn:n<=1000)(p:cH):Ke gr (n:Int) p=J (oK gr n p):=by
 have hq:=k.q;have hp:=k.p;have e1:i64.wrap ((n:Int)+5)=((n+5:Nat):Int):=cL (by omega) (by omega)
 have e2:i64.wrap (i64.wrap (2*(n:Int))+4)=((2*n+4:Nat):Int):=by
  rw[aI (n:=2*(n:Int)) (by omega) (by omega)];exact cL (by omega) (by omega)
 unfold Ke;have e3:((p.Pi.aW.length:Int)==1)=decide (p.Pi.aW.length=1):=iG _ 1;rw[e1,e2,iG,iG,iG,iG,e3,yk k,yk k,yk k,zq (by omega) (by omega)];unfold oK;generalize decide (p.cu.length=n)=a1;generalize decide (p.aF.length=n)=a2;generalize decide (p.Pi.aC.length=n+5)=a3;generalize decide (p.Pi.aW.length=1)=a4;generalize decide (p.Pi.aD.length=2*n+4)=a5;generalize p.cu.all (aK gr)=a6;generalize p.aF.all (aK gr)=a7;generalize p.Pi.aC.all (aK gr)=a8;generalize p.Pi.aD.all (di gr)=a9;cases a1<;>cases a2<;>cases a3<;>cases a4<;>cases a5<;>cases a6<;>cases a7<;>cases a8<;>rfl
def alN(q:Int)(e:List Int):Nat->Int
 |0=>1
 |i+1=>(alN q e i*e.getD i 0)%q
theorem L5{q:Int}(hq:1<q)(e:List Int):∀i,E9 q (alN q e i)
 |0=>⟨by show(0:Int)<=1;omega,hq⟩
 |i+1=>gf (by omega) _
def uw{q a b:Int}(hq:q<=2000000000)(ha:E9 q a)(hb:E9 q b):i64.wrap (a*b)=a*b/\(i64.wrap (a*b)).tmod q=(a*b)%q:=by
 have h1:0<=a*b:=sK ha.1 hb.1;have h2:a*b<=2000000000*2000000000:=wh (by have:=ha.2;omega) (by have:=hb.2;omega) hb.1 (by omega);rw[aI (n:=a*b) (by omega) (by omega)];exact⟨rfl,je h1⟩
def zyR{gr:am}(k:ao gr){e:List Int}(he:∀z∈e,E9 gr.Q z):aS (σ:=Int) (λfL bW=>
 (ix e fL).bind λig=>
 (eU gr (i64.wrap (bW*ig))).bind λnO=>
 J (.go nO)) (λbW=>bW) e.length 0 1=J (alN gr.Q e e.length):=by
 have hp:=k.p;have hq:=k.q;refine bE (ec (λi y=>y=alN gr.Q e i) rfl ?_ λy h=>h);rintro i y hi rfl;refine bD hi (ag (lv k _) (aj ?_));rw[(uw (q:=gr.Q) (by omega) (L5 (by omega) _ _) (iE he hi)).1];show _=(alN gr.Q e i*e.getD i 0)%gr.Q;rw[bU hi]
def zzB{gr:am}(k:ao gr){e:List Int}(he:∀z∈e,E9 gr.Q z):aS (σ:=Int) (λi16 sk=>
 (ix e i16).bind λLc=>
 gd (gr.Q≠0)<|
 J (.go ((i64.wrap (sk*Lc)).tmod gr.Q))) (λsk=>sk) e.length 0 1=J (alN gr.Q e e.length):=by
 have hp:=k.p;have hq:=k.q;refine bE (ec (λi y=>y=alN gr.Q e i) rfl ?_ λy h=>h);rintro i y hi rfl;refine bD hi (aG (by omega) (aj ?_));rw[(uw (q:=gr.Q) (by omega) (L5 (by omega) _ _) (iE he hi)).2];show _=(alN gr.Q e i*e.getD i 0)%gr.Q;rw[bU hi]
def We{gr:am}(k:ao gr){x:Int}(h:aK gr x=Z){s:Int}(hs:0<=s):av gr (av gr x s) (-1)=av gr x (0-s):=by
 have hq:=k.q;have e1:(-1:Int)%gr.Q=(gr.Q-1)%gr.Q:=by rw[show gr.Q-1=-1+gr.Q by omega,Ux]
 have h1:av gr (av gr x s) (-1)=av gr (av gr x s) (gr.Q-1):=VV _ e1;rw[h1,Yo k h hs (by omega)];refine VV _ ?_;rw[show s*(gr.Q-1)=(0-s)+gr.Q*s by grind,GE]
def bef(h:Int)(ch:List Int)(i:Nat):Int:=([h]++ch).getD i 0
def EH{gr:am}(k:ao gr){h:Int}(hh:aK gr h=Z){ch:List Int}(hc:∀z∈ch,aK gr z=Z)(i:Nat)(hi:i<=ch.length):ix ([h]++ch) (i:Int)=J (bef h ch i)/\R9 (bef h ch i):=by
 have hl:i<([h]++ch).length:=by simp;omega
 unfold bef;rw[jt hl,bU hl];refine⟨rfl,dT k ?_⟩;rcases jY.1 (e9 hl)with h1|h1
 ·rw[gB]at h1;rw[h1];exact hh
 exact hc _ h1
section
attribute [local irreducible] chG ziD zdR zaO alN sdV
def wvL(key:Int)(l out:List an)(p:cH):List Int:=zdR key l out p.cu
def wvE(gr:am)(key:Int)(l out:List an)(p:cH):List Int:=ziD gr JT (wvL key l out p) l.length
def wvZ(gr:am)(key:Int)(l out:List an)(p:cH):Int:=chG gr Bd (wvL key l out p++p.aF++p.Pi.aC)
def Ki(gr:am)(B:cr)(l:List an)(e fS:List Int)(last al:Int):List Int:=[aP gr [aP gr fS,av gr (aP gr B.Hs) (-1)],zaO gr fS e 1,aP gr [last,av gr B.H (0-al)],zaO gr (sdV l).1 e 1,zaO gr (sdV l).2 e 1]
def Dy(gr:am)(key:Int)(B:cr)(out:List an)(x r:List Int):List Int:=[av gr gr.G (r.getD 0 0),aP gr [av gr gr.G (r.getD 1 0),zaO gr B.Hs x 1],av gr gr.G (r.getD 2 0),aP gr [av gr gr.G (i64.wrap (0-r.getD 3 0)),zaO gr (sdV out).1 x 1],aP gr [av gr key (i64.wrap (0-r.getD 3 0)),zaO gr (sdV out).2 x 1]]
def zjL(gr:am)(h:Int)(ch x r:List Int)(i:Nat):Int:=aP gr [av gr gr.G (r.getD (4+i) 0),av gr (bef h ch i) (x.getD i 0)]
def hlB(gr:am)(z c b d:Int):Bool:=aP gr [c,av gr b z]==d
def pC(gr:am)(z:Int)(c left right:List Int)(i:Nat):Bool:=hlB gr z (c.getD i 0) (left.getD i 0) (right.getD i 0)
def mp(gr:am)(B:cr)(l:List an)(e:List Int)(p:cH):List Int:=Ki gr B l e p.cu (p.aF.getD (l.length-1) 0) (alN gr.Q e e.length)++p.aF
def m8(gr:am)(key:Int)(B:cr)(n:Nat)(out:List an)(p:cH):List Int:=Dy gr key B out (p.Pi.aD.drop (n+4)) p.Pi.aD++(List.range n).map (zjL gr B.H p.aF (p.Pi.aD.drop (n+4)) p.Pi.aD)
def tB(gr:am)(key:Int)(B:cr)(l out:List an)(p:cH):Bool:=
 decide (out.length=l.length)&&(oK gr l.length p&&((p.Pi.aW.getD 0 0==wvZ gr key l out p)&&(List.range (5+l.length)).all (pC gr (wvZ gr key l out p) p.Pi.aC (mp gr B l (wvE gr key l out p) p) (m8 gr key B l.length out p))))
structure lN (gr:am) (key:Int) (B:cr) (l out:List an) (p:cH):Prop where
 key:aK gr key=Z
 n:1<=l.length/\l.length<=12
 lc:∀c∈l,b8 gr c=Z
 oc:∀c∈out,b8 gr c=Z
 ol:out.length=l.length
 bs:tU gr l.length B
 fS:p.cu.length=l.length/\∀z∈p.cu,aK gr z=Z
 me:p.aF.length=l.length/\∀z∈p.aF,aK gr z=Z
 oM:p.Pi.aC.length=l.length+5/\∀z∈p.Pi.aC,aK gr z=Z
 cO:p.Pi.aW.length=1
 ZN:p.Pi.aD.length=2*l.length+4/\∀z∈p.Pi.aD,E9 gr.Q z
section
variable {gr:am}{key:Int}{B:cr}{l out:List an}{p:cH}
def lN.len(V:lN gr key B l out p):(wvL key l out p).length=1+5*l.length:=by
 have h1:=V.fS.1;have h2:=V.ol;unfold wvL;rw[FJ,h1];omega
def lN.y7(k:ao gr)(V:lN gr key B l out p):(wvL key l out p).all cC=Z:=FO k V.key V.lc V.oc (oF k (bm.2 V.fS.2))
def lN.T6(V:lN gr key B l out p):qq key l out p.cu=J (wvL key l out p)/\rD key l out p.cu=J (wvL key l out p):=by
 have hn:=V.n;have h1:=V.fS.1;have h2:=V.ol;exact⟨DD (by omega) (by omega) (by omega),zB (by omega) (by omega) (by omega)⟩
def lN.VU(k:ao gr)(V:lN gr key B l out p):yJ gr JT (wvL key l out p) (l.length:Int)=J (wvE gr key l out p,Z)/\yI gr key l out p.cu=J (wvE gr key l out p):=by
 have hn:=V.n;refine⟨XH k (by decide) (by rw[V.len];omega) (V.y7 k) (by omega) (by omega),?_⟩;unfold yI;exact bE (ag V.T6.2 (ag (YN k (by decide) (by rw[V.len];omega) (V.y7 k) (by omega)) (aj rfl)))
def lN.e(k:ao gr)(V:lN gr key B l out p):(wvE gr key l out p).length=l.length/\∀z∈wvE gr key l out p,E9 gr.Q z:=YO k _ _ _
def lN.FY(k:ao gr)(V:lN gr key B l out p):(wvL key l out p++p.aF++p.Pi.aC).length=6+7*l.length/\(wvL key l out p++p.aF++p.Pi.aC).all cC=Z:=by
 have h1:=V.len;have h2:=V.me.1;have h3:=V.oM.1;refine⟨by rw[bP,bP,h1,h2,h3];omega,?_⟩;rw[kq,kq,V.y7 k,oF k (bm.2 V.me.2),oF k (bm.2 V.oM.2)];rfl
def lN.cat(k:ao gr)(V:lN gr key B l out p):pS [wvL key l out p,p.aF,p.Pi.aC]=J (wvL key l out p++p.aF++p.Pi.aC):=by
 have hfl:[wvL key l out p,p.aF,p.Pi.aC].flatten=wvL key l out p++p.aF++p.Pi.aC:=by simp
 have h:=V.FY k;have hn:=V.n;rw[Dr _ (by rw[hfl];omega),hfl]
def lN.a00(k:ao gr)(V:lN gr key B l out p):ml gr Bd (wvL key l out p++p.aF++p.Pi.aC)=J (wvZ gr key l out p,Z):=by
 have h:=V.FY k;have hn:=V.n;rw[K3 k _ (by omega),aB (K7 k (by decide) (by rw[show Bd.size=9 from rfl];omega) h.2)];rfl
def lN.a1E(k:ao gr)(V:lN gr key B l out p):Ar gr key l out p=J (wvZ gr key l out p):=by
 have h:=V.FY k;have hn:=V.n;have h1:=V.len;have h2:=V.me.1;have h3:=V.oM.1;unfold Ar;exact bE (ag V.T6.2 (aG (by rw[h1,h2];omega) (aG (by rw[bP,h1,h2,h3];omega) (ag (L4 k (by decide) (by omega) h.2) (aj rfl)))))
def To(hk:aK gr key=Z)(hn:1<=l.length/\l.length<=12)(lc:∀c∈l,b8 gr c=Z)(oc:∀c∈out,b8 gr c=Z)(hb:tU gr l.length B)(ho:out.length=l.length)(hs:oK gr l.length p=Z):lN gr key B l out p:=by
 simp only[oK,bI,eC]at hs;obtain⟨a1,a2,a3,a4,a5,a6,a7,a8,a9⟩:=hs;exact⟨hk,hn,lc,oc,ho,hb,⟨a1,bm.1 a6⟩,⟨a2,bm.1 a7⟩,⟨a3,bm.1 a8⟩,a4,⟨a5,zp a9⟩⟩
def Fu(k:ao gr){x y w z:Int}(hx:R9 x)(hy:R9 y):te x y w gr.P gr.Q gr.G z=J (hlB gr z x y w):=by
 unfold te;show(cQ gr y z).bind _=_;rw[fa k hy,aR];show(eg gr _).bind _=_;rw[jG k hx (bJ k _ _),aR];rfl
def zyj(k:ao gr){h z:Int}(hh:aK gr h=Z){ch c x r:List Int}{n:Nat}(hc:c.length=n+5/\∀z∈c,aK gr z=Z)(CC:ch.length=n/\∀z∈ch,aK gr z=Z)(hx:x.length=n)(hr:r.length=2*n+4)(hn:n<=100)(b:Bool):aS (σ:=Bool) (λIn SX=>
 ((if SX=Z then(
 (ix c (i64.wrap (5+In))).bind λmA=>
 (ix ch In).bind λiR=>
 (ix r (i64.wrap (4+In))).bind λjz=>
 (ix ([h]++ch) In).bind λxv=>
 (ix x In).bind λxe=>
 (cQ gr gr.G jz).bind λz96=>
 (cQ gr xv xe).bind λz97=>
 (eg gr [z96,z97]).bind λRQ=>
 (te mA iR RQ gr.P gr.Q gr.G z).bind λSu=>
 J Su)else(
 J aa):Option Bool).bind λyi=>
 J (.go yi))) (λSX=>SX) n 0 b=J (b&&(List.range n).all λi=>hlB gr z (c.getD (5+i) 0) (ch.getD i 0) (zjL gr h ch x r i)):=by
 refine bE (ec (λi y=>y=(b&&(List.range i).all λi=>hlB gr z (c.getD (5+i) 0) (ch.getD i 0) (zjL gr h ch x r i))) (by simp) ?_ λy h=>h);rintro i y hi hy;have h5:5+i<c.length:=by omega
 have h4:4+i<r.length:=by omega
 have HL:i<ch.length:=by omega
 have Ca:i<x.length:=by omega
 have hb:=EH k hh CC.2 i (by omega);refine ay (ψ:=λy'=>y'=(y&&hlB gr z (c.getD (5+i) 0) (ch.getD i 0) (zjL gr h ch x r i))) (aZ (λg=>?_) λg=>aj (by rw[g];rfl)) λy' ie=>aj ?_
 ·rw[show i64.wrap (5+(i:Int))=((5+i:Nat):Int)from cL (by omega) (by omega),show i64.wrap (4+(i:Int))=((4+i:Nat):Int)from cL (by omega) (by omega)];refine bD h5 (bD HL (bD h4 (ag hb.1 (bD Ca (ag (fa k (fF k) _) (ag (fa k hb.2 _) (ag (jG k (bJ k _ _) (bJ k _ _)) (ag (Fu k (dT k (iE hc.2 h5)) (dT k (iE CC.2 HL))) (aj ?_)))))))));rw[g,gV,bU h5,bU HL];unfold zjL;rw[bU h4,bU Ca]
 show y'=_;rw[ie,hy,mO,kq];simp[KJ]
def zxE(p:Nat->Bool)(n:Nat):(List.range (5+n)).all p=((p 0&&(p 1&&(p 2&&(p 3&&p 4))))&&(List.range n).all λi=>p (5+i)):=by
 rw[a0p,kq,Uq]
 have:(List.range 5).all p=(p 0&&(p 1&&(p 2&&(p 3&&p 4)))):=by
  show(p 0&&(p 1&&(p 2&&(p 3&&(p 4&&Z)))))=_;rw[A3]
 rw[this];rfl
end
attribute [local irreducible] wvL wvE wvZ hlB zjL bef
section
variable {gr:am}{key:Int}{B:cr}{l out:List an}{p:cH}
set_option maxHeartbeats 4000000 in
def XI(k:ao gr)(hk:aK gr key=Z)(hn:1<=l.length/\l.length<=12)(lc:∀c∈l,b8 gr c=Z)(oc:∀c∈out,b8 gr c=Z)(hb:tU gr l.length B):EI gr B key l out p=J (tB gr key B l out p):=by
 have hp:=k.p;have hq:=k.q;unfold EI;refine bE (ay (ψ:=(· = !(decide (out.length=l.length)&&oK gr l.length p))) ?_ ?_)
 ·rw[show((out.length:Int) !=(l.length:Int))= !decide (out.length=l.length)by rw[bne,iG]];refine aZ (λg=>aj ?_) λg=>ag (zG8 k (by omega) p) (aj ?_)
  ·have:decide (out.length=l.length)=aa:=by simpa using g
   rw[this];rfl
  have:decide (out.length=l.length)=Z:=by simpa using g
  rw[this];rfl
 rintro b rfl;refine aZ (λg=>aj ?_) λg=>?_
 ·rw[qd]at g;unfold tB;rw[<-KJ,g];rfl
 have g:(decide (out.length=l.length)&&oK gr l.length p)=Z:=by simpa using g
 obtain⟨g1,g2⟩:=A4.1 g;have V:=To (p:=p) hk hn lc oc hb (wg g1) g2;have hv:tB gr key B l out p=((p.Pi.aW.getD 0 0==wvZ gr key l out p)&&(List.range (5+l.length)).all (pC gr (wvZ gr key l out p) p.Pi.aC (mp gr B l (wvE gr key l out p) p) (m8 gr key B l.length out p))):=by unfold tB;rw[g1,g2];rfl
 rw[hv];obtain⟨rB,zZ⟩:=V.e k;have kh:0<p.Pi.aW.length:=by rw[V.cO];omega
 refine ag V.T6.1 (ag (V.VU k).1 (ag (V.cat k) (ag (V.a00 k) (ay (ψ:=(· =(p.Pi.aW.getD 0 0 !=wvZ gr key l out p))) (bt rfl (bt rfl (bD (k:=0) kh (aj (by rw[bU kh]))))) ?_))));rintro b rfl;refine aZ (λg=>aj ?_) λg=>?_
 ·rw[bne,qd]at g;rw[g];rfl
 rw[bne,Bool.not_eq_false']at g;rw[g,gV];have w4:i64.wrap ((l.length:Int)+4)=((l.length+4:Nat):Int):=cL (by omega) (by omega);have w1:i64.wrap ((l.length:Int)-1)=((l.length-1:Nat):Int):=cL (by omega) (by omega);have zx:(p.Pi.aD.take p.Pi.aD.length).drop (l.length+4)=p.Pi.aD.drop (l.length+4):=by rw[f6]
 have fj:=V.ZN.1;have g9:(p.Pi.aD.drop (l.length+4)).length=l.length:=by rw[OJ,fj];omega
 rw[w4,w1,dG,zx];generalize hX:p.Pi.aD.drop (l.length+4)=x at g9;refine aG (by omega) (aG (by omega) (ag (zyR k zZ) (ag (rE (by omega)).1 (ag (rE (by rw[V.ol];omega)).1 ?_))));have eW:=sA k lc;have lO:=sA k oc;have ry:=mH l;have hol:=mH out;rw[V.ol]at hol;have hH:=dT k hb.h;have hK:=dT k hk;have Cd:=F0 k hb.s;have A9:=F0 k V.fS.2;have Pv:=hb.l;have gQ:=V.fS.1;have a0k:=V.me.1;have C0:∀i,i<5->∃h:i<p.Pi.aC.length,R9 p.Pi.aC[i]:=λi hi=>⟨by rw[V.oM.1];omega,dT k (iE V.oM.2 (by rw[V.oM.1];omega))⟩
 obtain⟨m0,t0⟩:=C0 0 (by omega);obtain⟨m1,t1⟩:=C0 1 (by omega);obtain⟨m2,t2⟩:=C0 2 (by omega);obtain⟨m3,t3⟩:=C0 3 (by omega);obtain⟨m4,t4⟩:=C0 4 (by omega);have r0:0<p.Pi.aD.length:=by omega
 have r1:1<p.Pi.aD.length:=by omega
 have r2:2<p.Pi.aD.length:=by omega
 have r3:3<p.Pi.aD.length:=by omega
 have C5:l.length-1<p.aF.length:=by omega
 have Be:=L5 (show 1<gr.Q by omega) (wvE gr key l out p) (wvE gr key l out p).length;have xi:=dT k (iE V.me.2 C5);have qB:=F6 k Cd;have qC:=F6 k A9
 have f0:pC gr (wvZ gr key l out p) p.Pi.aC (mp gr B l (wvE gr key l out p) p) (m8 gr key B l.length out p) 0=hlB gr (wvZ gr key l out p) p.Pi.aC[0] (aP gr [aP gr p.cu,av gr (aP gr B.Hs) (-1)]) (av gr gr.G p.Pi.aD[0]):=by
  rw[<-bU (d:=0) m0,<-bU (d:=0) r0];rfl
 have f1:pC gr (wvZ gr key l out p) p.Pi.aC (mp gr B l (wvE gr key l out p) p) (m8 gr key B l.length out p) 1=hlB gr (wvZ gr key l out p) p.Pi.aC[1] (zaO gr p.cu (wvE gr key l out p) 1) (aP gr [av gr gr.G p.Pi.aD[1],zaO gr B.Hs x 1]):=by
  rw[<-bU (d:=0) m1,<-bU (d:=0) r1,<-hX];rfl
 have f2:pC gr (wvZ gr key l out p) p.Pi.aC (mp gr B l (wvE gr key l out p) p) (m8 gr key B l.length out p) 2=hlB gr (wvZ gr key l out p) p.Pi.aC[2] (aP gr [p.aF[l.length-1],av gr (av gr B.H (alN gr.Q (wvE gr key l out p) (wvE gr key l out p).length)) (-1)]) (av gr gr.G p.Pi.aD[2]):=by
  rw[We k hb.h Be.1,<-bU (d:=0) m2,<-bU (d:=0) r2,<-bU (d:=0) C5];rfl
 have f3:pC gr (wvZ gr key l out p) p.Pi.aC (mp gr B l (wvE gr key l out p) p) (m8 gr key B l.length out p) 3=hlB gr (wvZ gr key l out p) p.Pi.aC[3] (zaO gr (sdV l).1 (wvE gr key l out p) 1) (aP gr [av gr gr.G (i64.wrap (0-p.Pi.aD[3])),zaO gr (sdV out).1 x 1]):=by
  rw[<-bU (d:=0) m3,<-bU (d:=0) r3,<-hX];rfl
 have f4:pC gr (wvZ gr key l out p) p.Pi.aC (mp gr B l (wvE gr key l out p) p) (m8 gr key B l.length out p) 4=hlB gr (wvZ gr key l out p) p.Pi.aC[4] (zaO gr (sdV l).2 (wvE gr key l out p) 1) (aP gr [av gr key (i64.wrap (0-p.Pi.aD[3])),zaO gr (sdV out).2 x 1]):=by
  rw[<-bU (d:=0) m4,<-bU (d:=0) r3,<-hX];rfl
 have f5:((List.range l.length).all λi=>pC gr (wvZ gr key l out p) p.Pi.aC (mp gr B l (wvE gr key l out p) p) (m8 gr key B l.length out p) (5+i))=(List.range l.length).all λi=>hlB gr (wvZ gr key l out p) (p.Pi.aC.getD (5+i) 0) (p.aF.getD i 0) (zjL gr B.H p.aF x p.Pi.aD i):=by
  rw[UJ,bm,bm];refine forall_congr' λi=>forall_congr' λhi=>?_
  have hi:=kp.1 hi
  have a1:(mp gr B l (wvE gr key l out p) p).getD (5+i) 0=p.aF.getD i 0:=by
   unfold mp;rw[nw,fT (by simp[Ki]),nw];congr 2;simp[Ki]
  have a2:(m8 gr key B l.length out p).getD (5+i) 0=zjL gr B.H p.aF x p.Pi.aD i:=by
   unfold m8;rw[nw,fT (by simp[Dy]),hX];have:5+i-(Dy gr key B out x p.Pi.aD).length=i:=by simp[Dy]
   rw[this];simp[hi]
  unfold pC;rw[a1,a2]
 rw[zxE,f0,f1,f2,f3,f4,f5];have p0:=Re k (b:=aP gr p.cu) (x:=aP gr B.Hs) qC.1 qC.2 qB.1 qB.2;have p2:=Re k (b:=p.aF[l.length-1]) (x:=av gr B.H (alN gr.Q (wvE gr key l out p) (wvE gr key l out p).length)) xi.1 xi.2 (bJ k _ _).1 (bJ k _ _).2;have u1:=oR k (m:=wvE gr key l out p) A9 (by omega);have u2:=oR k (m:=x) Cd (by omega);have u3:=oR k (m:=wvE gr key l out p) eW.1 (by omega);have u4:=oR k (m:=wvE gr key l out p) eW.2 (by omega);have u5:=oR k (m:=x) lO.1 (by omega);have u6:=oR k (m:=x) lO.2 (by omega);have mm:=λa b ha hb=>jG k (x:=a) (y:=b) ha hb
 generalize xN:hlB gr (wvZ gr key l out p) p.Pi.aC[0] (aP gr [aP gr p.cu,av gr (aP gr B.Hs) (-1)]) (av gr gr.G p.Pi.aD[0])=b0;generalize eJ:hlB gr (wvZ gr key l out p) p.Pi.aC[1] (zaO gr p.cu (wvE gr key l out p) 1) (aP gr [av gr gr.G p.Pi.aD[1],zaO gr B.Hs x 1])=b1;generalize fX:hlB gr (wvZ gr key l out p) p.Pi.aC[2] (aP gr [p.aF[l.length-1],av gr (av gr B.H (alN gr.Q (wvE gr key l out p) (wvE gr key l out p).length)) (-1)]) (av gr gr.G p.Pi.aD[2])=b2;generalize rS:hlB gr (wvZ gr key l out p) p.Pi.aC[3] (zaO gr (sdV l).1 (wvE gr key l out p) 1) (aP gr [av gr gr.G (i64.wrap (0-p.Pi.aD[3])),zaO gr (sdV out).1 x 1])=b3;generalize tN:hlB gr (wvZ gr key l out p) p.Pi.aC[4] (zaO gr (sdV l).2 (wvE gr key l out p) 1) (aP gr [av gr key (i64.wrap (0-p.Pi.aD[3])),zaO gr (sdV out).2 x 1])=b4;refine ay (ψ:=(· =(b0&&(b1&&(b2&&(b3&&b4)))))) ?_ ?_
 ·refine bD (k:=0) m0 (bD (k:=0) r0 (ag (AK k A9) (ag (AK k Cd) (ag p0 (ag (fa k (fF k) _) (ag ((Fu k t0 (nF k qC (bJ k _ _))).trans (gn J xN)) (aZ (λg=>?_) λg=>aj (by rw[g];rfl))))))));rw[g,gV];refine bD (k:=1) m1 (bD (k:=1) r1 (ag u1 (ag (fa k (fF k) _) (ag u2 (ag (jG k (bJ k _ _) (fE k _ _)) (ag ((Fu k t1 (fE k _ _)).trans (gn J eJ)) (aZ (λg=>?_) λg=>aj (by rw[g];rfl))))))));rw[g,gV];refine bD (k:=2) m2 (bD C5 (bD (k:=2) r2 (ag (fa k hH _) (ag p2 (ag (fa k (fF k) _) (ag ((Fu k t2 (nF k xi (bJ k _ _))).trans (gn J fX)) (aZ (λg=>?_) λg=>aj (by rw[g];rfl))))))));rw[g,gV];refine bD (k:=3) m3 (bD (k:=3) r3 (ag u3 (ag (fa k (fF k) _) (ag u5 (ag (jG k (bJ k _ _) (fE k _ _)) (ag ((Fu k t3 (fE k _ _)).trans (gn J rS)) (aZ (λg=>?_) λg=>aj (by rw[g];rfl))))))));rw[g,gV];exact bD (k:=4) m4 (ag u4 (ag (fa k hK _) (ag u6 (ag (jG k (bJ k _ _) (fE k _ _)) (ag ((Fu k t4 (fE k _ _)).trans (gn J tN)) (aj rfl))))))
 rintro b rfl;exact aG (by simp only[dX,ia];omega) (ag rfl (ag (zyj k hb.h V.oM V.me g9 fj (by omega) _) (aj rfl)))
end
end
end Go.Pm
