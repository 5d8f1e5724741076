/-
  FnPolyProofs: plain laws.
  No condition.
-/
import Derived.Test.YthafgjhkjgcdeaaGreatM31b
import Derived.Test.YthafgjhkjgcdeaaGreatPmZ
namespace Go.Pm
open Go.Am
set_option linter.unusedVariables false
set_option linter.unusedSimpArgs false
theorem zes (a b c:Int):zbe a b c=some (decide (b≤a)&&decide (a≤c)):=by
 unfold zbe
 by_cases h:b≤a<;>simp[h]
theorem zgt (a b c:Int):zck a b c=some (decide (b≤a)&&decide (a≤c)):=by
 unfold zck
 by_cases h:b≤a<;>simp[h]
theorem zmm (a:Int):zeS a=some (decide (2≤a)&&decide (a≤2000000000)):=by
 unfold zeS
 rw[zes];rfl
theorem zc7 (a b:Nat):(a:Int).tmod (b:Int)=((a%b:Nat):Int):=by rw[Int.tmod_eq_emod_of_nonneg (by omega)];exact(Int.natCast_emod _ _).symm
theorem ztK (a b:Nat):(a:Int).tdiv (b:Int)=((a/b:Nat):Int):=by rw[Int.tdiv_eq_ediv_of_nonneg (by omega)];exact(Int.natCast_ediv _ _).symm
theorem zgs (a b:Nat):(a:Int)*(b:Int)=((a*b:Nat):Int):=(Int.natCast_mul _ _).symm
theorem zxj {e:Nat}(he:e≤9223372036854775807):IntKind.i64.wrap (BitVec.ofInt IntKind.i64.bits (e:Int)&&&BitVec.ofInt IntKind.i64.bits 1).toNat=((e%2:Nat):Int):=by
 have h1:(BitVec.ofInt IntKind.i64.bits (e:Int)&&&BitVec.ofInt IntKind.i64.bits 1).toNat=e%2:=by
  rw[BitVec.toNat_and]
  have a1:(BitVec.ofInt IntKind.i64.bits (e:Int)).toNat=e:=by
   rw[BitVec.toNat_ofInt]
   have:IntKind.i64.bits=64:=rfl
   rw[this]
   omega
  have a2:(BitVec.ofInt IntKind.i64.bits 1).toNat=1:=by decide
  rw[a1,a2,Nat.and_one_is_mod]
 rw[h1,zaj (by omega) (by omega)]
theorem zxn {a e m:Nat}(ha:a≤2000000000) (hm:1≤m) (hm2:m≤2000000000) (he:e≤9223372036854775807):zbE (a:Int) (e:Int) (m:Int)=some ((a^e%m:Nat):Int):=by
 unfold zbE
 refine zaB (zah (by omega) (zaf (φ:=(· =((a^e%m:Nat):Int))) (zeO (φ:=(· =((a^e%m:Nat):Int))) (fun s=>∃x y o:Nat,s=((x:Int),(y:Int),(o:Int))∧x≤2000000000∧y≤e∧o<m∧o*x^y%m=a^e%m) (fun s=>s.2.1.toNat)
  ⟨a,e,1%m,by rw[show(1:Int)=((1:Nat):Int)from rfl,zc7],ha,Nat.le_refl _,Nat.mod_lt _ (by omega),by rw[Nat.mod_mul_mod,Nat.one_mul]⟩ ?_) fun x hx=>zac hx))
 rintro s ⟨x,y,o,rfl,hx,hy,ho,hi⟩
 refine zal (fun h0=>?_) fun h0=>?_
 ·have h0:0<y:=by simpa using h0
  have hox:o*x≤4000000000000000000:=Nat.le_trans (Nat.mul_le_mul (show o≤2000000000 by omega) hx) (by decide)
  have hxx:x*x≤4000000000000000000:=Nat.le_trans (Nat.mul_le_mul hx hx) (by decide)
  refine zaf (ψ:=fun o'=>∃k:Nat,o'=(k:Int)∧k<m∧k*(x*x)^(y/2)%m=a^e%m) ?_ ?_
  ·simp only[zxj (show y≤9223372036854775807 by omega)]
   refine zal (fun h1=>zah (by omega) (zac ⟨o*x%m,?_,Nat.mod_lt _ (by omega),?_⟩)) fun h1=>zac ⟨o,rfl,ho,?_⟩
   ·rw[zgs,zaj (by omega) (by omega),zc7]
   ·have h1:y%2=1:=by
     have:((y%2:Nat):Int)=1:=by simpa using h1
     omega
    rw[Nat.mod_mul_mod,←hi,←Nat.pow_two,←Nat.pow_mul,Nat.mul_assoc,←Nat.pow_succ']
    congr 3;omega
   have h1:y%2=0:=by
    have:¬((y%2:Nat):Int)=1:=by simpa using h1
    omega
   rw[←hi,←Nat.pow_two,←Nat.pow_mul]
   congr 3;omega
  rintro o' ⟨k,rfl,hk,hk2⟩
  refine zah (by omega) (zac ⟨⟨x*x%m,y/2,k,?_,by have:=Nat.mod_lt (x*x) (show 0<m by omega);omega,by omega,hk,?_⟩,?_⟩)
  ·rw[zgs,zaj (by omega) (by omega),zc7]
   have e3:(y:Int).fdiv 2=((y/2:Nat):Int):=by rw[Int.fdiv_eq_ediv_of_nonneg _ (by omega)];rfl
   show(_,(y:Int).fdiv 2,_)=_
   rw[e3]
  ·rw[Nat.mul_mod,←Nat.pow_mod,←Nat.mul_mod]
   exact hk2
  show((y:Int).fdiv 2).toNat<(y:Int).toNat
  rw[Int.fdiv_eq_ediv_of_nonneg _ (by omega)]
  omega
 have h0:y=0:=by
  have:¬(0<y):=by simpa using h0
  omega
 subst h0
 refine zac ?_
 show(o:Int)=_
 rw[Nat.pow_zero,Nat.mul_one,Nat.mod_eq_of_lt ho]at hi
 rw[hi]
theorem zvW {a e m:Nat}(ha:a≤2000000000) (hm:1≤m) (hm2:m≤2000000000) (he:e≤9223372036854775807):za6 (a:Int) (e:Int) (m:Int)=some ((a^e%m:Nat):Int):=by
 unfold za6
 refine zaB (zah (by omega) (zaf (φ:=(· =((a^e%m:Nat):Int))) (zeO (φ:=(· =((a^e%m:Nat):Int))) (fun s=>∃x y o:Nat,s=((x:Int),(y:Int),(o:Int))∧x≤2000000000∧y≤e∧o<m∧o*x^y%m=a^e%m) (fun s=>s.2.1.toNat)
  ⟨a,e,1%m,by rw[show(1:Int)=((1:Nat):Int)from rfl,zc7],ha,Nat.le_refl _,Nat.mod_lt _ (by omega),by rw[Nat.mod_mul_mod,Nat.one_mul]⟩ ?_) fun x hx=>zac hx))
 rintro s ⟨x,y,o,rfl,hx,hy,ho,hi⟩
 refine zal (fun h0=>?_) fun h0=>?_
 ·have h0:0<y:=by simpa using h0
  have hox:o*x≤4000000000000000000:=Nat.le_trans (Nat.mul_le_mul (show o≤2000000000 by omega) hx) (by decide)
  have hxx:x*x≤4000000000000000000:=Nat.le_trans (Nat.mul_le_mul hx hx) (by decide)
  have e2:(y:Int).tmod 2=((y%2:Nat):Int):=zc7 y 2
  refine zaf (ψ:=fun o'=>∃k:Nat,o'=(k:Int)∧k<m∧k*(x*x)^(y/2)%m=a^e%m) ?_ ?_
  ·simp only[e2]
   refine zal (fun h1=>zah (by omega) (zac ⟨o*x%m,?_,Nat.mod_lt _ (by omega),?_⟩)) fun h1=>zac ⟨o,rfl,ho,?_⟩
   ·rw[zgs,zaj (by omega) (by omega),zc7]
   ·have h1:y%2=1:=by
     have:((y%2:Nat):Int)=1:=by simpa using h1
     omega
    rw[Nat.mod_mul_mod,←hi,←Nat.pow_two,←Nat.pow_mul,Nat.mul_assoc,←Nat.pow_succ']
    congr 3;omega
   have h1:y%2=0:=by
    have:¬((y%2:Nat):Int)=1:=by simpa using h1
    omega
   rw[←hi,←Nat.pow_two,←Nat.pow_mul]
   congr 3;omega
  rintro o' ⟨k,rfl,hk,hk2⟩
  have e3:(y:Int).tdiv 2=((y/2:Nat):Int):=ztK y 2
  refine zah (by omega) (zac ⟨⟨x*x%m,y/2,k,?_,by have:=Nat.mod_lt (x*x) (show 0<m by omega);omega,by omega,hk,?_⟩,?_⟩)
  ·simp only[e3]
   rw[zgs,zaj (n:=((x*x:Nat):Int)) (by omega) (by omega),zc7,zaj (n:=((y/2:Nat):Int)) (by omega) (by omega)]
  ·rw[Nat.mul_mod,←Nat.pow_mod,←Nat.mul_mod]
   exact hk2
  show(IntKind.i64.wrap ((y:Int).tdiv 2)).toNat<(y:Int).toNat
  rw[e3,zaj (by omega) (by omega)]
  omega
 have h0:y=0:=by
  have:¬(0<y):=by simpa using h0
  omega
 subst h0
 refine zac ?_
 show(o:Int)=_
 rw[Nat.pow_zero,Nat.mul_one,Nat.mod_eq_of_lt ho]at hi
 rw[hi]
theorem ztq {a q:Int}(h0:0<q) (h1:q≤2000000000):ze6 a q=some (a%q):=by
 unfold ze6
 rw[zeB (by omega),zeB (by omega)]
 have b1:a.tmod q<q:=Int.tmod_lt_of_pos a h0
 have b2: -q<a.tmod q:=by
  have:=Int.lt_tmod_of_pos a h0
  omega
 rw[zaj (by omega) (by omega),Int.tmod_eq_emod_of_nonneg (by omega)]
 congr 1
 rw[Int.add_emod_right]
 rw[Int.tmod_def,Int.sub_emod,Int.mul_emod_right,Int.sub_zero,Int.emod_emod]
theorem zi9 {a q:Int}(h0:0<q) (h1:q≤2000000000):zcu a q=some (a%q):=by
 unfold zcu
 rw[zeB (by omega),zeB (by omega)]
 have b1:a.tmod q<q:=Int.tmod_lt_of_pos a h0
 have b2: -q<a.tmod q:=by
  have:=Int.lt_tmod_of_pos a h0
  omega
 rw[zaj (by omega) (by omega),Int.tmod_eq_emod_of_nonneg (by omega)]
 congr 1
 rw[Int.add_emod_right]
 rw[Int.tmod_def,Int.sub_emod,Int.mul_emod_right,Int.sub_zero,Int.emod_emod]
def Pr (n:Nat):Prop:=2≤n∧∀d,2≤d→d*d≤n→n%d≠0
open Classical in
noncomputable def prB (n:Int):Bool:=decide (Pr n.toNat)
theorem zeU {n:Nat}:prB (n:Int)=true↔Pr n:=by simp[prB]
theorem zhW (n:Int) (h:n≤2000000000):zdY n=some (prB n):=by
 unfold zdY
 refine zaB (zal (fun h0=>zac ?_) fun h0=>?_)
 ·have h0:n<2:=by simpa using h0
  symm
  unfold prB
  rw[decide_eq_false_iff_not]
  intro hp
  have:=hp.1
  omega
 have h0:¬n<2:=by simpa using h0
 obtain⟨n,rfl⟩:=Int.eq_ofNat_of_zero_le (show 0≤n by omega)
 refine zaf (ψ:=fun b=>(b=.inl ()∧Pr n)∨(b=.inr false∧¬Pr n)) (zeO (fun s=>∃d:Nat,s=(d:Int)∧2≤d∧d≤44723∧∀k,2≤k→k<d→k*k≤n→n%k≠0) (fun s=>50000-s.toNat) ⟨2,rfl,by omega,by omega,fun k h1 h2=>by omega⟩ ?_) ?_
 ·rintro s ⟨d,rfl,hd,hd2,hi⟩
  have hdd:d*d≤2000146729:=Nat.le_trans (Nat.mul_le_mul hd2 hd2) (by decide)
  rw[zgs,zaj (by omega) (by omega)]
  refine zal (fun h1=>zah (by omega) (zal (fun h2=>zac (.inr ⟨rfl,?_⟩)) fun h2=>zac ?_)) fun h1=>zac (.inl ⟨rfl,by omega,fun k hk hkn=>?_⟩)
  ·have h1:d*d≤n:=by have:=of_decide_eq_true h1;omega
   rw[zc7]at h2
   have h2 : n % d = 0 := by have:((n%d:Nat):Int)=0:=by simpa using h2
                             omega
   exact fun hp=>hp.2 d hd h1 h2
  ·have h1:d*d≤n:=by have:=of_decide_eq_true h1;omega
   rw[zc7]at h2
   have h2 : n % d ≠ 0 := by have:¬((n%d:Nat):Int)=0:=by simpa using h2
                             omega
   have hd3:d≤44722:=by
    rcases Nat.lt_or_ge d 44723 with h|h
    ·omega
    ·have:44723*44723≤d*d:=Nat.mul_le_mul h h
     omega
   rw[zaj (by omega) (by omega)]
   refine⟨⟨d+1,rfl,by omega,by omega,fun k h3 h4 h5=>?_⟩,by omega⟩
   rcases Nat.lt_or_ge k d with h|h
   ·exact hi k h3 h h5
   have:k=d:=by omega
   subst this
   exact h2
  have h1:n<d*d:=by have:=of_decide_eq_false h1;omega
  rcases Nat.lt_or_ge k d with h|h
  ·exact hi k hk h hkn
  have:=Nat.mul_le_mul h h
  omega
 rintro b (⟨rfl,hp⟩|⟨rfl,hp⟩)
 ·exact zac (zeU.2 hp).symm
 refine zac ?_
 symm
 unfold prB
 rw[decide_eq_false_iff_not]
 exact hp
theorem zlg (n:Int):zea n=some (decide (n≤2000000000)&&prB n):=by
 unfold zea
 by_cases h:2≤n∧n≤2000000000
 ·obtain⟨n,rfl⟩:=Int.eq_ofNat_of_zero_le (show 0≤n by omega)
  have e2:((n:Int)).tmod 2=((n%2:Nat):Int):=zc7 n 2
  have em:(decide (2≤(n:Int))&&decide ((n:Int)≤2000000000))=true:=by simp only[Bool.and_eq_true,decide_eq_true_eq];exact h
  rw[show(decide ((n:Int)≤2000000000)&&prB (n:Int))=prB (n:Int)by simp[h.2]]
  refine zaB (zaf (ψ:=fun b=>b=decide (n%2=0∧n≠2)) (zab (zmm _) ?_) ?_)
  ·rw[em]
   refine za9 rfl ?_
   rw[e2]
   refine zal (fun h1=>zac ?_) fun h1=>zac ?_
   ·have h1 : n % 2 = 0 := by have:((n%2:Nat):Int)=0:=by simpa using h1
                              omega
    have:((n:Int) !=2)=decide (n≠2):=by
     by_cases hn:n=2
     ·subst hn;rfl
     ·have hn':¬(n:Int)=2:=by omega
      simp[hn,hn']
    rw[this];simp[h1]
   have h1 : n % 2 ≠ 0 := by have:¬((n%2:Nat):Int)=0:=by simpa using h1
                             omega
   simp[h1]
  rintro b rfl
  refine zal (fun h1=>zac ?_) fun h1=>?_
  ·have h1:=of_decide_eq_true h1
   symm
   unfold prB
   rw[decide_eq_false_iff_not]
   intro hp
   have hn:4≤n:=by omega
   exact hp.2 2 (by omega) hn h1.1
  have h1:=of_decide_eq_false h1
  refine zaf (ψ:=fun b=>(b=.inl ()∧Pr n)∨(b=.inr false∧¬Pr n)) (zeO (fun s=>∃d:Nat,s=(d:Int)∧3≤d∧d%2=1∧d≤44725∧∀k,2≤k→k<d→k*k≤n→n%k≠0) (fun s=>50000-s.toNat) ⟨3,rfl,by omega,by omega,by omega,fun k h2 h3 h4=>?_⟩ ?_) ?_
  ·have:k=2:=by omega
   subst this
   intro h5
   exact h1 ⟨h5,by omega⟩
  ·rintro s ⟨d,rfl,hd,hodd,hd2,hi⟩
   have hdd:d*d≤2000325625:=Nat.le_trans (Nat.mul_le_mul hd2 hd2) (by decide)
   rw[zgs,zaj (by omega) (by omega)]
   refine zal (fun h1=>zah (by omega) (zal (fun h2=>zac (.inr ⟨rfl,?_⟩)) fun h2=>zac ?_)) fun h1=>zac (.inl ⟨rfl,by omega,fun k hk hkn=>?_⟩)
   ·have h1:d*d≤n:=by have:=of_decide_eq_true h1;omega
    rw[zc7]at h2
    have h2 : n % d = 0 := by have:((n%d:Nat):Int)=0:=by simpa using h2
                              omega
    exact fun hp=>hp.2 d (by omega) h1 h2
   ·have h3:d*d≤n:=by have:=of_decide_eq_true h1;omega
    rw[zc7]at h2
    have h2 : n % d ≠ 0 := by have:¬((n%d:Nat):Int)=0:=by simpa using h2
                              omega
    have hd3:d≤44722:=by
     rcases Nat.lt_or_ge d 44723 with h|h
     ·omega
     ·have:44723*44723≤d*d:=Nat.mul_le_mul h h
      omega
    rw[zaj (by omega) (by omega)]
    refine⟨⟨d+2,rfl,by omega,by omega,by omega,fun k h4 h5 h6 h7=>?_⟩,by omega⟩
    rcases Nat.lt_or_ge k d with h|h
    ·exact hi k h4 h h6 h7
    rcases(show k=d∨k=d+1 by omega)with e|e
    ·subst e;exact h2 h7
    have h8:n%2=0:=by
     have a1:k∣n:=Nat.dvd_of_mod_eq_zero h7
     have a2:2∣k:=Nat.dvd_of_mod_eq_zero (by omega)
     exact Nat.mod_eq_zero_of_dvd (Nat.dvd_trans a2 a1)
    have h9:2*2≤n:=by
     have:=Nat.mul_le_mul h4 h4
     omega
    exact hi 2 (by omega) (by omega) h9 h8
   have h1:n<d*d:=by have:=of_decide_eq_false h1;omega
   rcases Nat.lt_or_ge k d with h|h
   ·exact hi k hk h hkn
   have:=Nat.mul_le_mul h h
   omega
  rintro b (⟨rfl,hp⟩|⟨rfl,hp⟩)
  ·exact zac (zeU.2 hp).symm
  refine zac ?_
  symm
  unfold prB
  rw[decide_eq_false_iff_not]
  exact hp
 have em:(decide (2≤n)&&decide (n≤2000000000))=false:=by
  rw[Bool.and_eq_false_iff,decide_eq_false_iff_not,decide_eq_false_iff_not];omega
 rw[zmm,em]
 simp only[Option.bind_some,Bool.not_false,if_true]
 congr 1
 symm
 rw[Bool.and_eq_false_iff,decide_eq_false_iff_not]
 by_cases hn:n≤2000000000
 ·right
  unfold prB
  rw[decide_eq_false_iff_not]
  intro hp
  have:=hp.1
  omega
 exact .inl hn
structure OkG (gr:Group):Prop where
 p:3≤gr.P∧gr.P≤2000000000
 q:2≤gr.Q∧gr.Q≤gr.P-1
 d:(gr.P.toNat-1)%gr.Q.toNat=0
 g:2≤gr.G∧gr.G≤gr.P-1
 pp:Pr gr.P.toNat
 pq:Pr gr.Q.toNat
 o:gr.G.toNat^gr.Q.toNat%gr.P.toNat=1
open Classical in
noncomputable def okG (gr:Group):Bool:=decide (OkG gr)
theorem znl {gr:Group}:okG gr=true↔OkG gr:=by simp[okG]
theorem zfN {gr:Group}(h:¬OkG gr):okG gr=false:=by simp[okG,h]
theorem zuA {gr:Group}{b:Bool}(h1:b=true→OkG gr) (h2:OkG gr→b=true):b=okG gr:=by
 cases hb:b with
 |true=>exact(znl.2 (h1 hb)).symm
 |false=>exact(zfN fun h=>by rw[h2 h]at hb;cases hb).symm
theorem zd9 {a:Int}(h:0≤a):a=((a.toNat:Nat):Int):=by omega
theorem zfk {a e m:Int}(ha:0≤a) (ha2:a≤2000000000) (hm:1≤m) (hm2:m≤2000000000) (he:0≤e) (he2:e≤9223372036854775807):zbE a e m=some ((a.toNat^e.toNat%m.toNat:Nat):Int)∧za6 a e m=some ((a.toNat^e.toNat%m.toNat:Nat):Int):=by
 have h1:=zxn (a:=a.toNat) (e:=e.toNat) (m:=m.toNat) (by omega) (by omega) (by omega) (by omega)
 have h2:=zvW (a:=a.toNat) (e:=e.toNat) (m:=m.toNat) (by omega) (by omega) (by omega) (by omega)
 rw[←zd9 ha,←zd9 he,←zd9 (show 0≤m by omega)]at h1 h2
 exact⟨h1,h2⟩
theorem zju {a b:Bool}:(a&&b)=true↔a=true∧b=true:=by simp
theorem zmW (gr:Group):zdb gr=some (okG gr):=by
 unfold zdb
 refine zaB (zaf (ψ:=fun b=>b=okG gr) ?_ fun b hb=>zac hb)
 refine zab (zes _ _ _) (zal (fun h=>?_) fun h=>?_)
 ·have hp:3≤gr.P∧gr.P≤2000000000:=by simpa using h
  rw[zaj (n:=gr.P-1) (by omega) (by omega)]
  refine zab (zes _ _ _) (zal (fun h=>?_) fun h=>?_)
  ·have hq:2≤gr.Q∧gr.Q≤gr.P-1:=by simpa using h
   have ed:(gr.P-1).tmod gr.Q=(((gr.P.toNat-1)%gr.Q.toNat:Nat):Int):=by
    rw[zd9 (show 0≤gr.P-1 by omega),zd9 (show 0≤gr.Q by omega),zc7]
    simp only[Int.toNat_natCast]
    congr 2;omega
   refine zah (by omega) ?_
   rw[ed]
   refine zal (fun h=>?_) fun h=>?_
   ·have hd:(gr.P.toNat-1)%gr.Q.toNat=0:=by
     have:(((gr.P.toNat-1)%gr.Q.toNat:Nat):Int)=0:=by simpa using h
     omega
    refine zab (zes _ _ _) (zal (fun h=>?_) fun h=>?_)
    ·have hg:2≤gr.G∧gr.G≤gr.P-1:=by simpa using h
     refine zab (zlg _) (zal (fun h=>?_) fun h=>?_)
     ·have hpp:Pr gr.P.toNat:=by
       rw[zju,zd9 (show 0≤gr.P by omega),zeU]at h
       exact h.2
      refine zab (zlg _) (zal (fun h=>?_) fun h=>?_)
      ·have hpq:Pr gr.Q.toNat:=by
        rw[zju,zd9 (show 0≤gr.Q by omega),zeU]at h
        exact h.2
       refine zab (zfk (a:=gr.G) (e:=gr.Q) (m:=gr.P) (by omega) (by omega) (by omega) (by omega) (by omega) (by omega)).1 (zac (zuA (fun h=>⟨hp,hq,hd,hg,hpp,hpq,?_⟩) fun h=>?_))
       ·have:((gr.G.toNat^gr.Q.toNat%gr.P.toNat:Nat):Int)=1:=by simpa using h
        omega
       rw[h.o];rfl
      refine zac (zfN fun hk=>?_).symm
      have:(decide (gr.Q≤2000000000)&&prB gr.Q)=true:=by
       rw[zju,zd9 (show 0≤gr.Q by omega),zeU]
       exact⟨by simp;omega,hk.pq⟩
      rw[this]at h;cases h
     refine zac (zfN fun hk=>?_).symm
     have:(decide (gr.P≤2000000000)&&prB gr.P)=true:=by
      rw[zju,zd9 (show 0≤gr.P by omega),zeU]
      exact⟨by simp;omega,hk.pp⟩
     rw[this]at h;cases h
    refine zac (zfN fun hk=>?_).symm
    have:=hk.g
    simp at h;omega
   refine zac (zfN fun hk=>?_).symm
   rw[hk.d]at h;cases h
  refine zac (zfN fun hk=>?_).symm
  have:=hk.q
  simp at h;omega
 refine zac (zfN fun hk=>?_).symm
 have:=hk.p
 simp at h;omega
theorem zi7 (gr:Group):zdW gr=some (okG gr):=by
 unfold zdW
 refine zaB (zaf (ψ:=fun b=>b=okG gr) ?_ fun b hb=>zac hb)
 refine zab (zgt _ _ _) (zal (fun h=>?_) fun h=>?_)
 ·have hp:3≤gr.P∧gr.P≤2000000000:=by simpa using h
  rw[zaj (n:=gr.P-1) (by omega) (by omega)]
  refine zab (zgt _ _ _) (zal (fun h=>?_) fun h=>?_)
  ·have hq:2≤gr.Q∧gr.Q≤gr.P-1:=by simpa using h
   have ed:(gr.P-1).tmod gr.Q=(((gr.P.toNat-1)%gr.Q.toNat:Nat):Int):=by
    rw[zd9 (show 0≤gr.P-1 by omega),zd9 (show 0≤gr.Q by omega),zc7]
    simp only[Int.toNat_natCast]
    congr 2;omega
   refine zah (by omega) ?_
   rw[ed]
   refine zal (fun h=>?_) fun h=>?_
   ·have hd:(gr.P.toNat-1)%gr.Q.toNat=0:=by
     have:(((gr.P.toNat-1)%gr.Q.toNat:Nat):Int)=0:=by simpa using h
     omega
    refine zab (zgt _ _ _) (zal (fun h=>?_) fun h=>?_)
    ·have hg:2≤gr.G∧gr.G≤gr.P-1:=by simpa using h
     refine zab (zfk (a:=gr.G) (e:=gr.Q) (m:=gr.P) (by omega) (by omega) (by omega) (by omega) (by omega) (by omega)).2 (zal (fun h=>?_) fun h=>?_)
     ·have ho:gr.G.toNat^gr.Q.toNat%gr.P.toNat=1:=by
       have:((gr.G.toNat^gr.Q.toNat%gr.P.toNat:Nat):Int)=1:=by simpa using h
       omega
      refine zab (zhW _ (by omega)) (zal (fun h=>?_) fun h=>?_)
      ·have hpq:Pr gr.Q.toNat:=by
        rw[zd9 (show 0≤gr.Q by omega),zeU]at h
        exact h
       refine zab (zhW _ (by omega)) (zac (zuA (fun h=>⟨hp,hq,hd,hg,?_,hpq,ho⟩) fun h=>?_))
       ·rw[zd9 (show 0≤gr.P by omega),zeU]at h
        exact h
       rw[zd9 (show 0≤gr.P by omega),zeU]
       exact h.pp
      refine zac (zfN fun hk=>?_).symm
      have:prB gr.Q=true:=by
       rw[zd9 (show 0≤gr.Q by omega),zeU]
       exact hk.pq
      rw[this]at h;cases h
     refine zac (zfN fun hk=>?_).symm
     rw[hk.o]at h;cases h
    refine zac (zfN fun hk=>?_).symm
    have:=hk.g
    simp at h;omega
   refine zac (zfN fun hk=>?_).symm
   rw[hk.d]at h;cases h
  refine zac (zfN fun hk=>?_).symm
  have:=hk.q
  simp at h;omega
 refine zac (zfN fun hk=>?_).symm
 have:=hk.p
 simp at h;omega
def zay (gr:Group) (x:Int):Bool:=decide (1≤x)&&decide (x≤gr.P-1)&&decide (x.toNat^gr.Q.toNat%gr.P.toNat=1)
def zet (gr:Group) (x:Int):Bool:=decide (0≤x)&&decide (x≤gr.Q-1)
theorem zpy {gr:Group}(k:OkG gr) (x:Int):zcR gr x=some (zay gr x):=by
 have hp:=k.p
 have hq:=k.q
 unfold zcR zay
 rw[zaj (n:=gr.P-1) (by omega) (by omega),zes]
 refine zaB (zaf (ψ:=fun b=>b=_) ?_ fun b hb=>zac hb)
 refine zab rfl (zal (fun h=>?_) fun h=>?_)
 ·have hx:1≤x∧x≤gr.P-1:=by simpa using h
  refine zab (zfk (a:=x) (e:=gr.Q) (m:=gr.P) (by omega) (by omega) (by omega) (by omega) (by omega) (by omega)).1 (zac ?_)
  rw[h,Bool.true_and]
  by_cases h1:x.toNat^gr.Q.toNat%gr.P.toNat=1
  ·simp[h1]
  have:¬((x.toNat^gr.Q.toNat%gr.P.toNat:Nat):Int)=1:=by omega
  rw[beq_false_of_ne this,decide_eq_false h1]
 rw[h];exact zac rfl
theorem zlJ {gr:Group}(k:OkG gr) (l:List Int):zdL gr l=some (l.all (zay gr)):=by
 have hp:=k.p
 have hq:=k.q
 unfold zdL
 rw[zaj (n:=gr.P-1) (by omega) (by omega)]
 refine zaB (zaf (ψ:=fun b=>(b=.inl ()∧l.all (zay gr)=true)∨(b=.inr false∧l.all (zay gr)=false)) (zci (fun i s=>(l.take i).all (zay gr)=true) rfl ?_ ?_) ?_)
 ·rintro i s hi hI
  refine zb1 hi (zaf (ψ:=fun b=>b= !zay gr l[i]) ?_ ?_)
  ·refine zab (zgt _ _ _) (zal (fun h=>zac ?_) fun h=>?_)
   ·have h:(decide (1≤l[i])&&decide (l[i]≤gr.P-1))=false:=by rwa [Bool.not_eq_true']at h
    simp[zay,h]
   have h:(decide (1≤l[i])&&decide (l[i]≤gr.P-1))=true:=by simpa using h
   have hx:1≤l[i]∧l[i]≤gr.P-1:=by simpa using h
   refine zab (zfk (a:=l[i]) (e:=gr.Q) (m:=gr.P) (by omega) (by omega) (by omega) (by omega) (by omega) (by omega)).2 (zac ?_)
   simp only[zay,h,Bool.true_and]
   by_cases h1:l[i].toNat^gr.Q.toNat%gr.P.toNat=1
   ·simp[h1]
   have:¬((l[i].toNat^gr.Q.toNat%gr.P.toNat:Nat):Int)=1:=by omega
   simp only[bne,beq_false_of_ne this,decide_eq_false h1]
  rintro b rfl
  refine zal (fun h=>zac (.inr ⟨rfl,?_⟩)) fun h=>zac ?_
  ·have h:zay gr l[i]=false:=by simpa using h
   rw[List.all_eq_false]
   exact⟨l[i],List.getElem_mem hi,by simp[h]⟩
  have h:zay gr l[i]=true:=by simpa using h
  show(l.take (i+1)).all (zay gr)=true
  rw[List.take_succ_eq_append_getElem hi,List.all_append,hI]
  simp[h]
 ·rintro s hI
  rw[List.take_length]at hI
  exact .inl ⟨rfl,hI⟩
 rintro b (⟨rfl,h⟩|⟨rfl,h⟩)
 ·exact zac h.symm
 exact zac h.symm
theorem zrO (l:List Int) (a b:Int):zfm l a b=some (l.all fun x=>decide (a≤x)&&decide (x≤b)):=by
 unfold zfm
 refine zaB (zaf (ψ:=fun c=>(c=.inl ()∧(l.all fun x=>decide (a≤x)&&decide (x≤b))=true)∨(c=.inr false∧(l.all fun x=>decide (a≤x)&&decide (x≤b))=false)) (zci (fun i s=>((l.take i).all fun x=>decide (a≤x)&&decide (x≤b))=true) rfl ?_ ?_) ?_)
 ·rintro i s hi hI
  refine zb1 hi (zab (zgt _ _ _) (zal (fun h=>zac (.inr ⟨rfl,?_⟩)) fun h=>zac ?_))
  ·rw[List.all_eq_false]
   exact⟨l[i],List.getElem_mem hi,by rw[Bool.not_eq_true']at h;rw[h];simp⟩
  show((l.take (i+1)).all fun x=>decide (a≤x)&&decide (x≤b))=true
  rw[List.take_succ_eq_append_getElem hi,List.all_append,hI]
  simpa using h
 ·rintro s hI
  rw[List.take_length]at hI
  exact .inl ⟨rfl,hI⟩
 rintro c (⟨rfl,h⟩|⟨rfl,h⟩)
 ·exact zac h.symm
 exact zac h.symm
theorem zl6 {gr:Group}(h:0≤gr.Q) (h2:gr.Q≤2000000000) (l:List Int):zen gr l=some (l.all (zet gr)):=by
 unfold zen
 rw[zaj (by omega) (by omega),zrO];rfl
theorem zxy {gr:Group}(h:0≤gr.Q) (h2:gr.Q≤2000000000) (x:Int):zej gr x=some (zet gr x):=by
 unfold zej
 rw[zaj (by omega) (by omega),zes];rfl
def zaW (gr:Group) (x e:Int):Int:=((x.toNat^(e%gr.Q).toNat%gr.P.toNat:Nat):Int)
theorem zjV {gr:Group}(k:OkG gr) (x e:Int):0≤zaW gr x e∧zaW gr x e≤gr.P-1:=by
 have hp:=k.p
 unfold zaW
 have:=Nat.mod_lt (x.toNat^(e%gr.Q).toNat) (y:=gr.P.toNat) (by omega)
 omega
theorem zlU {gr:Group}(k:OkG gr) {x:Int}(h0:0≤x) (h1:x≤2000000000) (e:Int):zam gr x e=some (zaW gr x e)∧zat gr x e=some (zaW gr x e):=by
 have hp:=k.p
 have hq:=k.q
 have b1:0≤e%gr.Q:=Int.emod_nonneg _ (by omega)
 have b2:e%gr.Q<gr.Q:=Int.emod_lt_of_pos _ (by omega)
 have hw:=zfk (a:=x) (e:=e%gr.Q) (m:=gr.P) (by omega) (by omega) (by omega) (by omega) b1 (by omega)
 unfold zam zat
 rw[ztq (by omega) (by omega),zi9 (by omega) (by omega),Option.bind_some,Option.bind_some,hw.1,hw.2]
 exact⟨rfl,rfl⟩
theorem zz9 {gr:Group}(k:OkG gr) {x:Int}(h0:0≤x) (h1:x≤2000000000) (e:Int):zat gr x e=some (zaW gr x e):=by
 have hp:=k.p
 have hq:=k.q
 have b1:0≤e%gr.Q:=Int.emod_nonneg _ (by omega)
 have b2:e%gr.Q<gr.Q:=Int.emod_lt_of_pos _ (by omega)
 have hw:=zfk (a:=x) (e:=e%gr.Q) (m:=gr.P) (by omega) (by omega) (by omega) (by omega) b1 (by omega)
 unfold zat
 rw[zi9 (by omega) (by omega),Option.bind_some,hw.2]
 rfl
def zbV (gr:Group) (l:List Int):Int:=l.foldl (fun o x=>o*x%gr.P) 1
theorem zp2 {gr:Group}(h:1≤gr.P):∀(l:List Int) (o:Int),0≤o→o≤gr.P→(∀x∈l,0≤x)→0≤l.foldl (fun o x=>o*x%gr.P) o∧l.foldl (fun o x=>o*x%gr.P) o≤gr.P:=by
 intro l
 induction l with
 |nil=>intro o h0 h1 _;exact⟨h0,h1⟩
 |cons x l ih=>
  intro o h0 h1 h2
  exact ih _ (Int.emod_nonneg _ (by omega)) (Int.le_of_lt (Int.emod_lt_of_pos (o*x) (show 0<gr.P by omega))) fun y hy=>h2 y (List.mem_cons_of_mem _ hy)
theorem zx3 (gr:Group) (l:List Int):za1 gr l=zaz gr l:=rfl
theorem zl8 {gr:Group}(k:OkG gr) {l:List Int}(hl:∀x∈l,0≤x∧x≤2000000000):zaz gr l=some (zbV gr l):=by
 have hp:=k.p
 unfold zaz
 refine zaB (zaf (ψ:=fun b=>b=zbV gr l) (zci (fun i s=>s=(l.take i).foldl (fun o x=>o*x%gr.P) 1) rfl ?_ ?_) fun b hb=>zac hb)
 ·rintro i s hi rfl
  have hb:=zp2 (gr:=gr) (by omega) (l.take i) 1 (by omega) (by omega) fun x hx=>(hl x (List.mem_of_mem_take hx)).1
  have hx:=hl l[i] (List.getElem_mem hi)
  refine zb1 hi (zah (by omega) (zac ?_))
  show _=(l.take (i+1)).foldl _ _
  rw[List.take_succ_eq_append_getElem hi,List.foldl_append]
  generalize (l.take i).foldl (fun o x=>o*x%gr.P) 1=o at hb⊢
  have b1:0≤o*l[i]:=Int.mul_nonneg hb.1 hx.1
  have b2:o*l[i]≤2000000000*2000000000:=Int.mul_le_mul (by omega) hx.2 hx.1 (by omega)
  show(IntKind.i64.wrap (o*l[i])).tmod gr.P=o*l[i]%gr.P
  rw[zaj (by omega) (by omega),Int.tmod_eq_emod_of_nonneg b1]
 rintro s rfl
 rw[List.take_length];rfl
theorem zpF {gr:Group}(k:OkG gr) {l:List Int}(hl:∀x∈l,0≤x∧x≤2000000000):za1 gr l=some (zbV gr l):=by rw[zx3];exact zl8 k hl
theorem zxs {gr:Group}(k:OkG gr) {l:List Int}(hl:∀x∈l,0≤x∧x≤2000000000):0≤zbV gr l∧zbV gr l≤gr.P:=by
 have hp:=k.p
 exact zp2 (by omega) l 1 (by omega) (by omega) fun x hx=>(hl x hx).1
theorem zhP {gr:Group}(k:OkG gr) (l:List Int):zbz gr l=some (l.all (zay gr)):=by
 unfold zbz zcJ zaV zaZ
 refine zaB (zaf (ψ:=fun b=>b=l.all (zay gr)) (zaf (ψ:=fun b=>b= !l.all (zay gr)) (zaf (ψ:=fun j=>(j=-1∧l.all (zay gr)=true)∨(0≤j∧l.all (zay gr)=false)) (zaf (ψ:=fun b=>(b=.inl ()∧l.all (zay gr)=true)∨(∃j,b=.inr j∧0≤j∧l.all (zay gr)=false)) (zci (fun i s=>(l.take i).all (zay gr)=true) rfl ?_ ?_) ?_) ?_) ?_) ?_)
 ·rintro i s hi hI
  have hc:zbT l[i] gr=some (!zay gr l[i]):=by
   unfold zbT
   rw[zpy k];rfl
  refine zb1 hi (zab hc (zal (fun h=>zac (.inr ⟨i,rfl,by omega,?_⟩)) fun h=>zac ?_))
  ·rw[List.all_eq_false]
   exact⟨l[i],List.getElem_mem hi,by rw[Bool.not_eq_true']at h;rw[h];simp⟩
  show(l.take (i+1)).all (zay gr)=true
  rw[List.take_succ_eq_append_getElem hi,List.all_append,hI]
  simpa using h
 ·rintro s hI
  rw[List.take_length]at hI
  exact .inl ⟨rfl,hI⟩
 ·rintro b (⟨rfl,h⟩|⟨j,rfl,h0,h⟩)
  ·exact zac (.inl ⟨rfl,h⟩)
  exact zac (.inr ⟨h0,h⟩)
 ·rintro j (⟨rfl,h⟩|⟨h0,h⟩)
  ·exact zac (by rw[h];rfl)
  exact zac (by rw[h];simpa using h0)
 ·rintro b rfl
  exact zac (by simp)
 rintro b rfl
 exact zac rfl
theorem zgS {gr:Group}{x:Int}(h:zay gr x=true):1≤x∧x≤gr.P-1:=by
 simp only[zay,Bool.and_eq_true,decide_eq_true_eq]at h
 exact h.1
theorem zoJ {gr:Group}(k:OkG gr) {y m:Int}(hy:zay gr y=true) (hm:zay gr m=true) (r:Int):
 zdN gr y m r=some (Cipher.mk (zaW gr gr.G r) (zbV gr [m,zaW gr y r]))∧zgL gr y m r=some (Cipher.mk (zaW gr gr.G r) (zbV gr [m,zaW gr y r])):=by
 have hp:=k.p
 have hg:=k.g
 have b1:=zgS hy
 have b2:=zgS hm
 have e1:=zlU k (x:=gr.G) (by omega) (by omega) r
 have e2:=zlU k (x:=y) (by omega) (by omega) r
 have hl:∀x∈[m,zaW gr y r],0≤x∧x≤2000000000:=fun x hx=>by
  simp only[List.mem_cons,List.not_mem_nil,or_false]at hx
  rcases hx with rfl|rfl
  ·omega
  ·have:=zjV k y r;omega
 unfold zdN zgL
 rw[e1.1,e1.2,Option.bind_some,Option.bind_some,e2.1,e2.2,Option.bind_some,Option.bind_some,zl8 k hl,zpF k hl]
 exact⟨rfl,rfl⟩
theorem zsA {α:Type}(b:Bool) (u v:α):(if b=true then some u else some v)=some (if(!b)=true then v else u):=by cases b<;>rfl
theorem zA1 {α:Type}(b:Bool) (u v:α):(if(!b)=true then some u else some v)=some (if b=true then v else u):=by cases b<;>rfl
theorem zl9 {β:Type}{body:Int→Unit→Option (Stp Unit (Unit ⊕ β))}(m:Nat) (p:Nat→Bool) (val:Nat→β) (h:∀k,k<m→body (k:Int) ()=some (if p k=true then .go ()else .out (.inr (val k)))):
 (zap body (fun _=>.inl ()) m 0 ()=some (.inl ())∧∀k,k<m→p k=true)∨∃k,k<m∧p k=false∧(∀j,j<k→p j=true)∧zap body (fun _=>.inl ()) m 0 ()=some (.inr (val k)):=by
 have key:Rn (zap body (fun _=>Sum.inl ()) m 0 ()) (fun b=>(b=.inl ()∧∀k,k<m→p k=true)∨∃k,k<m∧p k=false∧(∀j,j<k→p j=true)∧b=.inr (val k)):=by
  refine zci (fun k _=>∀j,j<k→p j=true) (fun j hj=>by omega) ?_ fun s hs=>.inl ⟨rfl,hs⟩
  intro k s hk hI
  refine⟨_,h k hk,?_⟩
  cases hp:p k with
  |true=>
   intro j hj
   rcases Nat.lt_or_ge j k with h|h
   ·exact hI j h
   ·have:j=k:=by omega
    rw[this];exact hp
  |false=>exact .inr ⟨k,hk,hp,hI,rfl⟩
 obtain⟨b,e,h1|⟨k,h1,h2,h3,h4⟩⟩:=key
 ·exact .inl ⟨by rw[e,h1.1],h1.2⟩
 exact .inr ⟨k,h1,h2,h3,by rw[e,h4]⟩
theorem zwd {α:Type}(l:List α) (p:α→Bool) (c:Bool) {body:Int→Unit→Option (Stp Unit (Unit ⊕ Bool))}(h:∀k (hk:k<l.length),body (k:Int) ()=some (if p l[k]=true then .go ()else .out (.inr c))):
 (zap body (fun _=>.inl ()) l.length 0 ()).bind (Sum.elim (fun _=>some (!c)) some)=some (if l.all p=true then !c else c):=by
 rcases zl9 (body:=body) l.length (fun k=>(l[k]?).any p) (fun _=>c) (fun k hk=>by rw[h k hk,List.getElem?_eq_getElem hk];rfl)with⟨e,h1⟩|⟨k,h1,h2,h3,e⟩
 ·rw[e]
  have:l.all p=true:=by
   rw[List.all_eq_true]
   intro x hx
   obtain⟨k,hk,rfl⟩:=List.mem_iff_getElem.1 hx
   have:=h1 k hk
   rw[List.getElem?_eq_getElem hk]at this
   exact this
  rw[this];rfl
 rw[e]
 have:l.all p=false:=by
  rw[List.all_eq_false]
  refine⟨l[k],List.getElem_mem h1,?_⟩
  rw[List.getElem?_eq_getElem h1]at h2
  simpa using h2
 rw[this];rfl
theorem zw2 (l:List Int) (x:Int):zgm l x=some (l.contains x):=by
 unfold zgm
 have:=zwd l (fun y=> !(y==x)) true (body:=fun i8 s7=>(ix l i8).bind fun x17=>if(x17==x)=true then some (.out (.inr true))else some (.go ())) fun k hk=>by
  rw[zgZ hk,Option.bind_some]
  exact zsA _ _ _
 rw[show(!true)=false from rfl]at this
 refine this.trans ?_
 congr 1
 cases hc:l.contains x with
 |true=>
  have hm:x∈l:=by simpa using hc
  have:(l.all fun y=> !(y==x))=false:=by
   rw[List.all_eq_false]
   exact⟨x,hm,by simp⟩
  rw[this];rfl
 |false=>
  have hm:¬x∈l:=by simpa using hc
  have:(l.all fun y=> !(y==x))=true:=by
   rw[List.all_eq_true]
   intro y hy
   have:y≠x:=fun e=>hm (e▸hy)
   simp[this]
  rw[this];rfl
theorem zxm (l:List Int) (x:Int):(zcx l x=some (-1)∧¬x∈l)∨∃k,∃h:k<l.length,zcx l x=some (k:Int)∧l[k]=x∧∀j (hj:j<k),l[j]'(by omega)≠x:=by
 unfold zcx
 rcases zl9 l.length (fun k=>(l[k]?).any fun y=> !(x==y)) (fun k=>(k:Int)) (body:=fun i8 s7=>(ix l i8).bind fun x17=>if(x==x17)=true then some (.out (.inr i8))else some (.go ())) (fun k hk=>by
  rw[zgZ hk,Option.bind_some,List.getElem?_eq_getElem hk]
  exact zsA _ _ _)with⟨e,h1⟩|⟨k,h1,h2,h3,e⟩
 ·refine .inl ⟨by rw[e];rfl,fun hx=>?_⟩
  obtain⟨k,hk,rfl⟩:=List.mem_iff_getElem.1 hx
  have:=h1 k hk
  rw[List.getElem?_eq_getElem hk]at this
  simp at this
 refine .inr ⟨k,h1,by rw[e];rfl,?_,fun j hj=>?_⟩
 ·rw[List.getElem?_eq_getElem h1]at h2
  simp at h2
  exact h2.symm
 have:=h3 j hj
 rw[List.getElem?_eq_getElem (by omega)]at this
 simp at this
 exact fun e=>this e.symm
theorem znd (l:List Int) (x:Int):zcE l x=some (l.contains x):=by
 unfold zcE
 rcases zxm l x with⟨e,h⟩|⟨k,hk,e,h,_⟩
 ·rw[e]
  have:l.contains x=false:=by simpa using h
  rw[this];rfl
 rw[e]
 have:l.contains x=true:=by
  have:=List.getElem_mem hk
  rw[h]at this
  simpa using this
 rw[this]
 simp
theorem zxh (l:List Int):zeK l=zdc l:=by
 unfold zeK zdc
 simp only[zw2,znd]
open Classical in
noncomputable def zjH (l:List Int):Bool:=decide l.Nodup
theorem zvg {C:List Int→Int→Option Bool}(hC:∀l x,C l x=some (l.contains x)) (l:List Int) (hl:l.length≤1000000000000):
 ((zap (σ:=Unit) (fun i5 s4=>
 (ix l i5).bind fun x11=>
 gd (0≤i5)<|
 gd (0≤i5.toNat∧i5.toNat≤l.length)<|
 (C ((l.take i5.toNat).drop 0) x11).bind fun z12=>
 if z12=true then(
 some (.out (.inr false)))else(
 some (.go ()))) (fun s4=>.inl ()) (l.length) 0 ():Option (Unit ⊕ Bool)).bind (Sum.elim (fun x3=>
 some true) some))=some (zjH l):=by
 rcases zl9 l.length (fun k=>(l[k]?).any fun y=> !(l.take k).contains y) (fun _=>false) (body:=fun i8 s7=>
  (ix l i8).bind fun x17=>
  gd (0≤i8)<|
  gd (0≤i8.toNat∧i8.toNat≤l.length)<|
  (C ((l.take i8.toNat).drop 0) x17).bind fun z26=>
  if z26=true then(
  some (.out (.inr false)))else(
  some (.go ()))) (fun k hk=>by
   rw[zgZ hk,Option.bind_some,zeB (by omega),zeB (by simp;omega),hC,List.getElem?_eq_getElem hk,Option.bind_some,Int.toNat_natCast,List.drop_zero]
   exact zsA _ _ _)with⟨e,h1⟩|⟨k,h1,h2,h3,e⟩
 ·rw[e]
  have:zjH l=true:=by
   unfold zjH
   rw[decide_eq_true_eq,List.nodup_iff_pairwise_ne,List.pairwise_iff_getElem]
   intro i j hi hj hij e
   have:=h1 j hj
   rw[List.getElem?_eq_getElem hj]at this
   have hm:l[j]∈l.take j:=by
    rw[←e]
    exact List.mem_iff_getElem.2 ⟨i,by simp;omega,by simp⟩
   have hc:(l.take j).contains l[j]=true:=by simpa using hm
   simp only[Option.any_some,hc]at this
   cases this
  rw[this];rfl
 rw[e]
 have:zjH l=false:=by
  unfold zjH
  rw[decide_eq_false_iff_not,List.nodup_iff_pairwise_ne,List.pairwise_iff_getElem]
  intro hd
  rw[List.getElem?_eq_getElem h1]at h2
  have hc:(l.take k).contains l[k]=true:=by simpa using h2
  have hm:l[k]∈l.take k:=by simpa using hc
  obtain⟨i,hi,e⟩:=List.mem_iff_getElem.1 hm
  simp at hi e
  exact hd i k (by omega) h1 (by omega) e
 rw[this];rfl
theorem zt8 (l:List Int) (hl:l.length≤1000000000000):zdc l=some (zjH l):=zvg znd l hl
theorem ztV (l:List Int) (hl:l.length≤1000000000000):zeK l=some (zjH l):=by rw[zxh,zt8 l hl]
theorem ziv {l:List Int}{p:Int→Bool}{f:Int→Option Bool}(hf:∀x∈l,f x=some (!p x)):
 ((((zap (σ:=Unit) (β:=Unit ⊕ Int) (fun i8 s7=>(ix l i8).bind fun x17=>(f x17).bind fun z20=>if z20=true then(some (.out (.inr i8)))else(some (.go ()))) (fun s7=>.inl ()) (l.length) 0 ():Option (Unit ⊕ Int)).bind (Sum.elim (fun(x5:Unit)=>some (-1)) some)).bind fun z1=>some (decide (0≤z1))).bind fun z1=>some (!z1))=some (l.all p):=by
 rcases zl9 l.length (fun k=>(l[k]?).any p) (fun k=>(k:Int)) (body:=fun i8 s7=>(ix l i8).bind fun x17=>(f x17).bind fun z20=>if z20=true then(some (.out (.inr i8)))else(some (.go ()))) (fun k hk=>by
  rw[zgZ hk,Option.bind_some,hf _ (List.getElem_mem hk),Option.bind_some,List.getElem?_eq_getElem hk]
  exact zA1 _ _ _)with⟨e,h1⟩|⟨k,h1,h2,h3,e⟩
 ·rw[e]
  have:l.all p=true:=by
   rw[List.all_eq_true]
   intro x hx
   obtain⟨k,hk,rfl⟩:=List.mem_iff_getElem.1 hx
   have:=h1 k hk
   rw[List.getElem?_eq_getElem hk]at this
   exact this
  rw[this];rfl
 rw[e]
 have:l.all p=false:=by
  rw[List.all_eq_false]
  refine⟨l[k],List.getElem_mem h1,?_⟩
  rw[List.getElem?_eq_getElem h1]at h2
  simpa using h2
 rw[this]
 simp
def dg (q:Nat):Nat→Nat→List Int
 |0,_=>[]
 |k+1,n=>((n%q:Nat):Int)::dg q k (n/q)
theorem zrx {gr:Group}(k:OkG gr) (c:Cipher):zdf gr c=some (zay gr c.A&&zay gr c.B):=by
 unfold zdf
 rw[zpy k,zpy k]
 cases zay gr c.A<;>simp
theorem zyP {gr:Group}(k:OkG gr) (m:Int):zdL gr [m]=some (zay gr m):=by
 rw[zlJ k];simp
theorem zk5 {gr:Group}(h:0≤gr.Q) (h2:gr.Q≤2000000000) (l:List Int):zcn gr l=some (l.all (zet gr)):=by
 have h1:zcq l gr=some (l.all (zet gr)):=ziv (f:=fun x=>zbG x gr) fun x _=>by
  unfold zbG
  rw[zxy h h2];rfl
 unfold zcn
 rw[h1];rfl
theorem zoA {a n p e:Nat}(h:a^n%p=1):a^(e%n)%p=a^e%p:=by
 have hp:1%p=1:=by rw[←h,Nat.mod_mod]
 conv=>rhs;rw[←Nat.div_add_mod e n]
 rw[Nat.pow_add,Nat.pow_mul,Nat.mul_mod,Nat.pow_mod (a^n),h,Nat.one_pow,hp,Nat.one_mul,Nat.mod_mod]
theorem zlM {gr:Group}{x:Int}(h:zay gr x=true):1≤x∧x≤gr.P-1∧x.toNat^gr.Q.toNat%gr.P.toNat=1:=by
 unfold zay at h
 simp only[Bool.and_eq_true,decide_eq_true_eq]at h
 exact⟨h.1.1,h.1.2,h.2⟩
theorem zvi {gr:Group}(k:OkG gr) {x:Int}(h:zay gr x=true) {s l:Int}(hs:0≤s) (hl:0≤l):zaW gr (zaW gr x s) l=zaW gr x (s*l):=by
 obtain⟨_,_,h3⟩:=zlM h
 have hq:=k.q
 obtain⟨a,rfl⟩:=Int.eq_ofNat_of_zero_le hs
 obtain⟨b,rfl⟩:=Int.eq_ofNat_of_zero_le hl
 obtain⟨n,hn⟩:=Int.eq_ofNat_of_zero_le (show 0≤gr.Q by omega)
 unfold zaW
 rw[hn]at h3⊢
 rw[Int.toNat_natCast]at h3
 have e:∀c:Nat,((c:Int)%(n:Int)).toNat=c%n:=fun c=>by rw[←Int.natCast_emod,Int.toNat_natCast]
 rw[zgs,e,e,e,Int.toNat_natCast,zoA h3,zoA h3,←Nat.pow_mod,←Nat.pow_mul]
 congr 1
 rw[Nat.pow_mul,Nat.pow_mod,zoA (n:=n) (e:=b)]
 ·rw[←Nat.pow_mod,←Nat.pow_mul]
 rw[←Nat.pow_mod,←Nat.pow_mul,Nat.mul_comm,Nat.pow_mul,Nat.pow_mod,h3,Nat.one_pow,←h3,Nat.mod_mod]
theorem zy0 {gr:Group}(k:OkG gr) {b x:Int}(hb:0≤b) (hb2:b≤2000000000) (h0:0≤x) (h1:x≤2000000000):zey gr b x=some (zbV gr [b,zaW gr x (-1)]):=by
 have hp:=k.p
 obtain⟨p1,p2⟩:=zjV k x (-1)
 unfold zey zfV
 rw[(zlU k h0 h1 _).1]
 simp only[Option.bind_some]
 rw[zl8 k];rfl
 intro y hy
 simp only[List.mem_cons,List.not_mem_nil,or_false]at hy
 rcases hy with rfl|rfl<;>omega
structure Bt (code:List Int):Prop where
 b:∀x∈code,0≤x∧x≤255
 l:code.length≤1048576
structure Cu (code:List Int) (n:Int) (c:List Int×Int×Int):Prop where
 e:c.1=code
 lo:0≤c.2.1
 hi:c.2.1≤n
theorem Cu.mono {code:List Int}{n m:Int}{c:List Int×Int×Int}(h:Cu code n c) (hn:n≤m):Cu code m c:=⟨h.e,h.lo,Int.le_trans h.hi hn⟩
theorem zzx (x:BitVec IntKind.u64.bits):0≤IntKind.i64.wrap (IntKind.u64.wrap ((x&&&BitVec.ofInt IntKind.u64.bits 255).toNat:Int))∧IntKind.i64.wrap (IntKind.u64.wrap ((x&&&BitVec.ofInt IntKind.u64.bits 255).toNat:Int))≤255:=by
 have hy:(x&&&BitVec.ofInt IntKind.u64.bits 255).toNat≤255:=by
  rw[BitVec.toNat_and]
  exact Nat.le_trans Nat.and_le_right (by decide)
 generalize (x&&&BitVec.ofInt IntKind.u64.bits 255).toNat=y at hy⊢
 rw[wrU (by omega) (by omega),zaj (by omega) (by omega)]
 omega
theorem zui {code c0:List Int}{at_ seed n:Int}(hb:Bt code) (h:Cu code n (c0,at_,seed)) (hn:n≤9000000000000000):Rn (zct c0 at_ seed) (fun z=>0≤z.1∧z.1≤255∧Cu code (n+1) z.2):=by
 obtain⟨h1,h2,h3⟩:=h
 have h1:c0=code:=h1
 have h2:0≤at_:=h2
 have h3:at_≤n:=h3
 subst h1
 have hw:IntKind.i64.wrap (at_+1)=at_+1:=zaj (by omega) (by omega)
 unfold zct
 refine zaf (ψ:=fun v=>0≤v∧v≤255) ?_ fun v hv=>?_
 ·refine zal (fun g=>?_) fun g=>zac (by omega)
  obtain⟨k,rfl⟩:=Int.eq_ofNat_of_zero_le h2
  have hk:k<c0.length:=by simp at g;omega
  have:=hb.b _ (List.getElem_mem hk)
  exact zb1 hk (zac (by rw[zaj (by omega) (by omega)];exact this))
 simp only[hw]
 refine zal (fun g=>zac ⟨hv.1,hv.2,rfl,by show 0≤at_+1;omega,by show at_+1≤n+1;omega⟩) fun g=>zac ?_
 exact⟨(zzx _).1,(zzx _).2,rfl,by show 0≤at_+1;omega,by show at_+1≤n+1;omega⟩
theorem zd8 {code c0:List Int}{at_ seed n m:Int}(hb:Bt code) (h:Cu code n (c0,at_,seed)) (hn:n≤8000000000000000):Rn (zag c0 at_ seed m) (fun z=>0≤z.1∧(m≤1→z.1=0)∧(1<m→z.1<m)∧z.1≤65535∧Cu code (n+2) z.2):=by
 unfold zag
 refine zal (fun g=>zac ⟨Int.le_refl 0,fun _=>rfl,fun h=>by simp at g;omega,by show(0:Int)≤_;omega,h.mono (by omega)⟩) fun g=>?_
 have g:1<m:=by simpa using g
 refine zaf (zui hb h (by omega)) fun z ⟨z1,z2,z3⟩=>?_
 refine zaf (ψ:=fun x=>0≤x.2∧x.2≤65535∧Cu code (n+2) x.1) ?_ fun x ⟨x1,x2,x3⟩=>?_
 ·refine zal (fun _=>zaf (zui hb z3 (by omega)) fun y ⟨y1,y2,y3⟩=>zac ?_) fun _=>zac ⟨z1,by show z.1≤_;omega,z3.mono (by omega)⟩
  rw[zaj (n:=z.1*256) (by omega) (by omega),zaj (by omega) (by omega)]
  exact⟨by show 0≤z.1*256+y.1;omega,by show z.1*256+y.1≤_;omega,y3.mono (by omega)⟩
 refine zah (by omega) (zac ?_)
 rw[Int.tmod_eq_emod_of_nonneg x1]
 have b1:=Int.emod_nonneg x.2 (show m≠0 by omega)
 have b2:=Int.emod_lt_of_pos x.2 (show 0<m by omega)
 have b3:x.2%m≤x.2:=by
  rcases Int.lt_or_le x.2 m with h|h
  ·rw[Int.emod_eq_of_lt x1 h];exact Int.le_refl _
  ·omega
 exact⟨b1,fun h=>by omega,fun _=>b2,by show x.2%m≤_;omega,x3⟩
theorem zh5 {code c0:List Int}{at_ seed n m:Int}(hb:Bt code) (h:Cu code n (c0,at_,seed)) (hn:n≤8000000000000000):Rn (zaP c0 at_ seed m) (fun z=>Cu code (n+2) z.2):=by
 unfold zaP
 exact zaf (zd8 hb h hn) fun z hz=>zac hz.2.2.2.2
theorem zdP {code c0:List Int}{at_ seed n:Int}{l:List Int}(hb:Bt code) (h:Cu code n (c0,at_,seed)) (hn:n≤8000000000000000) (hl:l≠[]):Rn (zar c0 at_ seed l) (fun z=>z.1∈l∧Cu code (n+2) z.2):=by
 unfold zar
 refine zaf (zd8 hb h hn) fun z ⟨z1,z2,z3,z4,z5⟩=>?_
 have h0:0<l.length:=List.length_pos_iff.2 hl
 obtain⟨k,hk⟩:=Int.eq_ofNat_of_zero_le z1
 have hlt:k<l.length:=by
  rcases Nat.lt_or_ge 1 l.length with h|h
  ·have:=z3 (by omega);omega
  ·have:=z2 (by omega);omega
 rw[hk]
 exact zb1 hlt (zac ⟨List.getElem_mem hlt,z5⟩)
theorem zzv {n d:Nat}(h:Pr n) (hd:d%n≠0):Nat.gcd n d=1:=by
 obtain⟨k,hk⟩:=Nat.gcd_dvd_left n d
 have hn:=h.1
 have h0:0<Nat.gcd n d:=Nat.gcd_pos_of_pos_left d (by omega)
 have hdv:=Nat.gcd_dvd_right n d
 generalize Nat.gcd n d=g at hk h0 hdv
 apply Classical.byContradiction
 intro hg
 have hg2:2≤g:=by omega
 have hk2:2≤k:=by
  rcases Nat.lt_or_ge k 2 with h|h
  ·have:k=0∨k=1:=by omega
   rcases this with rfl|rfl
   ·omega
   ·rw[Nat.mul_one]at hk
    rw[←hk]at hdv
    exact absurd (Nat.mod_eq_zero_of_dvd hdv) hd
  ·exact h
 rcases Nat.le_total g k with h'|h'
 ·exact h.2 g hg2 (by rw[hk];exact Nat.mul_le_mul_left g h') (by rw[hk];exact Nat.mul_mod_right g k)
 exact h.2 k hk2 (by rw[hk];exact Nat.mul_le_mul_right k h') (by rw[hk];exact Nat.mul_mod_left g k)
theorem zj3 {n:Nat}(h:Pr n) {a b:Int}(hab:(a*b)%(n:Int)=0):a%(n:Int)=0∨b%(n:Int)=0:=by
 have h1:n∣a.natAbs*b.natAbs:=by
  rw[←Int.natAbs_mul]
  exact Int.ofNat_dvd_left.1 (Int.dvd_of_emod_eq_zero hab)
 by_cases ha:a.natAbs%n=0
 ·exact .inl (Int.emod_eq_zero_of_dvd (Int.ofNat_dvd_left.2 (Nat.dvd_of_mod_eq_zero ha)))
 exact .inr (Int.emod_eq_zero_of_dvd (Int.ofNat_dvd_left.2 (Nat.Coprime.dvd_of_dvd_mul_left (zzv h ha) h1)))
def evP (f:List Int) (x:Int):Int:=f.foldr (fun c a=>a*x+c) 0
theorem zqq (c:Int) (f:List Int) (x:Int):evP (c::f) x=evP f x*x+c:=rfl
def dvP (r:Int):List Int→List Int
 |[]=>[]
 |[_]=>[]
 |_::c::f=>evP (c::f) r::dvP r (c::f)
theorem zsk (r:Int):∀f:List Int,(dvP r f).length=f.length-1
 |[]=>rfl
 |[_]=>rfl
 |_::c::f=>by
  show(dvP r (c::f)).length+1=_
  rw[zsk r (c::f)];simp
theorem zup (r x:Int):∀f:List Int,evP f x=evP (dvP r f) x*(x-r)+evP f r
 |[]=>by simp[dvP,evP]
 |[c]=>by simp[dvP,evP]
 |d::c::f=>by
  have ih:=zup r x (c::f)
  show evP (c::f) x*x+d=(evP (dvP r (c::f)) x*x+evP (c::f) r)*(x-r)+(evP (c::f) r*r+d)
  rw[ih]
  grind
theorem zp0 (r:Int):∀f:List Int,2≤f.length→(dvP r f).getLastD 0=f.getLastD 0
 |[],h=>absurd h (by simp)
 |[_],h=>absurd h (by simp)
 |[d,c],_=>by simp[dvP,evP]
 |e::d::c::f,_=>by
  have ih:=zp0 r (d::c::f) (by simp)
  show(evP (d::c::f) r::evP (c::f) r::dvP r (c::f)).getLastD 0=_
  have:dvP r (d::c::f)=evP (c::f) r::dvP r (c::f):=rfl
  rw[this]at ih
  simpa[List.getLastD]using ih
theorem ztY {p:Nat}(hp:Pr p):∀(n:Nat) (f:List Int),f.length=n+1→f.getLastD 0%(p:Int)≠0→∀rs:List Int,rs.Pairwise (fun a b=>(b-a)%(p:Int)≠0)→(∀r∈rs,evP f r%(p:Int)=0)→rs.length≤n
 |0,f,hl,hf,rs,hd,hr=>by
  match f,hl with
  |[c],_=>
   cases rs with
   |nil=>simp
   |cons r rs=>
    have:=hr r (List.mem_cons_self ..)
    simp[evP]at this
    exact absurd (by first|exact this|exact Int.emod_eq_zero_of_dvd this) (by simpa[List.getLastD]using hf)
 |n+1,f,hl,hf,rs,hd,hr=>by
  cases rs with
  |nil=>simp
  |cons r rs=>
   have h1:=List.pairwise_cons.1 hd
   have:=ztY hp n (dvP r f) (by rw[zsk];omega) (by rw[zp0 r f (by omega)];exact hf) rs h1.2 fun s hs=>by
    have e:=zup r s f
    have hs0:=hr s (List.mem_cons_of_mem _ hs)
    have hr0:=hr r (List.mem_cons_self ..)
    have hm:(evP (dvP r f) s*(s-r))%(p:Int)=0:=by
     rw[show evP (dvP r f) s*(s-r)=evP f s-evP f r by omega,Int.sub_emod,hs0,hr0];simp
    rcases zj3 hp hm with h|h
    ·exact h
    ·exact absurd h (h1.1 s hs)
   simpa using this
theorem zu0 (k:Nat) (x:Int):evP (List.replicate k 0++[1]) x=x^k:=by
 induction k with
 |zero=>simp[evP]
 |succ k ih=>rw[List.replicate_succ,List.cons_append,zqq,ih,Int.pow_succ];omega
theorem zqU {p n:Nat}(hp:Pr p) (hn:1≤n) (rs:List Int) (hd:rs.Pairwise (fun a b=>(b-a)%(p:Int)≠0)) (hr:∀r∈rs,r^n%(p:Int)=1):rs.length≤n:=by
 have h2:=hp.1
 have hone:(1:Int)%(p:Int)=1:=Int.emod_eq_of_lt (by omega) (by omega)
 obtain⟨k,rfl⟩:∃k,n=k+1:=⟨n-1,by omega⟩
 refine ztY hp (k+1) (-1::(List.replicate k 0++[1])) (by simp) ?_ rs hd fun r hr'=>?_
 ·have:(-1::(List.replicate k (0:Int)++[1])).getLastD 0=1:=by
   rw[←List.cons_append,List.getLastD_concat]
  rw[this,hone];omega
 rw[zqq,zu0,←Int.pow_succ,Int.add_emod,hr r hr']
 have:((-1:Int)%(p:Int))=p-1:=by
  have:=Int.add_mul_emod_self_left (-1) (p:Int) 1
  rw[←this,Int.mul_one,Int.emod_eq_of_lt (by omega) (by omega)];omega
 rw[this,show 1+((p:Int)-1)=p by omega,Int.emod_self]
theorem zuP {p n:Nat}(hp:Pr p) (hn:1≤n) (hnp:n<p-1):∃h:Nat,2≤h∧h<p∧h^n%p≠1:=by
 apply Classical.byContradiction
 intro hc
 have h2:=hp.1
 have h1:∀h:Nat,1≤h→h<p→h^n%p=1:=fun h a b=>by
  rcases Nat.lt_or_ge h 2 with c|c
  ·have:h=1:=by omega
   subst this
   rw[Nat.one_pow,Nat.mod_eq_of_lt (by omega)]
  ·exact Classical.byContradiction fun d=>hc ⟨h,c,b,d⟩
 have:=zqU hp hn ((List.range (p-1)).map fun k=>((k+1:Nat):Int)) ?_ ?_
 ·simp at this;omega
 ·rw[List.pairwise_map]
  refine List.Pairwise.imp_of_mem ?_ List.pairwise_lt_range
  intro a b ha hb hab
  have hb:=List.mem_range.1 hb
  rw[show((b+1:Nat):Int)-((a+1:Nat):Int)=((b-a:Nat):Int)by omega,←Int.natCast_emod,Nat.mod_eq_of_lt (by omega)]
  omega
 intro r hr
 obtain⟨k,hk,rfl⟩:=List.mem_map.1 hr
 have hk:=List.mem_range.1 hk
 rw[←Int.natCast_pow,←Int.natCast_emod,h1 (k+1) (by omega) (by omega)];rfl
structure Gs (gr:Group):Prop where
 p:0≤gr.P∧gr.P≤2000000000
 q:0≤gr.Q∧gr.Q≤1000000000
 g:0≤gr.G∧gr.G≤2000000000
theorem zzu {q k:Nat}(hq:2≤q):((1+(k:Int)*(q:Int))-1).tdiv (q:Int)=(k:Int):=by
 rw[show(1+(k:Int)*(q:Int))-1=(k:Int)*(q:Int)by omega,Int.mul_tdiv_cancel _ (by omega)]
theorem zmu {q:Nat}(hq2:q≤1000000):Rn (zb4 (q:Int)) (fun z=>Gs z.1∧(z.2=true→z.1.Q=q∧3≤z.1.P)∧(∀k:Nat,1≤k→Pr (1+k*q)→1+k*q≤2000000000→Pr q→z.2=true)):=by
 unfold zb4
 refine zaf (ψ:=fun b=>b= !(decide (2≤q)&&prB (q:Int))) ?_ ?_
 ·refine zab (zgt _ _ _) ?_
  by_cases h:2≤q
  ·refine za9 (by simp;omega) (zab (zhW _ (by omega)) (zac ?_))
   simp[h]
  refine zgu (by simp;omega) (zac ?_)
  simp[h]
 rintro _ rfl
 cases hc:(decide (2≤q)&&prB (q:Int))
 ·refine zgu rfl (zac ⟨⟨⟨by decide,by decide⟩,⟨by decide,by decide⟩,by decide,by decide⟩,fun h=>(by cases h),fun k h1 h2 h3 h4=>?_⟩)
  rw[zeU.2 h4]at hc
  have:=h4.1
  simp at hc;omega
 have hq:2≤q:=by simp at hc;exact hc.1
 have hpq:Pr q:=by simp at hc;exact zeU.1 hc.2
 refine za9 rfl ?_
 refine zaf (ψ:=fun b=>(b=.inl ()∧∀k:Nat,1≤k→Pr (1+k*q)→¬1+k*q≤2000000000)∨∃z:Group×Bool,b=.inr z∧Gs z.1∧z.2=true∧z.1.Q=q∧3≤z.1.P) ?_ ?_
 ·rw[zaj (by omega) (by omega)]
  refine zeO (fun s=>∃k:Nat,1≤k∧s=1+(k:Int)*(q:Int)∧s≤2001000001∧∀j:Nat,1≤j→j<k→¬Pr (1+j*q)) (fun s=>(2001000001-s).toNat) ⟨1,by omega,by omega,by omega,fun j h1 h2=>by omega⟩ ?_
  rintro s ⟨k,hk,rfl,hs,hn⟩
  have hkq:k*2≤k*q:=Nat.mul_le_mul_left k hq
  have hkc:(k:Int)*(q:Int)=((k*q:Nat):Int):=zgs k q
  refine zal (fun g=>?_) fun g=>?_
  ·have g:1+(k:Int)*(q:Int)≤2000000000:=by simpa using g
   refine zab (zhW _ (by omega)) ?_
   have hcast:1+(k:Int)*(q:Int)=((1+k*q:Nat):Int):=by omega
   cases hp:prB (1+(k:Int)*(q:Int))
   ·refine zgu rfl (zac ?_)
    have e:IntKind.i64.wrap (1+(k:Int)*(q:Int)+(q:Int))=1+((k+1:Nat):Int)*(q:Int):=by
     rw[zaj (by omega) (by omega)];grind
    refine⟨⟨k+1,by omega,e,by rw[zaj (by omega) (by omega)];omega,fun j h1 h2=>?_⟩,?_⟩
    ·rcases Nat.lt_or_ge j k with h|h
     ·exact hn j h1 h
     have:j=k:=by omega
     subst this
     intro hpr
     rw[hcast,zeU.2 hpr]at hp
     cases hp
    rw[zaj (by omega) (by omega)];omega
   refine za9 rfl ?_
   have hpr:Pr (1+k*q):=by rw[hcast]at hp;exact zeU.1 hp
   obtain⟨h0,a1,a2,a3⟩:=zuP hpr hk (by omega)
   have hdv:IntKind.i64.wrap ((IntKind.i64.wrap (1+(k:Int)*(q:Int)-1)).tdiv (q:Int))=(k:Int):=by
    rw[zaj (n:=1+(k:Int)*(q:Int)-1) (by omega) (by omega),zzu hq,zaj (by omega) (by omega)]
   simp only[hdv]
   simp only[hcast]
   refine zaf (ψ:=fun h=>2≤h∧h≤(h0:Int)) (zeO (fun s=>2≤s∧s≤(h0:Int)) (fun s=>(h0-s).toNat) (by omega) ?_) ?_
   ·rintro s ⟨s1,s2⟩
    have hpw:=(zfk (a:=s) (e:=(k:Int)) (m:=((1+k*q:Nat):Int)) (by omega) (by omega) (by omega) (by omega) (by omega) (by omega)).2
    refine zah (by omega) (zab hpw ?_)
    refine zal (fun g=>zac ?_) fun g=>zac ⟨s1,s2⟩
    rw[zaj (by omega) (by omega)]
    have hne:s≠(h0:Int):=fun e=>by
     subst e
     apply a3
     have g:((((h0:Int).toNat^(k:Int).toNat%((1+k*q:Nat):Int).toNat:Nat)):Int)=1:=by simpa only[beq_iff_eq]using g
     rw[Int.toNat_natCast,Int.toNat_natCast,Int.toNat_natCast]at g
     omega
    refine⟨⟨by omega,by omega⟩,?_⟩
    omega
   rintro h ⟨s1,s2⟩
   have hpw:=(zfk (a:=h) (e:=(k:Int)) (m:=((1+k*q:Nat):Int)) (by omega) (by omega) (by omega) (by omega) (by omega) (by omega)).2
   refine zah (by omega) (zab hpw (zac ?_))
   have hlt:h.toNat^(k:Int).toNat%((1+k*q:Nat):Int).toNat<1+k*q:=by
    rw[Int.toNat_natCast (1+k*q)]
    exact Nat.mod_lt _ (by omega)
   refine .inr ⟨_,rfl,⟨⟨by show(0:Int)≤((1+k*q:Nat):Int);omega,by show((1+k*q:Nat):Int)≤_;omega⟩,⟨by show(0:Int)≤(q:Int);omega,by show(q:Int)≤_;omega⟩,?_,?_⟩,rfl,rfl,by show(3:Int)≤((1+k*q:Nat):Int);omega⟩
   ·show(0:Int)≤((_:Nat):Int);omega
   show((_:Nat):Int)≤2000000000;omega
  refine zac (.inl ⟨rfl,fun j h1 h2 h3=>?_⟩)
  have g:¬1+(k:Int)*(q:Int)≤2000000000:=by simpa using g
  rcases Nat.lt_or_ge j k with h|h
  ·exact hn j h1 h h2
  have:k*q≤j*q:=Nat.mul_le_mul_right q h
  omega
 rintro b (⟨rfl,h⟩|⟨z,rfl,h1,h2,h3,h4⟩)
 ·exact zac ⟨⟨⟨by decide,by decide⟩,⟨by decide,by decide⟩,by decide,by decide⟩,fun h=>(by cases h),fun k h1 h2 h3 h4=>absurd h3 (h k h1 h2)⟩
 exact zac ⟨h1,fun _=>⟨h3,h4⟩,fun _ _ _ _ _=>h2⟩
theorem zgH {n:Nat}(hn:n<64) (h2:2≤n) (h:∀d,d<8→2≤d→d*d≤n→n%d≠0):Pr n:=by
 refine⟨h2,fun d h1 h3=>?_⟩
 rcases Nat.lt_or_ge d 8 with h8|h8
 ·exact h d h8 h1 h3
 have:8*8≤d*d:=Nat.mul_le_mul h8 h8
 omega
structure Gw (gr:Group):Prop where
 p: -10≤gr.P∧gr.P≤2100000000
 q: -10≤gr.Q∧gr.Q≤2100000000
 g: -10≤gr.G∧gr.G≤2100000000
theorem Gs.w {gr:Group}(h:Gs gr):Gw gr:=⟨by have:=h.p;omega,by have:=h.q;omega,by have:=h.g;omega⟩
theorem zzS {x:Int}(hx:x∈[(3:Int),5,5,7,11,11,13,23]):∃q k:Nat,x=(q:Int)∧3≤q∧q≤23∧1≤k∧Pr (1+k*q)∧1+k*q≤2000000000∧Pr q:=by
 simp only[List.mem_cons,List.not_mem_nil,or_false]at hx
 rcases hx with rfl|rfl|rfl|rfl|rfl|rfl|rfl|rfl
 ·exact⟨3,2,rfl,by decide,by decide,by decide,zgH (by decide) (by decide) (by decide),by decide,zgH (by decide) (by decide) (by decide)⟩
 ·exact⟨5,2,rfl,by decide,by decide,by decide,zgH (by decide) (by decide) (by decide),by decide,zgH (by decide) (by decide) (by decide)⟩
 ·exact⟨5,2,rfl,by decide,by decide,by decide,zgH (by decide) (by decide) (by decide),by decide,zgH (by decide) (by decide) (by decide)⟩
 ·exact⟨7,4,rfl,by decide,by decide,by decide,zgH (by decide) (by decide) (by decide),by decide,zgH (by decide) (by decide) (by decide)⟩
 ·exact⟨11,2,rfl,by decide,by decide,by decide,zgH (by decide) (by decide) (by decide),by decide,zgH (by decide) (by decide) (by decide)⟩
 ·exact⟨11,2,rfl,by decide,by decide,by decide,zgH (by decide) (by decide) (by decide),by decide,zgH (by decide) (by decide) (by decide)⟩
 ·exact⟨13,4,rfl,by decide,by decide,by decide,zgH (by decide) (by decide) (by decide),by decide,zgH (by decide) (by decide) (by decide)⟩
 exact⟨23,2,rfl,by decide,by decide,by decide,zgH (by decide) (by decide) (by decide),by decide,zgH (by decide) (by decide) (by decide)⟩
theorem zzN {code c0:List Int}{at_ seed n:Int}(hb:Bt code) (h:Cu code n (c0,at_,seed)) (hn:n≤7000000000000000):Rn (zcw c0 at_ seed) (fun z=>Gs z.1∧3≤z.1.Q∧z.1.Q≤23∧3≤z.1.P∧Cu code (n+2) z.2):=by
 unfold zcw
 refine zaf (zdP hb h (by omega) (by simp)) fun z ⟨z1,z2⟩=>?_
 obtain⟨q,k,e,q1,q2,k1,k2,k3,k4⟩:=zzS z1
 rw[e]
 refine zaf (zmu (by omega)) fun y ⟨y1,y2,y3⟩=>zac ?_
 have y4:=y2 (y3 k k1 k2 k3 k4)
 exact⟨y1,by show 3≤y.1.Q;omega,by show y.1.Q≤23;omega,y4.2,z2⟩
theorem zw9 {gr:Group}(h:Gs gr) (hq:1≤gr.Q) (hp:1≤gr.P) {x:Int}(hx:0≤x∧x≤2000000000) (e:Int):Rn (zat gr x e) (fun v=>0≤v∧v≤2000000000):=by
 have h1:=h.p
 have h2:=h.q
 have b1:0≤e%gr.Q:=Int.emod_nonneg _ (by omega)
 have b2:e%gr.Q<gr.Q:=Int.emod_lt_of_pos _ (by omega)
 have hw:=(zfk (a:=x) (e:=e%gr.Q) (m:=gr.P) (by omega) (by omega) (by omega) (by omega) b1 (by omega)).2
 unfold zat
 refine zab (zi9 (by omega) (by omega)) (zab hw (zac ?_))
 have hlt:x.toNat^(e%gr.Q).toNat%gr.P.toNat<gr.P.toNat:=Nat.mod_lt _ (by omega)
 omega
theorem zCo {x:Int}(hx:x∈[(101:Int),1009,1019,65537,999983]):∃q:Nat,x=(q:Int)∧q≤1000000:=by
 simp only[List.mem_cons,List.not_mem_nil,or_false]at hx
 rcases hx with rfl|rfl|rfl|rfl|rfl
 ·exact⟨101,rfl,by decide⟩
 ·exact⟨1009,rfl,by decide⟩
 ·exact⟨1019,rfl,by decide⟩
 ·exact⟨65537,rfl,by decide⟩
 exact⟨999983,rfl,by decide⟩
theorem zy4:Gs (Group.mk 1000000007 500000003 4):=⟨⟨by decide,by decide⟩,⟨by decide,by decide⟩,by decide,by decide⟩
theorem cu0 (code:List Int):Cu code 0 (code,0,0):=⟨rfl,Int.le_refl 0,Int.le_refl 0⟩
theorem zoa {code c0:List Int}{at_ seed n:Int}(hb:Bt code) (h:Cu code n (c0,at_,seed)) (hn:n≤6000000000000000):Rn (zbC c0 at_ seed) (fun z=>Gs z.1∧Cu code (n+6) z.2):=by
 unfold zbC
 refine zaf (zd8 hb h (by omega)) fun z ⟨z1,z2,z3,z4,z5⟩=>?_
 refine zal (fun _=>zac ⟨zy4,z5.mono (by omega)⟩) fun _=>zal (fun _=>?_) fun _=>?_
 ·refine zaf (zdP hb z5 (by omega) (by simp)) fun y ⟨y1,y2⟩=>?_
  obtain⟨q,e,hq⟩:=zCo y1
  rw[e]
  exact zaf (zmu hq) fun x ⟨x1,_,_⟩=>zac ⟨x1,y2.mono (by omega)⟩
 refine zaf (zzN hb z5 (by omega)) fun y ⟨y1,y2,y3,y4,y5⟩=>?_
 refine zaf (zd8 hb y5 (by omega)) fun x ⟨x1,x2,x3,x4,x5⟩=>?_
 have hg:=y1.g
 refine zaf (zw9 y1 (by omega) (by omega) hg _) fun v hv=>zac ⟨⟨y1.p,y1.q,hv⟩,x5.mono (by omega)⟩
theorem zs3 {code c0:List Int}{at_ seed n:Int}(hb:Bt code) (h:Cu code n (c0,at_,seed)) (hn:n≤5000000000000000):Rn (zbB c0 at_ seed) (fun z=>Gw z.1∧Cu code (n+10) z.2):=by
 unfold zbB
 refine zaf (zoa hb h (by omega)) fun z ⟨z1,z2⟩=>?_
 have g1:=z1.p
 have g2:=z1.q
 have g3:=z1.g
 refine zaf (zd8 hb z2 (by omega)) fun y ⟨_,_,_,_,y5⟩=>?_
 rw[zaj (n:=z.1.P+2) (by omega) (by omega),zaj (n:=z.1.Q+1) (by omega) (by omega),zaj (n:=z.1.P-1) (by omega) (by omega),zaj (n:=z.1.G+1) (by omega) (by omega)]
 refine zaf (ψ:=fun x=>Gw (Group.mk x.2.1 x.2.2.1 x.2.2.2)∧Cu code (n+10) x.1) ?_ fun x hx=>zac hx
 refine zal (fun _=>?_) fun _=>zal (fun _=>?_) fun _=>zal (fun _=>?_) fun _=>zac ⟨z1.w,y5.mono (by omega)⟩
 ·refine zaf (zdP hb y5 (by omega) (by simp)) fun x ⟨x1,x2⟩=>zac ⟨?_,x2.mono (by omega)⟩
  simp only[List.mem_cons,List.not_mem_nil,or_false]at x1
  exact⟨by show-10≤x.1∧x.1≤_;omega,by show-10≤z.1.Q∧z.1.Q≤_;omega,by show-10≤z.1.G∧z.1.G≤_;omega⟩
 ·refine zaf (zdP hb y5 (by omega) (by simp)) fun x ⟨x1,x2⟩=>zac ⟨?_,x2.mono (by omega)⟩
  simp only[List.mem_cons,List.not_mem_nil,or_false]at x1
  exact⟨by show-10≤z.1.P∧z.1.P≤_;omega,by show-10≤x.1∧x.1≤_;omega,by show-10≤z.1.G∧z.1.G≤_;omega⟩
 refine zaf (zdP hb y5 (by omega) (by simp)) fun x ⟨x1,x2⟩=>zac ⟨?_,x2.mono (by omega)⟩
 simp only[List.mem_cons,List.not_mem_nil,or_false]at x1
 exact⟨by show-10≤z.1.P∧z.1.P≤_;omega,by show-10≤z.1.Q∧z.1.Q≤_;omega,by show-10≤x.1∧x.1≤_;omega⟩
theorem zqM {code c0:List Int}{at_ seed n:Int}{gr:Group}(hb:Bt code) (h:Cu code n (c0,at_,seed)) (hn:n≤7000000000000000) (hg:gr.Q≤2100000000):Rn (zba c0 at_ seed gr) (fun z=>0≤z.1∧z.1≤2100000000∧(2≤gr.Q→z.1<gr.Q)∧Cu code (n+4) z.2):=by
 unfold zba
 refine zal (fun g=>zac ⟨Int.le_refl 0,by show(0:Int)≤_;omega,fun h=>by simp at g;omega,h.mono (by omega)⟩) fun g=>?_
 have g:2≤gr.Q:=by simp at g;omega
 refine zaf (zd8 hb h (by omega)) fun z ⟨z1,z2,z3,z4,z5⟩=>?_
 refine zaf (zd8 hb z5 (by omega)) fun y ⟨y1,y2,y3,y4,y5⟩=>zah (by omega) (zac ?_)
 rw[zaj (n:=z.1*60000) (by omega) (by omega),zaj (by omega) (by omega),Int.tmod_eq_emod_of_nonneg (by omega)]
 have b1:=Int.emod_nonneg (z.1*60000+y.1) (show gr.Q≠0 by omega)
 have b2:=Int.emod_lt_of_pos (z.1*60000+y.1) (show 0<gr.Q by omega)
 exact⟨b1,by show _%gr.Q≤_;omega,fun _=>b2,y5.mono (by omega)⟩
theorem zwT {code c0:List Int}{at_ seed n:Int}{gr:Group}{k:Nat}(hb:Bt code) (h:Cu code n (c0,at_,seed)) (hn:n≤5000000000000000) (hg:Gw gr) (hk:k≤1000000):Rn (zc2 c0 at_ seed gr (k:Int)) (fun z=>z.1.length=k∧(∀x∈z.1,0≤x∧x≤2100000000∧(2≤gr.Q→x<gr.Q))∧Cu code (n+4*k) z.2):=by
 unfold zc2
 refine zaf (ψ:=fun r=>r.2.length=k∧(∀x∈r.2,0≤x∧x≤2100000000∧(2≤gr.Q→x<gr.Q))∧Cu code (n+4*k) r.1) (zc3 k (fun j s=>s.2.1=(k:Int)-j∧s.2.2.length=j∧(∀x∈s.2.2,0≤x∧x≤2100000000∧(2≤gr.Q→x<gr.Q))∧Cu code (n+4*j) s.1) ⟨by show(k:Int)=_;omega,rfl,by simp,h.mono (by omega)⟩ ?_ ?_) fun r hr=>zac hr
 ·rintro j s hj ⟨h1,h2,h3,h4⟩
  refine zgu (by rw[h1];simp;omega) (zaf (zqM hb h4 (by omega) hg.q.2) fun z ⟨z1,z2,z3,z4⟩=>zah (by omega) (zac ⟨?_,by simp[h2],fun x hx=>?_,z4.mono (by omega)⟩))
  ·show IntKind.i64.wrap (s.2.1-1)=_
   rw[h1,zaj (by omega) (by omega)];omega
  rcases List.mem_append.1 hx with h|h
  ·exact h3 x h
  rw[List.mem_singleton.1 h];exact⟨z1,z2,z3⟩
 rintro s ⟨h1,h2,h3,h4⟩
 exact za9 (by rw[h1];simp) (zac ⟨h2,h3,h4⟩)
theorem zrF {a q:Int}(h0:0<q) (h1:q≤4000000000000000000):zcu a q=some (a%q):=by
 unfold zcu
 rw[zeB (by omega),zeB (by omega)]
 have b1:a.tmod q<q:=Int.tmod_lt_of_pos a h0
 have b2: -q<a.tmod q:=by
  have:=Int.lt_tmod_of_pos a h0
  omega
 rw[zaj (by omega) (by omega),Int.tmod_eq_emod_of_nonneg (by omega)]
 congr 1
 rw[Int.add_emod_right]
 rw[Int.tmod_def,Int.sub_emod,Int.mul_emod_right,Int.sub_zero,Int.emod_emod]
theorem zrD (a:Int) {m:Int}(h:0<m): -m<a.tmod m∧a.tmod m<m:=by
 have h1:=Int.tmod_lt_of_pos a h
 have h2:=Int.lt_tmod_of_pos a h
 omega
theorem zt9 (a:Int) {e m:Int}(h1:1≤m) (h2:0≤e) (h3:e≤4000000000000000000):Rn (za6 a e m) (fun v=>-m<v∧v<m):=by
 unfold za6
 refine zah (by omega) (zaf (ψ:=fun v=>-m<v∧v<m) (zeO (fun s=>(-m<s.2.2∧s.2.2<m)∧0≤s.2.1∧s.2.1≤e) (fun s=>s.2.1.toNat) ⟨zrD _ (by omega),h2,Int.le_refl _⟩ ?_) fun x hx=>zac hx)
 rintro s ⟨hs,h4,h5⟩
 refine zal (fun g=>?_) fun _=>zac hs
 have g:0<s.2.1:=by simpa using g
 refine zaf (ψ:=fun v=>-m<v∧v<m) (zal (fun _=>zah (by omega) (zac (zrD _ (by omega)))) fun _=>zac hs) fun x hx=>zah (by omega) (zac ?_)
 have e1:s.2.1.tdiv 2=s.2.1/2:=Int.tdiv_eq_ediv_of_nonneg (by omega)
 have e2:IntKind.i64.wrap (s.2.1.tdiv 2)=s.2.1/2:=by rw[e1,zaj (by omega) (by omega)]
 exact⟨⟨hx,by show 0≤IntKind.i64.wrap _;rw[e2];omega,by show IntKind.i64.wrap _≤e;rw[e2];omega⟩,by show(IntKind.i64.wrap _).toNat<_;rw[e2];omega⟩
theorem zw7 {gr:Group}(hq:1≤gr.Q∧gr.Q≤4000000000000000000) (hp:1≤gr.P) (x e:Int):Rn (zat gr x e) (fun v=>-gr.P<v∧v<gr.P):=by
 unfold zat
 refine zab (zrF (by omega) hq.2) (zaf (zt9 x hp (Int.emod_nonneg _ (by omega)) ?_) fun v hv=>zac hv)
 have:=Int.emod_lt_of_pos e (show 0<gr.Q by omega)
 omega
theorem zjq {code c0:List Int}{at_ seed n:Int}{gr:Group}(hb:Bt code) (h:Cu code n (c0,at_,seed)) (hn:n≤6000000000000000) (hg:Gw gr):Rn (zaU c0 at_ seed gr) (fun z=>-2200000000≤z.1∧z.1≤2200000000∧Cu code (n+4) z.2):=by
 have g1:=hg.p
 have g2:=hg.q
 unfold zaU
 refine zaf (ψ:=fun b=>b=false→3≤gr.P∧1≤gr.Q) (zal (fun _=>zac fun h=>by cases h) fun a=>zac fun b=>by simp at a b;omega) fun b hb'=>zal (fun _=>zac ⟨by show-2200000000≤(1:Int);decide,by show(1:Int)≤_;decide,h.mono (by omega)⟩) fun e=>?_
 obtain⟨k1,k2⟩:=hb' e
 refine zab (zrF (by omega) (by omega)) (zaf (zqM hb h (by omega) (by omega)) fun z ⟨z1,z2,_,z3⟩=>zaf (zw7 ⟨k2,by omega⟩ (by omega) _ _) fun v hv=>zac ⟨by show _≤v;omega,by show v≤_;omega,z3⟩)
theorem zfC {code c0:List Int}{at_ seed n:Int}{gr:Group}(hb:Bt code) (h:Cu code n (c0,at_,seed)) (hn:n≤5000000000000000) (hg:Gw gr):Rn (zaR c0 at_ seed gr) (fun z=>-2200000000≤z.1∧z.1≤2200000000∧Cu code (n+6) z.2):=by
 have g1:=hg.p
 unfold zaR
 refine zaf (zh5 hb h (by omega)) fun z z1=>zal (fun _=>?_) fun _=>zaf (zjq hb z1 (by omega) hg) fun y ⟨y1,y2,y3⟩=>zac ⟨y1,y2,y3.mono (by omega)⟩
 rw[zaj (n:=gr.P-1) (by omega) (by omega)]
 refine zaf (zdP hb z1 (by omega) (by simp)) fun y ⟨y1,y2⟩=>zac ?_
 simp only[List.mem_cons,List.not_mem_nil,or_false]at y1
 exact⟨by show-2200000000≤y.1;omega,by show y.1≤_;omega,y2.mono (by omega)⟩
theorem zmz {l:List Int}:zcQ l l=some true:=by
 unfold zcQ
 refine zaB (za9 (by simp) (zaf (ψ:=fun v=>v=.inl ()) (zci (fun _ _=>True) trivial ?_ fun s _=>rfl) ?_))
 ·rintro k s hk _
  exact zb1 hk (zb1 hk (za9 (by simp) (zac trivial)))
 rintro _ rfl
 exact zac rfl
def zbS (gr:Group) (c:Cipher):Bool:=zay gr c.A&&zay gr c.B
theorem zxd {gr:Group}(k:OkG gr) {c:Cipher}(h:zbS gr c=true):0≤c.A∧c.A≤2000000000∧0≤c.B∧c.B≤2000000000:=by
 simp only[zbS,Bool.and_eq_true]at h
 have h1:=zgS h.1
 have h2:=zgS h.2
 have hp:=k.p
 omega
theorem zy5 {gr:Group}(k:OkG gr) (l:List Cipher):Rn (zaA l gr.P gr.Q gr.G) (fun x=>(x=-1∧l.all (zbS gr)=true)∨(0≤x∧l.all (zbS gr)=false)):=by
 unfold zaA
 refine zaf (ψ:=fun x=>(x=.inl ()∧l.all (zbS gr)=true)∨(∃j:Nat,x=.inr (j:Int)∧l.all (zbS gr)=false)) (zci (fun n _=>∀m,m<n→∀h:m<l.length,zbS gr l[m]=true) (fun m hm=>by omega) ?_ fun s hs=>.inl ⟨rfl,?_⟩) ?_
 ·rintro n s hn hI
  refine zb1 hn ?_
  unfold zdo
  refine zaf (ψ:=fun b=>b= !zbS gr l[n]) (zab (zrx k l[n]) (zac rfl)) ?_
  rintro _ rfl
  refine zal (fun h=>zac (.inr ⟨n,rfl,?_⟩)) fun h=>zac fun m hm hl=>?_
  ·rw[List.all_eq_false]
   exact⟨l[n],List.getElem_mem hn,by simpa using h⟩
  rcases Nat.lt_or_ge m n with h1|h1
  ·exact hI m h1 hl
  have:m=n:=by omega
  subst this
  simpa using h
 ·rw[List.all_eq_true]
  intro x hx
  obtain⟨m,hm,rfl⟩:=List.mem_iff_getElem.1 hx
  exact hs m hm hm
 rintro x (⟨rfl,h⟩|⟨j,rfl,h⟩)
 ·exact zac (.inl ⟨rfl,h⟩)
 exact zac (.inr ⟨by show(0:Int)≤(j:Int);omega,h⟩)
theorem zqk {gr:Group}(k:OkG gr) (l:List Cipher):zcZ gr l=some (decide (l.length≤24)&&l.all (zbS gr)):=by
 unfold zcZ
 refine zaB (zaf (ψ:=fun b=>b=(decide (l.length≤24)&&l.all (zbS gr))) (zal (fun h=>?_) fun h=>zac ?_) fun b hb=>zac hb)
 ·have h:l.length≤24:=by simp at h;omega
  unfold zaF
  refine zaf (ψ:=fun b=>b= !l.all (zbS gr)) (zaf (zy5 k l) fun x hx=>zac ?_) ?_
  ·rcases hx with⟨rfl,h⟩|⟨h0,h⟩
   ·rw[h];rfl
   rw[h];simpa using h0
  rintro _ rfl
  exact zac (by simp[h])
 have h:¬l.length≤24:=by simp at h;omega
 simp[h]
theorem zxB {gr:Group}(k:OkG gr) (l:List Cipher):zgw gr l=some (decide (l.length≤24)&&l.all (zbS gr)):=by
 unfold zgw
 by_cases h:24<(l.length:Int)
 ·rw[if_pos (by simpa using h)]
  have h:¬l.length≤24:=by omega
  simp[h]
 rw[if_neg (by simpa using h)]
 refine(zwd l (zbS gr) false (fun n hn=>?_)).trans ?_
 ·rw[zgZ hn,Option.bind_some,zlJ k,Option.bind_some]
  have e:([l[n].A,l[n].B].all (zay gr))=zbS gr l[n]:=by simp[zbS]
  rw[e]
  cases zbS gr l[n]<;>rfl
 have h:l.length≤24:=by omega
 cases l.all (zbS gr)<;>simp[h]
theorem zvO {code c0:List Int}{at_ seed n:Int}{gr:Group}(hb:Bt code) (h:Cu code n (c0,at_,seed)) (hn:n≤4000000000000000) (hg:Gw gr):Rn (zcO c0 at_ seed gr) (fun z=>Cu code (n+8) z.2):=by
 unfold zcO
 exact zaf (zjq hb h (by omega) hg) fun z ⟨_,_,z3⟩=>zaf (zjq hb z3 (by omega) hg) fun y ⟨_,_,y3⟩=>zac (y3.mono (by omega))
theorem zmh {code c0:List Int}{at_ seed n:Int}{gr:Group}(hb:Bt code) (h:Cu code n (c0,at_,seed)) (hn:n≤4000000000000000) (hg:Gw gr):Rn (zbO c0 at_ seed gr) (fun z=>Cu code (n+12) z.2):=by
 unfold zbO
 exact zaf (zfC hb h (by omega) hg) fun z ⟨_,_,z3⟩=>zaf (zfC hb z3 (by omega) hg) fun y ⟨_,_,y3⟩=>zac (y3.mono (by omega))
theorem zyj {code c0:List Int}{at_ seed n:Int}{k:Nat}(hb:Bt code) (h:Cu code n (c0,at_,seed)) (hn:n≤4000000000000000) (hk:k≤1000):Rn (zdh c0 at_ seed (k:Int)) (fun z=>z.1.length=k∧Cu code (n+2*k+2) z.2):=by
 unfold zdh
 refine zaf (ψ:=fun l=>l.length=k) (zc3 k (fun j s=>s.2=(j:Int)∧s.1.length=j) ⟨rfl,rfl⟩ ?_ ?_) fun l hl=>?_
 ·rintro j ⟨l,i⟩ hj ⟨h1,h2⟩
  have h1:i=(j:Int):=h1
  have h2:l.length=j:=h2
  subst h1
  refine zgu (by simp;omega) (zah (by dsimp only;omega) (zac ⟨?_,by simp[h2]⟩))
  show IntKind.i64.wrap ((j:Int)+1)=_
  rw[zaj (by omega) (by omega)];push_cast;rfl
 ·rintro⟨l,i⟩ ⟨h1,h2⟩
  have h1:i=(k:Int):=h1
  subst h1
  exact za9 (by simp) (zac h2)
 rw[zaj (n:=(k:Int)-1) (by omega) (by omega)]
 refine zaf (ψ:=fun x=>x.2.length=k∧Cu code (n+2*k+2) x.1) (zeO (fun s=>s.2.1.length=k∧-1≤s.2.2∧s.2.2≤(k:Int)-1∧Cu code (n+2*((k:Int)-1-s.2.2)) s.1) (fun s=>s.2.2.toNat) ⟨hl,by dsimp only;omega,by dsimp only;omega,h.mono (by dsimp only;omega)⟩ ?_) fun x hx=>zac hx
 rintro⟨c,l,i⟩ ⟨h1,h2,h3,h4⟩
 have h1:l.length=k:=h1
 have h2: -1≤i:=h2
 have h3:i≤(k:Int)-1:=h3
 have h4:Cu code (n+2*((k:Int)-1-i)) c:=h4
 refine zal (fun g=>?_) fun g=>zac ⟨h1,h4.mono (by omega)⟩
 have g:0<i:=by simpa using g
 obtain⟨m,rfl⟩:=Int.eq_ofNat_of_zero_le (show 0≤i by omega)
 dsimp only
 rw[zaj (n:=(m:Int)+1) (by omega) (by omega)]
 refine zaf (zd8 hb h4 (by omega)) fun z ⟨z1,_,z3,_,z5⟩=>?_
 have z3:=z3 (by omega)
 obtain⟨j,hj⟩:=Int.eq_ofNat_of_zero_le z1
 rw[hj]
 refine zb1 (show m<l.length by omega) (zb1 (show j<l.length by omega) (zb1 (show j<(l.set _ _).length by rw[List.length_set];omega) (zac ⟨⟨by simp[h1],?_,?_,z5.mono ?_⟩,?_⟩)))
 ·show-1≤IntKind.i64.wrap ((m:Int)-1)
  rw[zaj (by omega) (by omega)];omega
 ·show IntKind.i64.wrap ((m:Int)-1)≤_
  rw[zaj (by omega) (by omega)];omega
 ·show _≤n+2*((k:Int)-1-IntKind.i64.wrap ((m:Int)-1))
  rw[zaj (by omega) (by omega)];omega
 show(IntKind.i64.wrap ((m:Int)-1)).toNat<(m:Int).toNat
 rw[zaj (by omega) (by omega)];omega
theorem znb {code c0:List Int}{at_ seed n:Int}{gr:Group}{k:Nat}(hb:Bt code) (h:Cu code n (c0,at_,seed)) (hn:n≤3000000000000000) (hg:Gw gr) (hk:k≤1000):Rn (zbY c0 at_ seed gr (k:Int)) (fun z=>z.1.length≤k+1∧Cu code (n+4*k+20) z.2):=by
 unfold zbY
 refine zaf (zwT hb h (by omega) hg (by omega)) fun z ⟨z1,_,z3⟩=>?_
 refine zaf (zd8 hb z3 (by omega)) fun p ⟨_,_,_,_,p5⟩=>?_
 refine zaf (ψ:=fun v=>Sum.elim (fun x=>x.2.length≤k+1∧Cu code (n+4*k+20) x.1) (fun y=>y.1.length≤k+1∧Cu code (n+4*k+20) y.2) v) ?_ ?_
 ·refine zal (fun _=>zah (by omega) (zac ⟨by simp[z1],p5.mono (by omega)⟩)) fun _=>zal (fun _=>zal (fun g=>?_) fun _=>zac ⟨by dsimp only;omega,p5.mono (by omega)⟩) fun _=>zal (fun _=>zal (fun g=>?_) fun _=>zac ⟨by dsimp only;omega,p5.mono (by omega)⟩) fun _=>zac ⟨by dsimp only;omega,p5.mono (by omega)⟩
  ·have g:0<(k:Int):=by simpa using g
   exact zah (by omega) (zac ⟨by simp[z1];omega,p5.mono (by omega)⟩)
  have g:0<(k:Int):=by simpa using g
  refine zaf (zd8 hb p5 (by omega)) fun q ⟨q1,q2,q3,_,q5⟩=>?_
  refine zaf (zdP hb q5 (by omega) (by simp)) fun w ⟨_,w2⟩=>?_
  obtain⟨j,hj⟩:=Int.eq_ofNat_of_zero_le q1
  have hlt:j<z.1.length:=by
   rcases Nat.lt_or_ge 1 k with h|h
   ·have:=q3 (by omega);omega
   ·have:=q2 (by omega);omega
  rw[hj]
  exact zb1 hlt (zac ⟨by show(z.1.set _ _).length≤_;rw[List.length_set];omega,w2.mono (by omega)⟩)
 rintro(x|y) hx
 ·exact zac hx
 exact zac hx
def byL (s:ByteArray):List Int:=s.data.toList.map fun b=>(b.toNat:Int)
theorem zh1 (s:ByteArray):(byL s).length=s.size:=by
 show(s.data.toList.map _).length=s.data.size
 rw[List.length_map,Array.length_toList]
theorem zuT (s:ByteArray):∀x∈byL s,0≤x∧x≤255:=by
 intro x hx
 obtain⟨b,_,rfl⟩:=List.mem_map.1 hx
 have:=b.toNat_lt
 omega
theorem zyM {s:ByteArray}{k:Nat}(h:k<s.size):ixs s (k:Int)=some ((byL s)[k]'(by rw[zh1];exact h)):=by
 have h2:k<s.data.size:=h
 simp[ixs,byL,h]
 rfl
theorem ztJ (s:ByteArray) (l:List Int) (hs:s.size≤1000000) (hl:l.length≤1000000000000):zfZ s l=some ((s.size:Int)::byL s++l):=by
 unfold zfZ
 refine zaB (zaf (ψ:=fun x=>x=(s.size:Int)::byL s) (zc3 s.size (fun n p=>n≤s.size∧p=((s.size:Int)::(byL s).take n,(n:Int))) ⟨by omega,by simp⟩ ?_ ?_) ?_)
 ·rintro n p hn ⟨_,rfl⟩
  have hn2:n<(byL s).length:=by rw[zh1];exact hn
  have hb:=zuT s _ (List.getElem_mem hn2)
  refine zal (fun _=>?_) fun h=>absurd h (by simp;omega)
  refine zab (zyM hn) (zah ?_ (zac ⟨by omega,?_⟩))
  ·simp only[List.length_cons,List.length_take,zh1];omega
  show((s.size:Int)::(byL s).take n++[_],_)=_
  rw[zaj (by omega) (by omega),zaj (by omega) (by omega),List.cons_append,List.take_append_getElem hn2]
  rfl
 ·rintro p ⟨_,rfl⟩
  refine zal (fun h=>absurd h (by simp)) fun _=>zac ?_
  show(s.size:Int)::(byL s).take s.size=_
  rw[List.take_of_length_le (by rw[zh1];omega)]
 rintro _ rfl
 refine zah ?_ (zac rfl)
 simp only[List.length_cons,zh1];omega
theorem ztt (s:ByteArray) (l:List Int) (hs:s.size≤1000000) (hl:l.length≤1000000000000):zgi s l=some ((s.size:Int)::byL s++l):=ztJ s l hs hl
def zbH (x:Int):Bool:=decide (0≤x)&&decide (x≤4611686018427387903)
theorem zc0 {x:Int}:zbH x=true↔0≤x∧x≤4611686018427387903:=by simp[zbH]
theorem ztg (x:Int):zfe x=some (zbH x):=by
 unfold zfe
 rw[zes];rfl
theorem ztj (x:Int):ze5 x=some (zbH x):=by
 unfold ze5
 rw[zgt];rfl
theorem zw6 (s:ByteArray):(byL s).all zbH=true:=by
 rw[List.all_eq_true]
 intro x hx
 have:=zuT s x hx
 exact zc0.2 ⟨by omega,by omega⟩
def hs1 (c s k:Int):Int:=(c*s+k+1)%2147483647
def ziQ (p:Int×Int) (x:Int):Int×Int:=(hs1 48271 (hs1 48271 p.1 (x%2147483648)) (x/2147483648),hs1 69621 (hs1 69621 p.2 (x%2147483648)) (x/2147483648))
def zl2 (l:List Int):Int:=let p:=(((l.length:Int)::l).foldl ziQ (1,2));p.1*2147483648+p.2
theorem zkb (c s k:Int):0≤hs1 c s k∧hs1 c s k≤2147483646:=by unfold hs1;omega
theorem zif {c s k:Int}(hc:c=48271∨c=69621) (hs:0≤s∧s≤2147483646) (hk:0≤k∧k≤2147483648):(IntKind.i64.wrap ((IntKind.i64.wrap ((IntKind.i64.wrap (c*s))+k))+1)).tmod 2147483647=hs1 c s k:=by
 rcases hc with rfl|rfl
 ·rw[zaj (n:=48271*s) (by omega) (by omega),zaj (n:=48271*s+k) (by omega) (by omega),zaj (by omega) (by omega),Int.tmod_eq_emod_of_nonneg (by omega)];rfl
 rw[zaj (n:=69621*s) (by omega) (by omega),zaj (n:=69621*s+k) (by omega) (by omega),zaj (by omega) (by omega),Int.tmod_eq_emod_of_nonneg (by omega)];rfl
def okP (p:Int×Int):Prop:=(0≤p.1∧p.1≤2147483646)∧(0≤p.2∧p.2≤2147483646)
theorem zwN (p:Int×Int) (x:Int):okP (ziQ p x):=⟨zkb _ _ _,zkb _ _ _⟩
theorem ziH:∀(l:List Int) (p:Int×Int),okP p→okP (l.foldl ziQ p)
 |[],_,h=>h
 |x::l,p,_=>ziH l _ (zwN p x)
theorem zuJ (l:List Int):zbH (zl2 l)=true:=by
 obtain⟨h1,h2⟩:=ziH ((l.length:Int)::l) (1,2) ⟨by decide,by decide⟩
 refine zc0.2 ?_
 unfold zl2
 dsimp only
 omega
theorem zpN {p:Int×Int}{x:Int}(hp:okP p) (hx:zbH x=true):zbZ p.1 p.2 x=some (ziQ p x):=by
 obtain⟨h1,h2⟩:=hp
 have hx:=zc0.1 hx
 have e1:x.tmod 2147483648=x%2147483648:=Int.tmod_eq_emod_of_nonneg hx.1
 have e2:IntKind.i64.wrap (x.tdiv 2147483648)=x/2147483648:=by
  rw[Int.tdiv_eq_ediv_of_nonneg hx.1,zaj (by omega) (by omega)]
 have b1:0≤x%2147483648∧x%2147483648≤2147483648:=by omega
 have b2:0≤x/2147483648∧x/2147483648≤2147483648:=by omega
 have h0:ix [x%2147483648,x/2147483648] 0=some (x%2147483648):=rfl
 have h1':ix [x%2147483648,x/2147483648] 1=some (x/2147483648):=rfl
 unfold zbZ
 rw[e1,e2,Option.bind_some,zkE]
 simp only[List.length_cons,List.length_nil,show decide ((0:Int)<((0+1+1:Nat):Int))=true from rfl,if_true,h0,Option.bind_some,zif (.inl rfl) h1 b1,zif (.inr rfl) h2 b1]
 rw[zkE]
 simp only[show IntKind.i64.wrap (0+1)=1 from rfl,show decide ((1:Int)<((0+1+1:Nat):Int))=true from rfl,if_true,h1',Option.bind_some,zif (.inl rfl) (zkb _ _ _) b2,zif (.inr rfl) (zkb _ _ _) b2]
 rw[zkE]
 simp only[show IntKind.i64.wrap (1+1)=2 from rfl,show decide ((2:Int)<((0+1+1:Nat):Int))=false from rfl,Bool.false_eq_true,if_false,Option.bind_some]
 rfl
theorem zr2 {l:List Int}(h:l.all zbH=true) {k:Nat}(hk:k<l.length):zbH l[k]=true:=List.all_eq_true.1 h _ (List.getElem_mem hk)
theorem zwR {l:List Int}(hl:l.length≤1000000000000) (hd:l.all zbH=true):zgv l=some (zl2 l):=by
 unfold zgv
 have e0:=zpN (p:=(1,2)) (x:=(l.length:Int)) ⟨by decide,by decide⟩ (zc0.2 ⟨by omega,by omega⟩)
 refine zaB (zab e0 (zaf (ψ:=fun p=>p=((l.length:Int)::l).foldl ziQ (1,2)) (zci (fun n p=>p=((l.length:Int)::l.take n).foldl ziQ (1,2)) rfl ?_ ?_) ?_))
 ·rintro n p hn rfl
  refine zb1 hn (zab (zpN (ziH _ _ ⟨by decide,by decide⟩) (zr2 hd hn)) (zac ?_))
  show ziQ _ _=_
  rw[←List.take_append_getElem hn,←List.cons_append,List.foldl_append]
  rfl
 ·rintro p rfl
  show(((l.length:Int)::l.take l.length).foldl ziQ (1,2))=_
  rw[List.take_length]
 rintro p rfl
 obtain⟨h1,h2⟩:=ziH ((l.length:Int)::l) (1,2) ⟨by decide,by decide⟩
 refine zac ?_
 rw[zaj (n:=_*2147483648) (by omega) (by omega),zaj (by omega) (by omega)]
 rfl
theorem zvK {x:Int}(hx:zbH x=true):IntKind.i64.wrap (BitVec.ofInt IntKind.i64.bits x&&&BitVec.ofInt IntKind.i64.bits 2147483647).toNat=x%2147483648:=by
 have hx:=zc0.1 hx
 obtain⟨n,rfl⟩:=Int.eq_ofNat_of_zero_le hx.1
 have h1:(BitVec.ofInt IntKind.i64.bits ((n:Nat):Int)&&&BitVec.ofInt IntKind.i64.bits 2147483647).toNat=n%2147483648:=by
  rw[BitVec.toNat_and]
  have a1:(BitVec.ofInt IntKind.i64.bits (n:Int)).toNat=n:=by
   rw[BitVec.toNat_ofInt]
   have:IntKind.i64.bits=64:=rfl
   rw[this]
   omega
  have a2:(BitVec.ofInt IntKind.i64.bits 2147483647).toNat=2^31-1:=by decide
  rw[a1,a2,Nat.and_two_pow_sub_one_eq_mod]
 rw[h1,zaj (by omega) (by omega)]
 omega
theorem zzY {l:List Int}(hl:l.length≤1000000000000) (hd:l.all zbH=true):zgR l=some (zl2 l):=by
 unfold zgR
 have hd2:((l.length:Int)::l).all zbH=true:=by
  rw[List.all_cons,hd,Bool.and_true]
  exact zc0.2 ⟨by omega,by omega⟩
 refine zaB (zah (by simp only[List.length_cons,List.length_nil];omega) (zab rfl (zaf (ψ:=fun p=>p=((l.length:Int)::l).foldl ziQ (1,2)) (zci (fun n p=>p=(((l.length:Int)::l).take n).foldl ziQ (1,2)) rfl ?_ ?_) ?_)))
 ·rintro n p hn rfl
  have ok:=ziH ((((l.length:Int)::l)).take n) (1,2) ⟨by decide,by decide⟩
  have dg:=zr2 hd2 hn
  have b:=zc0.1 dg
  have ef:(((l.length:Int)::l)[n]).fdiv 2147483648=((l.length:Int)::l)[n]/2147483648:=Int.fdiv_eq_ediv_of_nonneg _ (by omega)
  have hn':n<((l.length:Int)::l).length:=hn
  refine zb1 hn (zac ?_)
  show(_,_)=_
  simp only[List.singleton_append]
  rw[zvK dg,ef,zif (.inl rfl) ok.1 (by omega),zif (.inr rfl) ok.2 (by omega),zif (.inl rfl) (zkb _ _ _) (by omega),zif (.inr rfl) (zkb _ _ _) (by omega),
   ←List.take_append_getElem hn',List.foldl_append]
  rfl
 ·rintro p rfl
  show((((l.length:Int)::l).take ([(l.length:Int)]++l).length).foldl ziQ (1,2))=_
  rw[List.singleton_append,List.take_length]
 rintro p rfl
 obtain⟨h1,h2⟩:=ziH ((l.length:Int)::l) (1,2) ⟨by decide,by decide⟩
 refine zac ?_
 rw[zaj (n:=_*2147483648) (by omega) (by omega),zaj (by omega) (by omega)]
 rfl
def zi5 (s:ByteArray) (l:List Int):Int:=zl2 ((s.size:Int)::byL s++l)
theorem zm5 (s:ByteArray) (l:List Int):zbH (zi5 s l)=true:=zuJ _
def zhK (s:ByteArray) (l:List Int):Bool:=decide (s.size≤40)&&decide (1+s.size+l.length≤400)&&l.all zbH
theorem zr8 {s:ByteArray}{l:List Int}(hs:s.size≤1000000):((s.size:Int)::byL s++l).all zbH=l.all zbH:=by
 rw[List.cons_append,List.all_cons,List.all_append,zw6,zc0.2 ⟨by omega,by omega⟩,Bool.true_and,Bool.true_and]
theorem zmi {s:ByteArray}{l:List Int}(hs:s.size≤1000000) (hl:l.length≤100000000000) (hd:l.all zbH=true):zec s l=some (zi5 s l):=by
 unfold zec
 rw[ztJ s l hs (by omega),Option.bind_some,zwR (by simp[zh1];omega) (by rw[zr8 hs];exact hd)]
 rfl
theorem zp6 (l:List Int):zeA l=some (decide (l.length≤400)&&l.all zbH):=by
 unfold zeA
 have h1:zcS l=some (l.all zbH):=ziv (f:=zb3) fun x _=>by
  unfold zb3
  rw[ztg];rfl
 rw[h1]
 by_cases h:l.length≤400
 ·rw[if_pos (by simp;omega)];simp[h]
 rw[if_neg (by simp;omega)];simp[h]
theorem zsp (l:List Int):zff l=some (if(decide (l.length≤400)&&l.all zbH)=true then(zl2 l,true)else(0,false)):=by
 unfold zff
 rw[zp6,Option.bind_some]
 cases h:(decide (l.length≤400)&&l.all zbH)with
 |true=>
  simp only[Bool.and_eq_true,decide_eq_true_eq]at h
  rw[zzY (by omega) h.2];rfl
 |false=>rfl
theorem zjZ (s:ByteArray) (l:List Int):zcC s l=some (if zhK s l=true then(zi5 s l,true)else(0,false)):=by
 unfold zcC
 by_cases h1:s.size≤40
 ·by_cases h2:l.length≤400
  ·rw[if_neg (by simp;omega),Option.bind_some,if_neg (by simp;omega),ztt s l (by omega) (by omega),Option.bind_some,zsp,zr8 (by omega)]
   have e:((s.size:Int)::byL s++l).length=1+s.size+l.length:=by simp[zh1];omega
   rw[e]
   have e2:zhK s l=(decide (1+s.size+l.length≤400)&&l.all zbH):=by simp[zhK,h1]
   rw[e2]
   cases decide (1+s.size+l.length≤400)<;>cases l.all zbH<;>rfl
  rw[if_neg (by simp;omega),Option.bind_some,if_pos (by simp;omega)]
  have:zhK s l=false:=by
   have:¬1+s.size+l.length≤400:=by omega
   simp[zhK,this]
  rw[this];rfl
 rw[if_pos (by simp;omega),Option.bind_some,if_pos rfl]
 have:zhK s l=false:=by simp[zhK,h1]
 rw[this];rfl
theorem zuM {p:Nat}(hp:Pr p) {b:Nat}(h1:1≤b) (h2:b<p):∀e:Nat,b^e%p≠0
 |0=>by
  have:=hp.1
  rw[Nat.pow_zero,Nat.mod_eq_of_lt (by omega)];omega
 |e+1=>fun h=>by
  have hb:((b^e:Nat):Int)%(p:Int)=0∨(b:Int)%(p:Int)=0:=zj3 hp (by
   rw[←Int.natCast_mul,←Nat.pow_succ,←Int.natCast_emod,h];rfl)
  rcases hb with h3|h3
  ·exact zuM hp h1 h2 e (by rw[←Int.natCast_emod]at h3;omega)
  ·rw[←Int.natCast_emod,Nat.mod_eq_of_lt h2]at h3;omega
def zkX (gr:Group) (s:ByteArray) (k c:Int):Int:=1+zi5 s [gr.P,gr.Q,gr.G,k,c]%(gr.P-1)
def zfs (gr:Group) (s:ByteArray) (k c:Int):Int:=(((zkX gr s k c).toNat^((gr.P-1)/gr.Q).toNat%gr.P.toNat:Nat):Int)
theorem zn9 {gr:Group}(k:OkG gr) (s:ByteArray) (i c:Int):1≤zkX gr s i c∧zkX gr s i c≤gr.P-1:=by
 have hp:=k.p
 have h1:=Int.emod_nonneg (zi5 s [gr.P,gr.Q,gr.G,i,c]) (show gr.P-1≠0 by omega)
 have h2:=Int.emod_lt_of_pos (zi5 s [gr.P,gr.Q,gr.G,i,c]) (show 0<gr.P-1 by omega)
 unfold zkX
 omega
theorem zoE {gr:Group}(k:OkG gr) (s:ByteArray) (i c:Int):1≤zfs gr s i c∧zfs gr s i c≤gr.P-1:=by
 have hp:=k.p
 have hx:=zn9 k s i c
 have h1:=zuM k.pp (b:=(zkX gr s i c).toNat) (by omega) (by omega) ((gr.P-1)/gr.Q).toNat
 have h2:=Nat.mod_lt ((zkX gr s i c).toNat^((gr.P-1)/gr.Q).toNat) (show 0<gr.P.toNat by omega)
 unfold zfs
 omega
theorem zrT {gr:Group}(k:OkG gr) (s:ByteArray) (i c:Int):
 zbE (IntKind.i64.wrap (1+((zi5 s [gr.P,gr.Q,gr.G,i,c]).tmod (IntKind.i64.wrap (gr.P-1))))) (IntKind.i64.wrap ((IntKind.i64.wrap (gr.P-1)).tdiv gr.Q)) gr.P=some (zfs gr s i c)∧
 za6 (IntKind.i64.wrap (1+((zi5 s [gr.P,gr.Q,gr.G,i,c]).tmod (IntKind.i64.wrap (gr.P-1))))) (IntKind.i64.wrap ((IntKind.i64.wrap (gr.P-1)).tdiv gr.Q)) gr.P=some (zfs gr s i c):=by
 have hp:=k.p
 have hq:=k.q
 have hd:=zc0.1 (zm5 s [gr.P,gr.Q,gr.G,i,c])
 have hx:=zn9 k s i c
 have e1:IntKind.i64.wrap (gr.P-1)=gr.P-1:=zaj (by omega) (by omega)
 have e2:IntKind.i64.wrap (1+((zi5 s [gr.P,gr.Q,gr.G,i,c]).tmod (gr.P-1)))=zkX gr s i c:=by
  rw[Int.tmod_eq_emod_of_nonneg hd.1]
  unfold zkX at hx⊢
  exact zaj (by omega) (by omega)
 have h3:(gr.P-1)/gr.Q≤gr.P-1:=Int.ediv_le_self _ (by omega)
 have h4:0≤(gr.P-1)/gr.Q:=Int.ediv_nonneg (by omega) (by omega)
 have e3:IntKind.i64.wrap ((gr.P-1).tdiv gr.Q)=(gr.P-1)/gr.Q:=by
  rw[Int.tdiv_eq_ediv_of_nonneg (by omega),zaj (by omega) (by omega)]
 rw[e1,e2,e3]
 exact zfk (by omega) (by omega) (by omega) (by omega) h4 (by omega)
theorem zsa {gr:Group}(k:OkG gr) {i c:Int}(hi:zbH i=true) (hc:0≤c∧c≤1000):[gr.P,gr.Q,gr.G,i,c].all zbH=true:=by
 have hp:=k.p
 have hq:=k.q
 have hg:=k.g
 simp only[List.all_cons,List.all_nil,Bool.and_true,Bool.and_eq_true]
 exact⟨zc0.2 (by omega),zc0.2 (by omega),zc0.2 (by omega),hi,zc0.2 (by omega)⟩
def zhO (gr:Group) (s:ByteArray) (i y:Int):Prop:=(∃c:Nat,c<1000∧y=zfs gr s i c∧zfs gr s i c≠1∧∀j:Nat,j<c→zfs gr s i j=1)∨(y=0∧∀j:Nat,j<1000→zfs gr s i j=1)
theorem zlf {gr:Group}(k:OkG gr) {s:ByteArray}{i x y:Int}(h1:zhO gr s i x) (h2:zhO gr s i y):x=y:=by
 rcases h1 with⟨c,hc,rfl,h3,h4⟩|⟨rfl,h4⟩<;>rcases h2 with⟨d,hd,rfl,h5,h6⟩|⟨rfl,h6⟩
 ·rcases Nat.lt_trichotomy c d with h|h|h
  ·exact absurd (h6 c h) h3
  ·rw[h]
  exact absurd (h4 d h) h5
 ·exact absurd (h6 c hc) h3
 ·exact absurd (h4 d hd) h5
 rfl
theorem zwU {gr:Group}(k:OkG gr) {s:ByteArray}{i x:Int}(h1:zhO gr s i x):0≤x∧x≤gr.P-1:=by
 have hp:=k.p
 rcases h1 with⟨c,hc,rfl,h3,h4⟩|⟨rfl,h4⟩
 ·have:=zoE k s i c;omega
 omega
theorem zsQ {gr:Group}(k:OkG gr) {s:ByteArray}(hs:s.size≤40) {i:Int}(hi:zbH i=true):Rn (zc9 gr s i) (zhO gr s i):=by
 have hp:=k.p
 have hq:=k.q
 unfold zc9
 refine zaf (ψ:=fun x=>(x=.inl ()∧∀j:Nat,j<1000→zfs gr s i j=1)∨∃c:Nat,c<1000∧x=.inr (zfs gr s i c)∧zfs gr s i c≠1∧∀j:Nat,j<c→zfs gr s i j=1)
  (zc3 1000 (fun n p=>p=(n:Int)∧n≤1000∧∀j:Nat,j<n→zfs gr s i j=1) ⟨rfl,by omega,fun j hj=>by omega⟩ ?_ ?_) ?_
 ·rintro n p hn ⟨rfl,_,hI⟩
  refine zal (fun _=>?_) fun h=>absurd h (by simp;omega)
  refine zab (zmi (by omega) (by simp) (zsa k hi (by omega))) (zah (by rw[zaj (by omega) (by omega)];omega) (zah (by omega) (zab (zrT k s i n).2 (zal (fun h=>zac (.inr ⟨n,hn,rfl,by simpa using h,hI⟩)) fun h=>zac ⟨by rw[zaj (by omega) (by omega)];rfl,hn,fun j hj=>?_⟩))))
  rcases Nat.lt_or_ge j n with h1|h1
  ·exact hI j h1
  have:j=n:=by omega
  subst this
  simpa using h
 ·rintro p ⟨rfl,_,hI⟩
  refine zal (fun h=>absurd h (by simp)) fun _=>zac (.inl ⟨rfl,hI⟩)
 rintro x (⟨rfl,h⟩|⟨c,hc,rfl,h⟩)
 ·exact zac (.inr ⟨rfl,h⟩)
 exact zac (.inl ⟨c,hc,rfl,h⟩)
theorem zvX {gr:Group}(k:OkG gr) {s:ByteArray}(hs:s.size≤40) {i:Int}(hi:zbH i=true):Rn (zbN gr s i) (fun x=>zhO gr s i x.1∧x.2=decide (0<x.1)):=by
 have hp:=k.p
 have hq:=k.q
 unfold zbN
 refine zaf (ψ:=fun x=>(x=.inl ()∧∀j:Nat,j<1000→zfs gr s i j=1)∨∃c:Nat,c<1000∧x=.inr (zfs gr s i c,true)∧zfs gr s i c≠1∧∀j:Nat,j<c→zfs gr s i j=1)
  (zc3 1000 (fun n p=>p=(n:Int)∧n≤1000∧∀j:Nat,j<n→zfs gr s i j=1) ⟨rfl,by omega,fun j hj=>by omega⟩ ?_ ?_) ?_
 ·rintro n p hn ⟨rfl,_,hI⟩
  refine zal (fun _=>?_) fun h=>absurd h (by simp;omega)
  have hl:zhK s [gr.P,gr.Q,gr.G,i,(n:Int)]=true:=by
   have:=zsa k (i:=i) (c:=n) hi (by omega)
   simp only[zhK,this,Bool.and_true,List.length_cons,List.length_nil,Bool.and_eq_true,decide_eq_true_eq]
   omega
  have eh:zcC s [gr.P,gr.Q,gr.G,i,(n:Int)]=some (zi5 s [gr.P,gr.Q,gr.G,i,(n:Int)],true):=by rw[zjZ,if_pos hl]
  refine zab eh (za9 rfl (zah (by rw[zaj (by omega) (by omega)];omega) (zah (by omega) (zab (zrT k s i n).1 (zal (fun h=>zac (.inr ⟨n,hn,rfl,by simpa using h,hI⟩)) fun h=>zac ⟨by rw[zaj (by omega) (by omega)];rfl,hn,fun j hj=>?_⟩)))))
  rcases Nat.lt_or_ge j n with h1|h1
  ·exact hI j h1
  have:j=n:=by omega
  subst this
  simpa using h
 ·rintro p ⟨rfl,_,hI⟩
  refine zal (fun h=>absurd h (by simp)) fun _=>zac (.inl ⟨rfl,hI⟩)
 rintro x (⟨rfl,h⟩|⟨c,hc,rfl,h⟩)
 ·exact zac ⟨.inr ⟨rfl,h⟩,rfl⟩
 have:=zoE k s i c
 exact zac ⟨.inl ⟨c,hc,rfl,h⟩,by symm;simp;omega⟩
theorem zpc {gr:Group}(k:OkG gr) {s:ByteArray}(hs:s.size≤40) {i:Int}(hi:zbH i=true):∃y,zc9 gr s i=some y∧zbN gr s i=some (y,decide (0<y))∧zhO gr s i y:=by
 obtain⟨y,h1,h2⟩:=zsQ k hs hi
 obtain⟨⟨z,t⟩,h3,h4,h5⟩:=zvX k hs hi
 refine⟨y,h1,?_,h2⟩
 simp only at h4 h5
 have:z=y:=zlf k h4 h2
 subst this
 rw[h3,h5]
theorem zr0 {α:Type}{R:Nat→α→Prop}{l:List α}{n:Nat}{z:α}(hl:l.length=n) (h:∀j (h:j<l.length),R j l[j]) (hz:R n z):∀j (h:j<(l++[z]).length),R j (l++[z])[j]:=by
 intro j hj
 rw[List.getElem_append]
 split
 ·exact h j _
 have hj:j<n+1:=by simpa[hl]using hj
 have e:j=n:=by omega
 subst e
 simpa[hl]using hz
def zoC (gr:Group) (n:Nat) (l:List Int):Prop:=l.length=n∧∀j (h:j<l.length),zhO gr ⟨#[104,115]⟩ j l[j]
theorem zxo {gr:Group}(k:OkG gr) {n:Nat}(hn:n≤24):∃b t,zcX gr (n:Int)=some (b,t)∧zav gr (n:Int)=some (b,t)∧
 (t=true→zhO gr ⟨#[104]⟩ 0 b.H∧0<b.H∧zoC gr n b.Hs∧∀x∈b.Hs,0<x):=by
 have hp:=k.p
 obtain⟨y,hy1,hy2,hy3⟩:=zpc k (s:=⟨#[104]⟩) (by decide) (i:=0) rfl
 have hok:okG gr=true:=znl.2 k
 have D:∀m:Nat,m<24→∃z,zc9 gr ⟨#[104,115]⟩ m=some z∧zbN gr ⟨#[104,115]⟩ m=some (z,decide (0<z))∧zhO gr ⟨#[104,115]⟩ m z:=fun m hm=>zpc k (by decide) (zc0.2 ⟨by omega,by omega⟩)
 have S:Rn (zdx gr ⟨#[104,115]⟩ (n:Int)) (fun x=>(x.2=true∧zoC gr n x.1∧∀z∈x.1,0<z)∨(x=([],false)∧∃m:Nat,m<n∧zhO gr ⟨#[104,115]⟩ m 0)):=by
  unfold zdx
  refine zaf (ψ:=fun b=>b=false) ?_ ?_
  ·refine zab (zi7 gr) (za9 (by rw[hok];rfl) (za9 rfl (zab (zgt _ _ _) (zac ?_))))
   simp;omega
  ·rintro _ rfl
   refine za9 rfl (zaf (ψ:=fun x=>(∃l,x=.inl l∧zoC gr n l∧∀z∈l,0<z)∨(x=.inr ([],false)∧∃m:Nat,m<n∧zhO gr ⟨#[104,115]⟩ m 0)) (zc3 n (fun m p=>p.2=(m:Int)∧m≤n∧zoC gr m p.1∧∀z∈p.1,0<z) ⟨rfl,by omega,⟨rfl,fun j hj=>by simp at hj⟩,fun z hz=>by simp at hz⟩ ?_ ?_) ?_)
   ·rintro m ⟨l,c⟩ hm ⟨h1,_,hD,hpos⟩
    simp only at h1 hD hpos
    subst h1
    obtain⟨z,z1,z2,z3⟩:=D m (by omega)
    have zb:=zwU k z3
    refine zal (fun _=>?_) fun h=>absurd h (by simp;omega)
    refine zab z1 (zal (fun h=>zac (.inr ⟨rfl,m,hm,?_⟩)) fun h=>zah ?_ (zac ⟨?_,hm,⟨by simp[hD.1],zr0 hD.1 hD.2 z3⟩,fun w hw=>?_⟩))
    ·have:z=0:=by simpa using h
     rw[←this];exact z3
    ·have:=hD.1;simp only;omega
    ·show IntKind.i64.wrap _=_
     rw[zaj (by omega) (by omega)];rfl
    ·rcases List.mem_append.1 hw with h1|h1
     ·exact hpos w h1
     ·have:w=z:=by simpa using h1
      subst this
      have:¬w=0:=by simpa using h
      omega
   ·rintro⟨l,_⟩ ⟨rfl,_,hD⟩
    exact zal (fun h=>absurd h (by simp)) fun _=>zac (.inl ⟨l,rfl,hD⟩)
   ·rintro x (⟨l,rfl,h⟩|⟨rfl,h⟩)
    ·exact zac (.inl ⟨rfl,h⟩)
    ·exact zac (.inr ⟨rfl,h⟩)
 have I:Rn (zbo (σ:=Int×List Int×Bool×Int) (β:=Int×List Int×Bool) (fun s16=>
 if decide (s16.2.2.2<(n:Int))=true then(
 (zbN gr (⟨#[104,115]⟩:ByteArray) s16.2.2.2).bind fun z22=>
 ((if s16.2.2.1=true then(
 some z22.2)else(
 some false):Option Bool).bind fun x25=>
 gd ((s16.2.1.length+1)*8≤140737488355328∧s16.2.1.length+1≤4611686018427387904)<|
 some (.go (s16.1,s16.2.1++[z22.1],x25,IntKind.i64.wrap (s16.2.2.2+1)))))else(
 some (.out (s16.1,s16.2.1,s16.2.2.1)))) (y,[],true,0)) (fun x=>x.1=y∧zoC gr n x.2.1∧x.2.2=x.2.1.all (fun z=>decide (0<z))):=by
  refine zc3 n (fun m p=>p.1=y∧p.2.2.2=(m:Int)∧m≤n∧zoC gr m p.2.1∧p.2.2.1=p.2.1.all (fun z=>decide (0<z))) ⟨rfl,rfl,by omega,⟨rfl,fun j hj=>by simp at hj⟩,rfl⟩ ?_ ?_
  ·rintro m ⟨w,l,t,c⟩ hm ⟨h1,h2,_,hD,h3⟩
   simp only at h1 h2 hD h3
   subst h1 h2 h3
   obtain⟨z,z1,z2,z3⟩:=D m (by omega)
   refine zal (fun _=>?_) fun h=>absurd h (by simp;omega)
   refine zab z2 (zaf (ψ:=fun b=>b=(l.all (fun z=>decide (0<z))&&decide (0<z))) (zal (fun h=>zac ?_) fun h=>zac ?_) ?_)
   ·simp only at h;rw[h];rfl
   ·simp only at h;rw[h];rfl
   ·rintro _ rfl
    refine zah (by have:=hD.1;dsimp only;omega) (zac ⟨rfl,?_,hm,⟨by simp[hD.1],zr0 hD.1 hD.2 z3⟩,?_⟩)
    ·show IntKind.i64.wrap ((m:Int)+1)=_
     rw[zaj (by omega) (by omega)];rfl
    ·show _=(l++[z]).all _
     simp
  ·rintro⟨w,l,t,c⟩ ⟨h1,h2,_,hD,h3⟩
   simp only at h1 h2 hD h3
   subst h1 h2 h3
   exact zal (fun h=>absurd h (by simp)) fun _=>zac ⟨rfl,hD,rfl⟩
 obtain⟨⟨b,l,t⟩,i1,i2,i3,i4⟩:=I
 simp only at i2 i3 i4
 subst i2
 obtain⟨⟨l2,t2⟩,s1,s2⟩:=S
 have E:t2=t∧(t=true→l2=l∧∀z∈l,0<z):=by
  rcases s2 with⟨h1,h2,h3⟩|⟨h1,m,hm,h3⟩
  ·simp only at h1 h2 h3
   have e:l2=l:=List.ext_getElem (h2.1.trans i3.1.symm) fun j a c=>zlf k (h2.2 j a) (i3.2 j c)
   subst e
   have:l2.all (fun z=>decide (0<z))=true:=by simpa using h3
   rw[this]at i4
   exact⟨by rw[h1,i4],fun _=>⟨rfl,h3⟩⟩
  ·cases h1
   have hml:m<l.length:=by rw[i3.1];exact hm
   have:l[m]=0:=zlf k (i3.2 m hml) h3
   have hf:l.all (fun z=>decide (0<z))=false:=by
    rw[List.all_eq_false]
    exact⟨l[m],List.getElem_mem hml,by simp[this]⟩
   rw[hf]at i4
   exact⟨i4.symm,fun h=>by rw[i4]at h;cases h⟩
 have S0:zcX gr (n:Int)=some (if(decide (0<b)&&t2)=true then(⟨b,l2⟩,true)else(⟨0,[]⟩,false)):=by
  have hD:zdO gr ⟨#[104]⟩ 0=some (b,decide (0<b)):=by
   unfold zdO
   rw[zi7,hok]
   simp only[Option.bind_some,Bool.not_true,Bool.false_eq_true,if_false]
   rw[if_neg (show¬(decide (40<(((⟨#[104]⟩:ByteArray).size:Nat):Int))=true)by decide),ztj,Option.bind_some,Option.bind_some,if_neg (by decide),hy1,Option.bind_some]
  unfold zcX
  rw[zi7,hok]
  simp only[Option.bind_some,Bool.not_true,Bool.false_eq_true,if_false]
  rw[zgt,Option.bind_some,Option.bind_some,if_neg (by simp;omega),hD,Option.bind_some,s1,Option.bind_some]
  cases decide (0<b)<;>cases t2<;>rfl
 have I0:zav gr (n:Int)=some (if(decide (0<b)&&t)=true then(⟨b,l⟩,true)else(⟨0,[]⟩,false)):=by
  unfold zav
  rw[hy2,Option.bind_some,i1,Option.bind_some]
  cases decide (0<b)<;>cases t<;>rfl
 obtain⟨rfl,E2⟩:=E
 cases hb:(decide (0<b)&&t2)with
 |false=>
  rw[hb]at S0 I0
  exact⟨_,_,S0,I0,fun h=>by cases h⟩
 |true=>
  rw[hb]at S0 I0
  simp only[Bool.and_eq_true,decide_eq_true_eq]at hb
  obtain⟨rfl,hpos⟩:=E2 hb.2
  exact⟨_,_,S0,I0,fun _=>⟨hy3,hb.1,i3,hpos⟩⟩
def inB (a b x:Int):Bool:=decide (a≤x)&&decide (x≤b)
theorem zyb (x a b:Int):zbe x a b=some (inB a b x):=zes x a b
theorem ziJ {l:List Int}(h:l.length≤1048576):zdJ l=some l:=zeB (by omega)
theorem zks {α:Type}{L:List (List α)}{i:Nat}(h:i<L.length):(L.take (i+1)).flatten=(L.take i).flatten++L[i]:=by
 rw[List.take_succ_eq_append_getElem h,List.flatten_append];simp
theorem zqI {α:Type}(L:List (List α)) (i:Nat):(L.take i).flatten.length≤L.flatten.length:=by
 have e:L.flatten=(L.take i).flatten++(L.drop i).flatten:=by rw[←List.flatten_append,List.take_append_drop]
 rw[e,List.length_append];omega
theorem zln (L:List (List Int)) (h:L.flatten.length≤1000000000000):zbk L=some L.flatten:=by
 unfold zbk
 refine zaB (zaf (ψ:=fun n=>n=(L.flatten.length:Int)) (zci (fun i s=>s=((L.take i).flatten.length:Int)) rfl ?_ ?_) ?_)
 ·rintro i s hi rfl
  have e:=congrArg List.length (zks hi)
  rw[List.length_append]at e
  have hl:=zqI L (i+1)
  refine zb1 hi ?_
  rw[zaj (by omega) (by omega)]
  refine za9 (by simp only[decide_eq_false_iff_not];omega) (zac ?_)
  show _=_
  omega
 ·rintro s rfl
  rw[List.take_length]
 rintro n rfl
 refine zah (by omega) (zaf (ψ:=fun r=>r=L.flatten) (zci (fun i s=>s=(L.take i).flatten) rfl ?_ ?_) fun r hr=>zac hr)
 ·rintro i s hi rfl
  have e:=congrArg List.length (zks hi)
  rw[List.length_append]at e
  have hl:=zqI L (i+1)
  refine zb1 hi (zah (by omega) (zac ?_))
  show _=_
  rw[zks hi]
 rintro s rfl
 rw[List.take_length]
def chG (gr:Group) (s:ByteArray) (l:List Int):Int:=zi5 s ([gr.P,gr.Q,gr.G]++l)%gr.Q
theorem zei {gr:Group}(k:OkG gr) (s:ByteArray) (l:List Int):0≤chG gr s l∧chG gr s l<gr.Q:=by
 have:=k.q
 exact⟨Int.emod_nonneg _ (by omega),Int.emod_lt_of_pos _ (by omega)⟩
theorem zrC {gr:Group}(k:OkG gr) {l:List Int}:([gr.P,gr.Q,gr.G]++l).all zbH=l.all zbH:=by
 have hp:=k.p
 have hq:=k.q
 have hg:=k.g
 rw[List.all_append]
 have:[gr.P,gr.Q,gr.G].all zbH=true:=by
  simp only[List.all_cons,List.all_nil,Bool.and_true,Bool.and_eq_true]
  exact⟨zc0.2 (by omega),zc0.2 (by omega),zc0.2 (by omega)⟩
 rw[this,Bool.true_and]
theorem zpP {gr:Group}(k:OkG gr) {s:ByteArray}{l:List Int}(hs:s.size≤1000000) (hl:l.length≤10000000000) (hd:l.all zbH=true):zbD gr s l=some (chG gr s l):=by
 have hq:=k.q
 have hb:=zc0.1 (zm5 s ([gr.P,gr.Q,gr.G]++l))
 unfold zbD
 rw[zeB (by simp only[List.length_cons,List.length_nil];omega),zmi hs (by simp only[List.length_append,List.length_cons,List.length_nil];omega) (by rw[zrC k];exact hd),Option.bind_some,zeB (by omega),Int.tmod_eq_emod_of_nonneg hb.1]
 rfl
theorem zzm {gr:Group}(k:OkG gr) (s:ByteArray) {l:List Int}(hl:l.length≤10000000000):zaJ gr s l=some (if zhK s ([gr.P,gr.Q,gr.G]++l)=true then(chG gr s l,true)else(0,false)):=by
 have hq:=k.q
 have hb:=zc0.1 (zm5 s ([gr.P,gr.Q,gr.G]++l))
 unfold zaJ
 rw[zeB (by simp only[List.length_cons,List.length_nil];omega),zjZ,Option.bind_some]
 cases zhK s ([gr.P,gr.Q,gr.G]++l)with
 |false=>rfl
 |true=>
  simp only[if_true,Bool.not_true,Bool.false_eq_true,if_false]
  rw[zeB (by omega),Int.tmod_eq_emod_of_nonneg hb.1]
  rfl
theorem zDj {gr:Group}(k:OkG gr) {s:ByteArray}{l:List Int}(hs:s.size≤40) (hl:4+s.size+l.length≤400) (hd:l.all zbH=true):zhK s ([gr.P,gr.Q,gr.G]++l)=true:=by
 unfold zhK
 rw[zrC k,hd,Bool.and_true,Bool.and_eq_true,decide_eq_true_eq,decide_eq_true_eq]
 simp only[List.length_append,List.length_cons,List.length_nil]
 omega
theorem zgA {gr:Group}(k:OkG gr) {l:List Int}(h:l.all (zay gr)=true):l.all zbH=true:=by
 have hp:=k.p
 rw[List.all_eq_true]at h⊢
 intro x hx
 have:=zgS (h x hx)
 exact zc0.2 (by omega)
def zcl (gr:Group):List Int→List Int→Int→Int
 |x::l,e::m,o=>zcl gr l m (o*zaW gr x e%gr.P)
 |_,_,o=>o
theorem zlq (gr:Group):∀(l m:List Int) (x e o:Int),l.length=m.length→zcl gr (l++[x]) (m++[e]) o=zcl gr l m o*zaW gr x e%gr.P
 |[],[],x,e,o,_=>rfl
 |y::l,f::m,x,e,o,h=>zlq gr l m x e _ (by simpa using h)
theorem zm8 (gr:Group):∀(l m:List Int) (o:Int),zcl gr l (m.take l.length) o=zcl gr l m o
 |[],m,o=>by cases m<;>rfl
 |y::l,[],o=>rfl
 |y::l,f::m,o=>zm8 gr l m _
theorem zoz {gr:Group}(h:0<gr.P):∀(l m:List Int) (o:Int),0≤o∧o<gr.P→0≤zcl gr l m o∧zcl gr l m o<gr.P
 |x::l,e::m,o,_=>zoz h l m _ ⟨Int.emod_nonneg _ (by omega),Int.emod_lt_of_pos _ h⟩
 |[],_,o,ho=>ho
 |_::_,[],o,ho=>ho
theorem zn4 {gr:Group}(k:OkG gr) {x y:Int}(hx:0≤x∧x<gr.P) (hy:0≤y):zbV gr [x,y]=x*y%gr.P:=by
 have hp:=k.p
 simp only[zbV,List.foldl_cons,List.foldl_nil,Int.one_mul]
 rw[Int.emod_eq_of_lt hx.1 hx.2]
theorem ziF {gr:Group}(k:OkG gr) {l m:List Int}(hl:∀x∈l,0≤x∧x≤2000000000) (hm:l.length≤m.length):zdk gr l m=some (zcl gr l m 1):=by
 have hp:=k.p
 unfold zdk
 refine zaB (zaf (ψ:=fun b=>b=zcl gr l m 1) (zci (fun i s=>s=zcl gr (l.take i) (m.take i) 1) rfl ?_ ?_) fun b hb=>zac hb)
 ·rintro i s hi rfl
  have bd:=zoz (gr:=gr) (by omega) (l.take i) (m.take i) 1 (by omega)
  have hx:=hl l[i] (List.getElem_mem hi)
  have pb:=zjV k l[i] (m[i]'(by omega))
  refine zb1 hi (zb1 (show i<m.length by omega) (zab (zz9 k hx.1 hx.2 _) (zah (by omega) (zac ?_))))
  show _=zcl gr (l.take (i+1)) (m.take (i+1)) 1
  rw[List.take_succ_eq_append_getElem hi,List.take_succ_eq_append_getElem (show i<m.length by omega),zlq _ _ _ _ _ _ (by simp;omega)]
  have b1:=Int.mul_nonneg bd.1 pb.1
  have b2:zcl gr (l.take i) (m.take i) 1*zaW gr l[i] (m[i]'(by omega))≤2000000000*2000000000:=Int.mul_le_mul (by omega) (by omega) pb.1 (by omega)
  rw[zaj (by omega) (by omega),Int.tmod_eq_emod_of_nonneg b1]
 rintro s rfl
 rw[List.take_length,zm8]
theorem zhh {gr:Group}(k:OkG gr) {l m:List Int}(hl:∀x∈l,0≤x∧x≤2000000000) (hm:l.length≤m.length):zby gr l m=some (zcl gr l m 1):=by
 have hp:=k.p
 unfold zby
 refine zaB (zaf (ψ:=fun b=>b=zcl gr l m 1) (zci (fun i s=>s=zcl gr (l.take i) (m.take i) 1) rfl ?_ ?_) fun b hb=>zac hb)
 ·rintro i s hi rfl
  have bd:=zoz (gr:=gr) (by omega) (l.take i) (m.take i) 1 (by omega)
  have hx:=hl l[i] (List.getElem_mem hi)
  have pb:=zjV k l[i] (m[i]'(by omega))
  refine zb1 hi (zb1 (show i<m.length by omega) (zab (zlU k hx.1 hx.2 _).1 (zab (zl8 k ?_) (zac ?_))))
  ·intro y hy
   simp only[List.mem_cons,List.not_mem_nil,or_false]at hy
   rcases hy with rfl|rfl<;>omega
  show _=zcl gr (l.take (i+1)) (m.take (i+1)) 1
  rw[List.take_succ_eq_append_getElem hi,List.take_succ_eq_append_getElem (show i<m.length by omega),zlq _ _ _ _ _ _ (by simp;omega),zn4 k bd pb.1]
 rintro s rfl
 rw[List.take_length,zm8]
theorem zhj {gr:Group}(k:OkG gr):zay gr gr.G=true:=by
 have hg:=k.g
 simp only[zay,Bool.and_eq_true,decide_eq_true_eq]
 exact⟨by omega,k.o⟩
theorem zy9 {β γ:Type}{n:Nat}{f:Nat→β}{body:Int→List β→Option (Stp (List β) γ)}{stop:List β→γ}(hs:∀k (s:List β),k<n→s.length=k→body (k:Int) s=some (.go (s++[f k]))):
 zap body stop n 0 []=some (stop ((List.range n).map f)):=by
 refine zaB (zci (fun k s=>s=(List.range k).map f) rfl ?_ ?_)
 ·rintro k s hk rfl
  refine⟨_,hs k _ hk (by simp),?_⟩
  show _=_
  rw[List.range_succ,List.map_append];rfl
 rintro s rfl;rfl
theorem zr7 {gr:Group}{a b:Int}(x:Int) (h:a%gr.Q=b%gr.Q):zaW gr x a=zaW gr x b:=by
 unfold zaW;rw[h]
structure Gb (gr:Group):Prop where
 p:1≤gr.P∧gr.P≤2000000000
 q:1≤gr.Q∧gr.Q≤2000000000
 g:0≤gr.G∧gr.G≤2000000000
theorem Gb.w {gr:Group}(k:Gb gr):Gw gr:=by
 have a:=k.p
 have b:=k.q
 have c:=k.g
 exact⟨by omega,by omega,by omega⟩
theorem ztI:∀{l v:List Int},l.Nodup→(∀x∈l,x∈v)→l.length≤v.length
 |[],v,_,_=>by simp
 |x::l,v,hn,hs=>by
  obtain⟨h1,h2⟩:=List.nodup_cons.1 hn
  have hx:=hs x (by simp)
  have:=ztI (l:=l) (v:=v.erase x) h2 fun y hy=>(List.mem_erase_of_ne (show y≠x from fun e=>h1 (e▸hy))).2 (hs y (List.mem_cons_of_mem _ hy))
  rw[List.length_erase_of_mem hx]at this
  have:=List.length_pos_of_mem hx
  rw[List.length_cons];omega
theorem zrX {gr:Group}{x:Int}:zet gr x=true↔0≤x∧x<gr.Q:=by
 unfold zet
 simp only[Bool.and_eq_true,decide_eq_true_eq]
 omega
theorem zf4 {gr:Group}(k:OkG gr) (v:Int):zaw gr v=some (v%gr.Q):=by
 have hp:=k.p
 have hq:=k.q
 unfold zaw
 rw[ztq (by omega) (by omega)];rfl
theorem zeb {α:Type}{l:List α}{d:α}{i:Nat}(h:i<l.length):l.getD i d=l[i]:=by
 rw[List.getD_eq_getElem?_getD,List.getElem?_eq_getElem h];rfl
theorem zg8 {code c0:List Int}{at_ seed n:Int}{m:Nat}(hb:Bt code) (h:Cu code n (c0,at_,seed)) (hn:n≤8000000000000000) (hm:1≤m):Rn (zag c0 at_ seed (m:Int)) (fun z=>(∃i:Nat,z.1=(i:Int)∧i<m)∧Cu code (n+2) z.2):=by
 obtain⟨z,h1,h2,h3,h4,_,h5⟩:=zd8 (m:=(m:Int)) hb h hn
 obtain⟨i,hi⟩:=Int.eq_ofNat_of_zero_le h2
 refine⟨z,h1,⟨i,hi,?_⟩,h5⟩
 rcases Nat.lt_or_ge 1 m with h6|h6
 ·have:=h4 (by omega);omega
 have:=h3 (by omega);omega
def lp (k:Nat) (p:Proof):Prop:=p.Commits.length≤k∧p.Challenges.length≤k∧p.Responses.length≤k
theorem zls {code:List Int}{n:Int}{k:Nat}{c:List Int×Int×Int}{a b d:List Int}(hb:Bt code) (hc:Cu code n c) (hn:n≤5000000000000000) (ha:a.length≤k) (hb2:b.length≤k) (hd:d.length≤k) (hk:k≤100000):
 Rn ((zag c.1 c.2.1 c.2.2 10).bind fun z16=>
  ((if(z16.1==0)=true then(gd ((a.length+1)*8≤140737488355328∧a.length+1≤4611686018427387904)<|some (a++[1],b,d))else(if(z16.1==1)=true then(some (a,b,[]))else(if(z16.1==2)=true then(gd ((b.length+1)*8≤140737488355328∧b.length+1≤4611686018427387904)<|some (a,b++[0],d))else(some (a,b,d)))):Option ((List Int×List Int×List Int))).bind fun x19=>
  some ((Proof.mk x19.1 x19.2.1 x19.2.2),(z16.2.1,z16.2.2.1,z16.2.2.2)))) (fun z=>lp (k+1) z.1∧Cu code (n+2) z.2):=by
 refine zaf (zd8 hb hc (by omega)) fun z ⟨_,_,_,_,z5⟩=>?_
 refine zaf (ψ:=fun(r:List Int×List Int×List Int)=>r.1.length≤k+1∧r.2.1.length≤k+1∧r.2.2.length≤k+1) (zal (fun _=>zah (by omega) (zac ⟨by simp;omega,by show b.length≤_;omega,by show d.length≤_;omega⟩)) fun _=>zal (fun _=>zac ⟨by show a.length≤_;omega,by show b.length≤_;omega,by simp⟩) fun _=>zal (fun _=>zah (by omega) (zac ⟨by show a.length≤_;omega,by simp;omega,by show d.length≤_;omega⟩)) fun _=>zac ⟨by show a.length≤_;omega,by show b.length≤_;omega,by show d.length≤_;omega⟩) fun r hr=>zac ⟨hr,z5⟩
theorem zm3 {code:List Int}{n:Int}{gr:Group}{c:List Int×Int×Int}{l:List Int}{β:Type}{f:List Int→β}(hb:Bt code) (hc:Cu code n c) (hn:n≤4000000000000000) (hg:Gw gr) (hl:l.length≤100000):
 Rn (if decide (0<(l.length:Int))=true then((zag c.1 c.2.1 c.2.2 (l.length:Int)).bind fun z11=>(ix l z11.1).bind fun x12=>(zba z11.2.1 z11.2.2.1 z11.2.2.2 gr).bind fun z13=>(zaU z13.2.1 z13.2.2.1 z13.2.2.2 gr).bind fun z14=>
  (zar z14.2.1 z14.2.2.1 z14.2.2.2 [z13.1,z14.1,(-1),gr.Q,IntKind.i64.wrap (x12+1)]).bind fun z15=>some ((z15.2.1,z15.2.2.1,z15.2.2.2),f (l.set z11.1.toNat z15.1)))else(some ((c.1,c.2.1,c.2.2),f l))) (fun x=>(∃l',l'.length=l.length∧x.2=f l')∧Cu code (n+12) x.1):=by
 have hq:=hg.q
 refine zal (fun h=>?_) fun _=>zac ⟨⟨l,rfl,rfl⟩,hc.mono (by omega)⟩
 have h:=of_decide_eq_true h
 refine zaf (zg8 hb hc (by omega) (by omega)) fun z ⟨⟨i,hi,hl'⟩,z2⟩=>?_
 rw[hi]
 refine zb1 hl' (zaf (zqM hb z2 (by omega) (by omega)) fun y ⟨_,_,_,y4⟩=>zaf (zjq hb y4 (by omega) hg) fun x ⟨_,_,x3⟩=>zaf (zdP hb x3 (by omega) (by simp)) fun w ⟨_,w2⟩=>zac ⟨⟨_,?_,rfl⟩,w2.mono (by omega)⟩)
 simp
theorem zzc {code c0:List Int}{at_ seed n:Int}{gr:Group}{p:Proof}{k:Nat}(hb:Bt code) (h:Cu code n (c0,at_,seed)) (hn:n≤3000000000000000) (hg:Gw gr) (hp:lp k p) (hk:k≤100000):
 Rn (zdi c0 at_ seed gr p) (fun z=>lp (k+1) z.1∧Cu code (n+30) z.2):=by
 obtain⟨p1,p2,p3⟩:=hp
 unfold zdi
 rw[ziJ (by omega),Option.bind_some,ziJ (by omega),Option.bind_some,ziJ (by omega),Option.bind_some]
 refine zaf (zh5 hb h (by omega)) fun z z1=>zal (fun _=>zac ⟨⟨by show p.Commits.length≤_;omega,by show p.Challenges.length≤_;omega,by show p.Responses.length≤_;omega⟩,z1.mono (by omega)⟩) fun _=>?_
 refine zaf (zg8 (m:=3) hb z1 (by omega) (by omega)) fun y ⟨⟨i,hi,h3⟩,y2⟩=>?_
 refine zal (fun _=>?_) fun h0=>zal (fun _=>?_) fun h1=>zal (fun _=>?_) fun h2=>?_
 ·refine zaf (zm3 (c:=y.2) (f:=fun l=>(l,p.Challenges,p.Responses)) hb y2 (by omega) hg (by omega)) fun x ⟨⟨l,e1,e2⟩,x2⟩=>?_
  rw[e2]
  exact zlZ (zls (k:=k) hb x2 (by omega) (by show l.length≤k;omega) p2 p3 hk) fun z hz=>⟨hz.1,hz.2.mono (by omega)⟩
 ·refine zaf (zm3 (c:=y.2) (f:=fun l=>(p.Commits,l,p.Responses)) hb y2 (by omega) hg (by omega)) fun x ⟨⟨l,e1,e2⟩,x2⟩=>?_
  rw[e2]
  exact zlZ (zls (k:=k) hb x2 (by omega) p1 (by show l.length≤k;omega) p3 hk) fun z hz=>⟨hz.1,hz.2.mono (by omega)⟩
 ·refine zaf (zm3 (c:=y.2) (f:=fun l=>(p.Commits,p.Challenges,l)) hb y2 (by omega) hg (by omega)) fun x ⟨⟨l,e1,e2⟩,x2⟩=>?_
  rw[e2]
  exact zlZ (zls (k:=k) hb x2 (by omega) p1 p2 (by show l.length≤k;omega) hk) fun z hz=>⟨hz.1,hz.2.mono (by omega)⟩
 rw[hi]at h0 h1 h2
 have h0:¬(i:Int)=0:=by simpa using h0
 have h1:¬(i:Int)=1:=by simpa using h1
 have h2:¬(i:Int)=2:=by simpa using h2
 omega
def R9 (x:Int):Prop:=0≤x∧x≤2000000000
theorem zcK {gr:Group}(k:OkG gr) {x:Int}(h:zay gr x=true):R9 x:=by
 have:=zgS h;have:=k.p;exact⟨by omega,by omega⟩
theorem zbu {gr:Group}(k:OkG gr) (x e:Int):R9 (zaW gr x e):=by
 have:=zjV k x e;have:=k.p;exact⟨by omega,by omega⟩
theorem zsI {x y:Int}(hx:R9 x) (hy:R9 y):∀z∈[x,y],0≤z∧z≤2000000000:=by
 intro z hz
 simp only[List.mem_cons,List.not_mem_nil,or_false]at hz
 rcases hz with rfl|rfl
 ·exact hx
 exact hy
theorem zwi {gr:Group}(k:OkG gr) {l:List Int}(h:∀x∈l,0≤x∧x≤2000000000):R9 (zbV gr l):=by
 have:=zxs k h;have:=k.p;exact⟨by omega,by omega⟩
theorem ziY {gr:Group}(k:OkG gr) {x y:Int}(hx:R9 x) (hy:R9 y):R9 (zbV gr [x,y]):=zwi k (zsI hx hy)
theorem zDG {l:List Int}(h:∀x∈l,R9 x):l.all zbH=true:=List.all_eq_true.2 fun x hx=>zc0.2 ⟨(h x hx).1,by have:=(h x hx).2;omega⟩
theorem m2I {gr:Group}(k:OkG gr) {x y:Int}(hx:R9 x) (hy:R9 y):zaz gr [x,y]=some (zbV gr [x,y]):=zl8 k (zsI hx hy)
theorem m2S {gr:Group}(k:OkG gr) {x y:Int}(hx:R9 x) (hy:R9 y):za1 gr [x,y]=some (zbV gr [x,y]):=zpF k (zsI hx hy)
theorem pwI {gr:Group}(k:OkG gr) {x:Int}(hx:R9 x) (e:Int):zam gr x e=some (zaW gr x e):=(zlU k hx.1 hx.2 e).1
theorem pwS {gr:Group}(k:OkG gr) {x:Int}(hx:R9 x) (e:Int):zat gr x e=some (zaW gr x e):=(zlU k hx.1 hx.2 e).2
theorem r_G {gr:Group}(k:OkG gr):R9 gr.G:=zcK k (zhj k)
theorem znZ {gr:Group}(k:OkG gr) {n:Nat}(h0:n<gr.P.toNat) (h:n^gr.Q.toNat%gr.P.toNat=1):zay gr (n:Int)=true:=by
 have hp:=k.p
 have hq:=k.q
 have h1:1≤n:=by
  rcases Nat.eq_zero_or_pos n with h2|h2
  ·rw[h2,Nat.zero_pow (by omega),Nat.zero_mod]at h;omega
  ·exact h2
 simp only[zay,Bool.and_eq_true,decide_eq_true_eq]
 exact⟨⟨by omega,by omega⟩,by rw[Int.toNat_natCast];exact h⟩
theorem znu {gr:Group}(k:OkG gr) {x:Int}(hx:zay gr x=true) (e:Int):zay gr (zaW gr x e)=true:=by
 have hp:=k.p
 refine znZ k (Nat.mod_lt _ (by omega)) ?_
 rw[←Nat.pow_mod,←Nat.pow_mul,Nat.mul_comm,Nat.pow_mul,Nat.pow_mod,(zlM hx).2.2,Nat.one_pow,Nat.mod_eq_of_lt (by omega)]
theorem znM {gr:Group}(k:OkG gr) {x y:Int}(hx:zay gr x=true) (hy:zay gr y=true):zay gr (zbV gr [x,y])=true:=by
 have hp:=k.p
 have bx:=zgS hx
 have by':=zgS hy
 rw[zn4 k ⟨by omega,by omega⟩ (by omega)]
 obtain⟨a,rfl⟩:=Int.eq_ofNat_of_zero_le (show 0≤x by omega)
 obtain⟨b,rfl⟩:=Int.eq_ofNat_of_zero_le (show 0≤y by omega)
 obtain⟨p,hP⟩:=Int.eq_ofNat_of_zero_le (show 0≤gr.P by omega)
 have h1:=(zlM hx).2.2
 have h2:=(zlM hy).2.2
 rw[Int.toNat_natCast]at h1 h2
 have e:((a:Int)*(b:Int))%gr.P=((a*b%gr.P.toNat:Nat):Int):=by rw[hP,Int.toNat_natCast,Int.natCast_emod,Int.natCast_mul]
 rw[e]
 refine znZ k (Nat.mod_lt _ (by omega)) ?_
 rw[←Nat.pow_mod,Nat.mul_pow,Nat.mul_mod,h1,h2,Nat.mod_eq_of_lt (by omega)]
theorem zod {gr:Group}(k:OkG gr):zay gr 1=true:=by
 have hp:=k.p
 exact znZ (n:=1) k (by omega) (by rw[Nat.one_pow,Nat.mod_eq_of_lt (by omega)])
theorem zqQ {p a b:Int}(h:a%p=b%p):(a-b)%p=0:=by rw[Int.sub_emod,h,Int.sub_self,Int.zero_emod]
def prI (l:List Int):Int:=l.foldr (· * ·) 1
theorem zvG {l m:List Int}(h:l.Perm m):prI l=prI m:=by
 induction h with
 |nil=>rfl
 |cons x _ ih=>show x*prI _=x*prI _;rw[ih]
 |swap x y l=>show y*(x*prI l)=x*(y*prI l);rw[←Int.mul_assoc,←Int.mul_assoc,Int.mul_comm y x]
 |trans _ _ h1 h2=>rw[h1,h2]
theorem zsg:∀{l m:List Int},l.Nodup→(∀x∈l,x∈m)→m.length≤l.length→l.Perm m
 |[],m,_,_,h=>by rw[List.length_eq_zero_iff.1 (show m.length=0 by simpa using h)]
 |x::l,m,hn,hs,h=>by
  obtain⟨h1,h2⟩:=List.nodup_cons.1 hn
  have hx:=hs x (by simp)
  have hl:(m.erase x).length=m.length-1:=List.length_erase_of_mem hx
  have:=zsg (l:=l) (m:=m.erase x) h2 (fun y hy=>by
   have hy2:=hs y (List.mem_cons_of_mem _ hy)
   exact(List.mem_erase_of_ne (fun e=>h1 (by rw[←e];exact hy))).2 hy2) (by rw[List.length_cons]at h;omega)
  exact(this.cons x).trans (List.perm_cons_erase hx).symm
theorem zrY {p a:Int}:∀l:List Int,prI (l.map fun i=>(a*i)%p)%p=(a^l.length*prI l)%p
 |[]=>by simp[prI]
 |x::l=>by
  have ih:=zrY (p:=p) (a:=a) l
  show((a*x)%p*prI (l.map fun i=>(a*i)%p))%p=(a^(l.length+1)*(x*prI l))%p
  rw[Int.mul_emod,Int.emod_emod,ih,←Int.mul_emod]
  congr 1
  rw[Int.pow_succ]
  grind
theorem zuE {p:Nat}(hp:Pr p) (h2:2≤p):∀{l:List Int},(∀x∈l,x%(p:Int)≠0)→prI l%(p:Int)≠0
 |[],_=>by show(1:Int)%(p:Int)≠0;rw[Int.emod_eq_of_lt (by omega) (by omega)];omega
 |x::l,h=>fun e=>by
  rcases zj3 hp (a:=x) (b:=prI l) e with e|e
  ·exact h x (by simp) e
  ·exact zuE hp h2 (fun y hy=>h y (List.mem_cons_of_mem _ hy)) e
theorem zz2 {p:Nat}(hp:Pr p) (h2:2≤p) {a:Nat}(ha:1≤a) (hap:a<p):a^(p-1)%p=1:=by
 let L:List Int:=(List.range (p-1)).map fun(i:Nat)=>(i:Int)+1
 have hL:∀x,x∈L↔1≤x∧x≤(p:Int)-1:=by
  intro x
  simp only[L,List.mem_map,List.mem_range]
  constructor
  ·rintro⟨i,hi,rfl⟩;omega
  ·rintro⟨h1,h2⟩;exact⟨(x-1).toNat,by omega,by omega⟩
 have hN:L.Nodup:=List.Pairwise.map _ (fun a b (h:a≠b)=>by omega) List.nodup_range
 have inj:∀x∈L,∀y∈L,((a:Int)*x)%p=((a:Int)*y)%p→x=y:=by
  intro x hx y hy e
  have hx:=(hL x).1 hx
  have hy:=(hL y).1 hy
  have e2:((a:Int)*(x-y))%(p:Int)=0:=by
   rw[Int.mul_sub];exact zqQ e
  rcases zj3 hp e2 with e3|e3
  ·rw[Int.emod_eq_of_lt (by omega) (by omega)]at e3;omega
  ·obtain⟨c,hc⟩:=Int.dvd_of_emod_eq_zero e3
   have:c=0:=by
    rcases Int.lt_trichotomy c 0 with h|h|h
    ·have:(p:Int)*c≤(p:Int)*(-1):=Int.mul_le_mul_of_nonneg_left (by omega) (by omega)
     omega
    ·exact h
    ·have:(p:Int)*1≤(p:Int)*c:=Int.mul_le_mul_of_nonneg_left (by omega) (by omega)
     omega
   rw[this,Int.mul_zero]at hc;omega
 have hM:(L.map fun i=>((a:Int)*i)%(p:Int)).Perm L:=by
  refine zsg ?_ ?_ (by simp)
  ·refine List.pairwise_map.2 (List.Pairwise.imp_of_mem ?_ hN)
   intro x y hx hy hne e
   exact hne (inj x hx y hy e)
  ·intro z hz
   obtain⟨x,hx,rfl⟩:=List.mem_map.1 hz
   refine(hL _).2 ?_
   have h1:=Int.emod_nonneg ((a:Int)*x) (show(p:Int)≠0 by omega)
   have h3:=Int.emod_lt_of_pos ((a:Int)*x) (show(0:Int)<p by omega)
   have:((a:Int)*x)%(p:Int)≠0:=fun e=>by
    have hx:=(hL x).1 hx
    rcases zj3 hp e with e|e<;>rw[Int.emod_eq_of_lt (by omega) (by omega)]at e<;>omega
   omega
 have h4:=zrY (p:=(p:Int)) (a:=(a:Int)) L
 rw[zvG hM]at h4
 have hne:prI L%(p:Int)≠0:=zuE hp h2 fun x hx=>by
  have hx:=(hL x).1 hx
  rw[Int.emod_eq_of_lt (by omega) (by omega)];omega
 have hlen:L.length=p-1:=by simp[L]
 rw[hlen]at h4
 have e5:(((a:Int)^(p-1)-1)*prI L)%(p:Int)=0:=by
  rw[Int.sub_mul,Int.one_mul];exact zqQ h4.symm
 rcases zj3 hp e5 with e|e
 ·obtain⟨c,hc⟩:=Int.dvd_of_emod_eq_zero e
  have e6:(a:Int)^(p-1)%(p:Int)=1:=by
   rw[show(a:Int)^(p-1)=1+(p:Int)*c by omega,Int.add_mul_emod_self_left,Int.emod_eq_of_lt (by omega) (by omega)]
  have:((a^(p-1)%p:Nat):Int)=1:=by rw[Int.natCast_emod,Int.natCast_pow];exact e6
  omega
 exact absurd e hne
theorem zrV {gr:Group}(k:OkG gr) {s:ByteArray}{i y:Int}(h:zhO gr s i y) (h0:0<y):zay gr y=true:=by
 have hp:=k.p
 have hq:=k.q
 rcases h with⟨c,_,hy,_,_⟩|⟨hy,_⟩
 ·rw[hy]
  have hx:=zn9 k s i c
  refine znZ k (Nat.mod_lt _ (by omega)) ?_
  rw[←Nat.pow_mod,←Nat.pow_mul]
  have e:((gr.P-1)/gr.Q).toNat*gr.Q.toNat=gr.P.toNat-1:=by
   obtain⟨P,hP⟩:=Int.eq_ofNat_of_zero_le (show 0≤gr.P-1 by omega)
   obtain⟨Q,hQ⟩:=Int.eq_ofNat_of_zero_le (show 0≤gr.Q by omega)
   have hd:=k.d
   have hPn:gr.P.toNat-1=P:=by omega
   rw[hPn,hQ,Int.toNat_natCast]at hd
   rw[hP,hQ,hPn,Int.toNat_natCast,←Int.natCast_ediv,Int.toNat_natCast]
   exact Nat.div_mul_cancel (Nat.dvd_of_mod_eq_zero hd)
  rw[e]
  exact zz2 k.pp (by omega) (by omega) (by omega)
 omega
def reV (gr:Group) (key:Int) (c:Cipher) (r:Int):Cipher:=⟨zbV gr [c.A,zaW gr gr.G r],zbV gr [c.B,zbV gr [1,zaW gr key r]]⟩
theorem zz4 {gr:Group}(k:OkG gr) {key:Int}(hk:zay gr key=true) {c:Cipher}(hc:zbS gr c=true) (r:Int):zbS gr (reV gr key c r)=true:=by
 simp only[zbS,Bool.and_eq_true]at hc⊢
 exact⟨znM k hc.1 (znu k (zhj k) r),znM k hc.2 (znM k (zod k) (znu k hk r))⟩
theorem ztN {gr:Group}(k:OkG gr) {x:Int}(hx:0≤x∧x<gr.P):za1 gr [1,x]=some x:=by
 have hp:=k.p
 rw[m2S k (x:=1) (y:=x) ⟨by omega,by omega⟩ ⟨by omega,by omega⟩,zn4 k ⟨by omega,by omega⟩ (by omega),Int.one_mul,Int.emod_eq_of_lt hx.1 hx.2]
theorem zCe {gr:Group}(k:OkG gr) {key:Int}(hk:zay gr key=true) {c:Cipher}(hc:zbS gr c=true) (r:Int):zcy gr key c r=some (reV gr key c r):=by
 have hc2:=hc
 simp only[zbS,Bool.and_eq_true]at hc2
 unfold zcy
 rw[(zoJ k hk (zod k) r).1,Option.bind_some]
 unfold zeV
 rw[m2I k (zcK k hc2.1) (zbu k _ _),Option.bind_some,m2I k (zcK k hc2.2) (ziY k ⟨by omega,by omega⟩ (zbu k _ _))]
 rfl
theorem zBo {gr:Group}(k:OkG gr) {key:Int}(hk:zay gr key=true) {c:Cipher}(hc:zbS gr c=true) (r:Int):zgy gr key c r=some (reV gr key c r):=by
 have hc2:=hc
 simp only[zbS,Bool.and_eq_true]at hc2
 have hp:=k.p
 have b1:=zgS hc2.1
 have b2:=zgS hc2.2
 unfold zgy
 rw[(zoJ k hk (zod k) r).2,Option.bind_some]
 unfold zh4
 simp only[List.length_cons,List.length_nil,zap]
 have e0:∀{a b:Cipher},ix [a,b] 0=some a:=fun{a b}=>rfl
 have e1:∀{a b:Cipher},ix [a,b] (0+1)=some b:=fun{a b}=>rfl
 simp only[e0,e1,Option.bind_some,ztN k (x:=c.A) ⟨by omega,by omega⟩,ztN k (x:=c.B) ⟨by omega,by omega⟩,m2S k (zcK k hc2.1) (zbu k _ _),m2S k (zcK k hc2.2) (ziY k (x:=1) ⟨by omega,by omega⟩ (zbu k _ _))]
 rfl
theorem zlY {gr:Group}(k:OkG gr) (key:Int) (l:List Cipher):zdl gr key l=some (zay gr key&&(inB 1 12 l.length&&l.all (zbS gr))):=by
 unfold zdl zgM
 rw[zi7,znl.2 k,Option.bind_some,if_pos rfl,zyP k]
 simp only[Option.bind_some]
 cases zay gr key
 ·rfl
 simp only[if_pos,zgt,Option.bind_some,Bool.true_and]
 show Option.bind (if inB 1 12 l.length=true then _ else _) _=_
 by_cases h:inB 1 12 l.length=true
 ·rw[if_pos h,zxB k,h]
  have h2:l.length≤24:=by simp only[inB,Bool.and_eq_true,decide_eq_true_eq]at h;omega
  simp[h2]
 rw[if_neg h];simp only[Bool.not_eq_true]at h;rw[h];rfl
theorem zmA {gr:Group}(k:¬OkG gr) (key:Int) (l:List Cipher):zdl gr key l=some false:=by
 unfold zdl zgM
 rw[zi7,zfN k,Option.bind_some,if_neg (by simp)]
 rfl
theorem zki {gr:Group}(k:OkG gr) (l:List Cipher):zch gr l=some (inB 1 12 l.length&&l.all (zbS gr)):=by
 unfold zch
 rw[zes,Option.bind_some]
 show Option.bind (if inB 1 12 l.length=true then _ else _) _=_
 by_cases h:inB 1 12 l.length=true
 ·rw[if_pos h,zqk k,h]
  have h2:l.length≤24:=by simp only[inB,Bool.and_eq_true,decide_eq_true_eq]at h;omega
  simp[h2]
 rw[if_neg h];simp only[Bool.not_eq_true]at h;rw[h];rfl
noncomputable def zeZ (l:List Int):Bool:=l.all (inB 0 ((l.length:Int)-1))&&zjH l
theorem zsc (l:List Int) (m:Nat) (hm:m≤1000):zfn l (m:Int)=some (decide (l.length=m)&&zeZ l):=by
 unfold zfn
 by_cases h:l.length=m
 ·subst h
  rw[zaj (n:=(l.length:Int)-1) (by omega) (by omega),zrO,ztV l (by omega)]
  simp only[beq_self_eq_true,if_true,Option.bind_some,decide_true,Bool.true_and]
  show Option.bind (if l.all (inB 0 ((l.length:Int)-1))=true then _ else _) _=_
  unfold zeZ
  cases l.all (inB 0 ((l.length:Int)-1))<;>rfl
 have h2:((l.length:Int)==(m:Int))=false:=by simp;omega
 simp[h2,h]
theorem zve (l:List Int):zdQ l=some (decide (l.length≤24)&&zeZ l):=by
 unfold zdQ
 by_cases h:l.length≤24
 ·have h2:decide ((l.length:Int)≤24)=true:=by simp;omega
  rw[h2,if_pos rfl]
  have e:zbv l l=some (l.all (inB 0 ((l.length:Int)-1))):=by
   unfold zbv zaM zaQ
   refine ziv (p:=inB 0 ((l.length:Int)-1)) (f:=fun x=>zbs x l) fun x _=>?_
   unfold zbs zd3
   rw[zaj (n:=(l.length:Int)-1) (by omega) (by omega),zes]
   rfl
  rw[e,zt8 l (by omega)]
  unfold zeZ
  cases l.all (inB 0 ((l.length:Int)-1))<;>simp[h]
 have h2:decide ((l.length:Int)≤24)=false:=by simp;omega
 simp[h2,h]
theorem zkM {gr:Group}(k:OkG gr) {n:Nat}(hn:n≤24) (perm rs:List Int):zcf gr perm rs (n:Int)=some (decide (perm.length=n)&&zeZ perm&&(decide (rs.length=n)&&rs.all (zet gr))):=by
 have hq:=k.q
 have hp:=k.p
 unfold zcf
 rw[zve,zk5 (by omega) (by omega)]
 have e1:((perm.length:Int)==(n:Int))=decide (perm.length=n):=by by_cases h:perm.length=n<;>simp[h];omega
 have e2:((rs.length:Int)==(n:Int))=decide (rs.length=n):=by by_cases h:rs.length=n<;>simp[h];omega
 rw[e1,e2]
 by_cases h1:perm.length=n
 ·have h24:decide (perm.length≤24)=true:=by simp;omega
  rw[h24]
  simp only[h1,decide_true,Bool.true_and]
  cases zeZ perm<;>by_cases h3:rs.length=n<;>simp[h3]
 simp only[h1,decide_false,Bool.false_and]
 cases (decide (perm.length≤24)&&zeZ perm)<;>simp
theorem zw4 {l:List Int}(h:zeZ l=true) {j:Int}(hj:0≤j∧j<l.length):j∈l:=by
 simp only[zeZ,Bool.and_eq_true,zjH,decide_eq_true_eq,List.all_eq_true,inB]at h
 refine Classical.byContradiction fun hn=>?_
 have:=ztI (l:=j::l) (v:=(List.range l.length).map fun(i:Nat)=>(i:Int)) (List.nodup_cons.2 ⟨hn,h.2⟩) (fun x hx=>by
  simp only[List.mem_map,List.mem_range]
  rcases List.mem_cons.1 hx with rfl|hx
  ·exact⟨x.toNat,by omega,by omega⟩
  ·have:=h.1 x hx;exact⟨x.toNat,by omega,by omega⟩)
 simp at this
 omega
structure MxOk (gr:Group) (key:Int) (l:List Cipher) (perm rs:List Int):Prop where
 key:zay gr key=true
 n:1≤l.length∧l.length≤12
 c:∀x∈l,zbS gr x=true
 pl:perm.length=l.length
 pr:∀x∈perm,0≤x∧x<l.length
 pb:zeZ perm=true
 rl:rs.length=l.length
 re:rs.all (zet gr)=true
theorem zBI {gr:Group}{key:Int}{l:List Cipher}{perm rs:List Int}:((zay gr key&&(inB 1 12 l.length&&l.all (zbS gr)))&&(decide (perm.length=l.length)&&zeZ perm&&(decide (rs.length=l.length)&&rs.all (zet gr))))=true↔MxOk gr key l perm rs:=by
 constructor
 ·intro h
  simp only[Bool.and_eq_true,decide_eq_true_eq,inB]at h
  obtain⟨⟨h1,⟨h2,h3⟩,h4⟩,⟨h5,h6⟩,h7,h8⟩:=h
  refine⟨h1,by omega,List.all_eq_true.1 h4,h5,fun x hx=>?_,h6,h7,h8⟩
  simp only[zeZ,Bool.and_eq_true]at h6
  have:=List.all_eq_true.1 h6.1 x hx
  simp only[inB,Bool.and_eq_true,decide_eq_true_eq]at this
  omega
 intro h
 simp only[Bool.and_eq_true,decide_eq_true_eq,inB]
 have:=h.n
 exact⟨⟨h.key,⟨by omega,by omega⟩,List.all_eq_true.2 h.c⟩,⟨h.pl,h.pb⟩,h.rl,h.re⟩
def zb5 (gr:Group) (key:Int) (l:List Cipher) (perm rs:List Int):List Cipher:=(List.range perm.length).map fun i=>reV gr key (l.getD (perm.getD i 0).toNat ⟨0,0⟩) (rs.getD i 0)
theorem zqs {gr:Group}(k:OkG gr) {key:Int}{l:List Cipher}{perm rs:List Int}(m:MxOk gr key l perm rs) (E:Cipher→Int→Option Cipher) (hE:∀c r,zbS gr c=true→E c r=some (reV gr key c r)):zap (σ:=List Cipher) (fun i5 s4=>
 (ix perm i5).bind fun x11=>
 (ix l x11).bind fun x12=>
 (ix rs i5).bind fun x13=>
 (E x12 x13).bind fun z14=>
 gd ((s4.length+1)*16≤140737488355328∧s4.length+1≤4611686018427387904)<|
 some (.go (s4++[z14]))) (fun s4=>s4) perm.length 0 []=some (zb5 gr key l perm rs):=by
 have hn:=m.n
 have hpl:=m.pl
 have hrl:=m.rl
 refine zy9 (f:=fun i=>reV gr key (l.getD (perm.getD i 0).toNat ⟨0,0⟩) (rs.getD i 0)) fun i s hi hs=>?_
 have hx:=m.pr _ (List.getElem_mem hi)
 obtain⟨j,hj⟩:=Int.eq_ofNat_of_zero_le hx.1
 have hj2:j<l.length:=by omega
 rw[zgZ hi,Option.bind_some,hj,zgZ hj2,Option.bind_some,zgZ (show i<rs.length by omega),Option.bind_some,hE _ _ (m.c _ (List.getElem_mem hj2)),Option.bind_some,zeB (by omega),zeb hi,hj,Int.toNat_natCast,zeb hj2,zeb (show i<rs.length by omega)]
theorem ztZ {gr:Group}(k:OkG gr) {key:Int}{l:List Cipher}{perm rs:List Int}(m:MxOk gr key l perm rs):zed gr key l perm rs=some (zb5 gr key l perm rs):=by
 unfold zed
 rw[zqs k m (zcy gr key) fun c r hc=>zCe k m.key hc r]
 rfl
theorem ztE {gr:Group}(k:OkG gr) {key:Int}{l:List Cipher}{perm rs:List Int}(m:MxOk gr key l perm rs):zga gr key l perm rs=some (zb5 gr key l perm rs):=by
 unfold zga
 rw[zqs k m (zgy gr key) fun c r hc=>zBo k m.key hc r]
 rfl
theorem zf7 (gr:Group) (key:Int) (l:List Cipher) (perm rs:List Int):(zb5 gr key l perm rs).length=perm.length:=by simp[zb5]
theorem zjR {gr:Group}(k:OkG gr) {key:Int}{l:List Cipher}{perm rs:List Int}(m:MxOk gr key l perm rs):∀c∈zb5 gr key l perm rs,zbS gr c=true:=by
 intro c hc
 obtain⟨i,hi,rfl⟩:=List.mem_map.1 hc
 have hi:=List.mem_range.1 hi
 refine zz4 k m.key ?_ _
 have hx:=m.pr _ (List.getElem_mem hi)
 rw[zeb hi,zeb (show(perm[i]).toNat<l.length by omega)]
 exact m.c _ (List.getElem_mem _)
structure BsOk (gr:Group) (n:Nat) (b:Bases):Prop where
 h:zay gr b.H=true
 l:b.Hs.length=n
 s:∀x∈b.Hs,zay gr x=true
theorem zGO {gr:Group}(k:OkG gr) {n:Nat}(hn:n≤24):∃b t,zcX gr (n:Int)=some (b,t)∧zav gr (n:Int)=some (b,t)∧(t=true→BsOk gr n b):=by
 obtain⟨b,t,h1,h2,h3⟩:=zxo k hn
 refine⟨b,t,h1,h2,fun ht=>?_⟩
 obtain⟨c1,c2,c3,c4⟩:=h3 ht
 refine⟨zrV k c1 c2,c3.1,fun x hx=>?_⟩
 obtain⟨j,hj,rfl⟩:=List.getElem_of_mem hx
 exact zrV k (c3.2 j hj) (c4 _ hx)
def hN (gr:Group) (h:Int) (es ts:List Int):Nat→Int
 |0=>h
 |i+1=>zbV gr [zaW gr gr.G (ts.getD i 0),zaW gr (hN gr h es ts i) (es.getD i 0)]
def abL (l:List Cipher):List Int:=l.flatMap fun c=>[c.A,c.B]
def zdE (key:Int) (l out:List Cipher) (m:List Int):List Int:=key::(abL l++(abL out++m))
theorem zlh (l:List Cipher):(abL l).length=2*l.length:=by
 induction l with
 |nil=>rfl
 |cons c l ih=>show([c.A,c.B]++abL l).length=_;simp[ih];omega
theorem zxA (l:List Cipher) (c:Cipher):abL (l++[c])=abL l++[c.A,c.B]:=by simp[abL]
theorem zxQ (l m:List Cipher):abL (l++m)=abL l++abL m:=by simp[abL]
theorem zon {l:List Cipher}(h0:List Int) (hl:l.length≤100000) (hh:h0.length≤1000000):zap (σ:=List Int) (fun i5 s4=>
 (ix l i5).bind fun x11=>
 gd ((s4.length+2)*8≤140737488355328∧s4.length+2≤4611686018427387904)<|
 some (.go (s4++[x11.A,x11.B]))) (fun s4=>s4) l.length 0 h0=some (h0++abL l):=by
 refine zaB (zci (fun i s=>s=h0++abL (l.take i)) (by simp[abL]) ?_ ?_)
 ·rintro i s hi rfl
  refine zb1 hi (zah ?_ (zac ?_))
  ·rw[List.length_append,zlh,List.length_take];omega
  show _=_
  rw[List.take_succ_eq_append_getElem hi,zxA,List.append_assoc]
 rintro s rfl;rw[List.take_length]
theorem zjQ {key:Int}{l out:List Cipher}{m:List Int}(h1:l.length≤1000) (h2:out.length≤1000) (h3:m.length≤1000000):zcg key l out m=some (zdE key l out m):=by
 unfold zcg zbM
 rw[zeB (by omega),Option.bind_some,zeB (by omega),Option.bind_some,zon [key] (by simp;omega) (by simp),Option.bind_some,zeB (by simp[zlh];omega)]
 simp[zdE,zxQ]
theorem zj6 {key:Int}{l out:List Cipher}{m:List Int}(h1:l.length≤1000) (h2:out.length≤1000) (h3:m.length≤1000000):zdw key l out m=some (zdE key l out m):=by
 unfold zdw
 rw[zon [key] (by omega) (by simp),Option.bind_some,zon _ (by omega) (by simp[zlh];omega),Option.bind_some,zeB (by simp[zlh];omega)]
 simp[zdE]
theorem zlI {key:Int}{l out:List Cipher}{m:List Int}:(zdE key l out m).length=1+2*l.length+2*out.length+m.length:=by
 simp[zdE,zlh];omega
theorem zlV {gr:Group}(k:OkG gr) {key:Int}(hk:zay gr key=true) {l out:List Cipher}(h1:∀c∈l,zbS gr c=true) (h2:∀c∈out,zbS gr c=true) {m:List Int}(h3:m.all zbH=true):(zdE key l out m).all zbH=true:=by
 have A:∀l:List Cipher,(∀c∈l,zbS gr c=true)→(abL l).all zbH=true:=fun l h=>by
  refine zgA k (List.all_eq_true.2 fun x hx=>?_)
  obtain⟨c,hc,hx⟩:=List.mem_flatMap.1 hx
  have:=h c hc
  simp only[zbS,Bool.and_eq_true]at this
  simp only[List.mem_cons,List.not_mem_nil,or_false]at hx
  rcases hx with rfl|rfl
  ·exact this.1
  ·exact this.2
 have hd:zbH key=true:=by have:=zgA k (l:=[key]) (by simp[hk]);simpa using this
 simp only[zdE,List.all_cons,List.all_append,hd,A l h1,A out h2,h3,Bool.and_self]
def E9 (q x:Int):Prop:=0≤x∧x<q
theorem zvB {gr:Group}{l:List Int}(h:l.all (zet gr)=true):∀x∈l,E9 gr.Q x:=fun x hx=>zrX.1 (List.all_eq_true.1 h x hx)
theorem zhR {q a z t:Int}(hq:q≤2000000000) (ha:E9 q a) (hz:E9 q z) (ht:E9 q t):IntKind.i64.wrap (a+IntKind.i64.wrap (z*t))=a+z*t∧(IntKind.i64.wrap (a+IntKind.i64.wrap (z*t))).tmod q=(a+z*t)%q:=by
 obtain⟨a1,a2⟩:=ha
 obtain⟨z1,z2⟩:=hz
 obtain⟨t1,t2⟩:=ht
 have h1:0≤z*t:=Int.mul_nonneg z1 t1
 have h2:z*t≤2000000000*2000000000:=Int.mul_le_mul (by omega) (by omega) t1 (by omega)
 rw[zaj (n:=z*t) (by omega) (by omega),zaj (n:=a+z*t) (by omega) (by omega)]
 exact⟨rfl,Int.tmod_eq_emod_of_nonneg (by omega)⟩
theorem zdB {q:Int}(hq:0<q) (x:Int):E9 q (x%q):=⟨Int.emod_nonneg _ (by omega),Int.emod_lt_of_pos _ hq⟩
def dtN (q:Int) (l m:List Int):Nat→Int
 |0=>0
 |i+1=>(dtN q l m i+l.getD i 0*m.getD i 0)%q
theorem zpb {q:Int}(hq:0<q) (l m:List Int):∀i,E9 q (dtN q l m i)
 |0=>⟨by show(0:Int)≤0;omega,hq⟩
 |i+1=>zdB hq _
theorem znD {α:Type}{l:List α}{P:α→Prop}(h:∀x∈l,P x) {i:Nat}(hi:i<l.length):P l[i]:=h _ (List.getElem_mem hi)
theorem zyF {q:Int}(hq:0<q∧q≤2000000000) {l m:List Int}(hl:∀x∈l,E9 q x) (hm:∀x∈m,E9 q x) (hn:m.length=l.length):zgz l m q=some (dtN q l m l.length):=by
 unfold zgz
 refine zaB (zaf (ψ:=(· =dtN q l m l.length)) (zci (fun i s=>s=dtN q l m i) rfl ?_ fun s h=>h) fun x hx=>zac hx)
 rintro i s hi rfl
 have ha:=zpb hq.1 l m i
 have h1:=znD hl hi
 have h2:=znD hm (show i<m.length by omega)
 refine zb1 hi (zb1 (show i<m.length by omega) (zah (by omega) (zah (by omega) (zac ?_))))
 show _=(dtN q l m i+l.getD i 0*m.getD i 0)%q
 rw[zeb hi,zeb (show i<m.length by omega)]
 have e:=zhR hq.2 ⟨Int.le_refl 0,hq.1⟩ h1 h2
 rw[Int.zero_add,Int.zero_add]at e
 have e2:IntKind.i64.wrap (l[i]*m[i])=l[i]*m[i]:=by
  have h3:0≤l[i]*m[i]:=Int.mul_nonneg h1.1 h2.1
  have h4:l[i]*m[i]≤2000000000*2000000000:=Int.mul_le_mul (by have:=h1.2;omega) (by have:=h2.2;omega) h2.1 (by omega)
  exact zaj (by omega) (by omega)
 rw[e2,Int.tmod_eq_emod_of_nonneg (Int.mul_nonneg h1.1 h2.1)]
 have h5:=zdB hq.1 (l[i]*m[i])
 rw[zaj (by have:=ha.1;have:=h5.1;omega) (by have:=ha.2;have:=h5.2;omega),Int.tmod_eq_emod_of_nonneg (by have:=ha.1;have:=h5.1;omega)]
 rw[Int.add_emod,Int.emod_emod,←Int.add_emod]
theorem zxY {q:Int}(hq:0<q∧q≤2000000000) {l m:List Int}(hl:∀x∈l,E9 q x) (hm:∀x∈m,E9 q x) (hn:m.length=l.length):zf6 l m q=some (dtN q l m l.length):=by
 unfold zf6
 refine zaB (zaf (ψ:=(· =dtN q l m l.length)) (zci (fun i s=>s=dtN q l m i) rfl ?_ fun s h=>h) fun x hx=>zac hx)
 rintro i s hi rfl
 refine zb1 hi (zb1 (show i<m.length by omega) (zah (by omega) (zac ?_)))
 show _=(dtN q l m i+l.getD i 0*m.getD i 0)%q
 rw[zeb hi,zeb (show i<m.length by omega)]
 exact(zhR hq.2 (zpb hq.1 l m i) (znD hl hi) (znD hm (show i<m.length by omega))).2
def sdV (l:List Cipher):List Int×List Int:=(l.map (·.A),l.map (·.B))
theorem ziI {l:List Cipher}(hl:l.length≤1000):zeN l=some (sdV l)∧zeu l=some (sdV l):=by
 have h:zap (σ:=(List Int)×List Int) (fun i5 s4=>
  (ix l i5).bind fun x11=>
  gd ((s4.1.length+1)*8≤140737488355328∧s4.1.length+1≤4611686018427387904)<|
  gd ((s4.2.length+1)*8≤140737488355328∧s4.2.length+1≤4611686018427387904)<|
  some (.go (s4.1++[x11.A],s4.2++[x11.B]))) (fun s4=>(s4.1,s4.2)) (l.length) 0 ([],[])=some (sdV l):=by
  refine zaB (zci (fun i s=>s=sdV (l.take i)) rfl ?_ ?_)
  ·rintro i s hi rfl
   refine zb1 hi (zah (by simp[sdV];omega) (zah (by simp[sdV];omega) (zac ?_)))
   show _=_
   rw[List.take_succ_eq_append_getElem hi]
   simp only[sdV,List.map_append,List.map_cons,List.map_nil]
  ·rintro s rfl;rw[List.take_length]
 unfold zeN zeu
 rw[h]
 exact⟨rfl,rfl⟩
theorem zlX {gr:Group}(k:OkG gr) {l:List Cipher}(h:∀c∈l,zbS gr c=true):(∀x∈(sdV l).1,0≤x∧x≤2000000000)∧∀x∈(sdV l).2,0≤x∧x≤2000000000:=by
 refine⟨fun x hx=>?_,fun x hx=>?_⟩<;>obtain⟨c,hc,rfl⟩:=List.mem_map.1 hx<;>obtain⟨b1,b2,b3,b4⟩:=zxd k (h c hc)
 ·exact⟨b1,b2⟩
 exact⟨b3,b4⟩
theorem zwf {gr:Group}(k:OkG gr):∀(l m:List Int) (o:Int),0≤o∧o<gr.P→R9 (zcl gr l m o)
 |[],_,o,h=>by have:=k.p;unfold zcl;exact⟨h.1,by omega⟩
 |_::_,[],o,h=>by have:=k.p;unfold zcl;exact⟨h.1,by omega⟩
 |x::l,e::m,o,h=>by
  have:=k.p
  unfold zcl
  exact zwf k l m _ ⟨Int.emod_nonneg _ (by omega),Int.emod_lt_of_pos _ (by omega)⟩
theorem zf1 {gr:Group}(k:OkG gr) (l m:List Int):R9 (zcl gr l m 1):=zwf k l m 1 (by have:=k.p;exact⟨by omega,by omega⟩)
theorem ze4 {a r:List Int}{n:Nat}(h:a.length=n):zau (a++r) (n:Int)=some (a,r):=by
 unfold zau
 rw[Int.toNat_natCast,zeB (by omega),zeB (by simp;omega),zeB (by omega),zeB (by simp;omega)]
 simp[h,List.take_of_length_le]
theorem znL (x:Int) (r:List Int):zbQ (x::r)=some (x,r):=by
 unfold zbQ
 have h:=ze4 (a:=[x]) (r:=r) (n:=1) rfl
 show(zau ([x]++r) ((1:Nat):Int)).bind _=_
 rw[h]
 rfl
section
attribute [local irreducible] chG zb5 zdE zcl dtN
attribute [local irreducible] sdV hN
section
variable {gr:Group}{key:Int}{B:Bases}{l:List Cipher}{perm rs s t w x:List Int}{a b d f:Int}
theorem zjY (l:List Cipher):(sdV l).1.length=l.length∧(sdV l).2.length=l.length:=by unfold sdV;simp
end
end
section
attribute [local irreducible] chG zb5 zdE zcl dtN
section
variable {gr:Group}{key:Int}{B:Bases}{l:List Cipher}{perm rs s t w x:List Int}{a b d f:Int}
theorem zcH {m:Nat}(h:m≤1000000) {z:Int}(e:z=(m:Int)):IntKind.i64.wrap z=(m:Int):=by rw[e];exact zaj (by omega) (by omega)
attribute [local irreducible] sdV hN
end
end
def mkB (gr:Group) (key:Int) (l:List Cipher):Bool:=zay gr key&&(inB 1 12 l.length&&l.all (zbS gr))
noncomputable def pkB (gr:Group) (n:Nat) (perm rs:List Int):Bool:=decide (perm.length=n)&&zeZ perm&&(decide (rs.length=n)&&rs.all (zet gr))
theorem zkC {gr:Group}(k:OkG gr) (key:Int) (l:List Cipher) {B:Bases}{tb:Bool}(hB:zav gr (l.length:Int)=some (B,tb)):zcG gr key l=some (if mkB gr key l=true then(B,tb)else(⟨0,[]⟩,false)):=by
 unfold zcG
 rw[zmW,znl.2 k,zpy k,zki k,hB]
 unfold mkB
 cases zay gr key<;>cases (inB 1 12 l.length&&l.all (zbS gr))<;>rfl
theorem zry {gr:Group}(k:¬OkG gr) (key:Int) (l:List Cipher):zcG gr key l=some (⟨0,[]⟩,false):=by
 unfold zcG
 rw[zmW,zfN k]
 rfl
theorem zjX {gr:Group}{key:Int}{l:List Cipher}{perm rs:List Int}:(mkB gr key l&&pkB gr l.length perm rs)=true↔MxOk gr key l perm rs:=zBI
theorem zyw {gr:Group}(k:OkG gr) (key:Int) {l:List Cipher}(hl:l.length≤20) (perm rs:List Int) {B:Bases}{tb:Bool}(hB:zav gr (l.length:Int)=some (B,tb)):zez gr key l perm rs=some (if(tb&&(mkB gr key l&&pkB gr l.length perm rs))=true then(zb5 gr key l perm rs,true)else([],false)):=by
 unfold zez
 rw[zkC k key l hB,zkM k (by omega)]
 show Option.bind _ _=_
 rw[show(decide (perm.length=l.length)&&zeZ perm&&(decide (rs.length=l.length)&&rs.all (zet gr)))=pkB gr l.length perm rs from rfl]
 cases h1:mkB gr key l<;>cases tb<;>cases h2:pkB gr l.length perm rs<;>try rfl
 have m:=zjX.1 (show(mkB gr key l&&pkB gr l.length perm rs)=true by rw[h1,h2];rfl)
 simp[ztZ k m]
theorem zzj {gr:Group}(k:OkG gr) (key:Int) {l:List Cipher}(hl:l.length≤20) (perm rs:List Int):zc4 gr key l perm rs=some (if(mkB gr key l&&pkB gr l.length perm rs)=true then(zb5 gr key l perm rs,true)else([],false)):=by
 have hq:=k.q
 have hp:=k.p
 unfold zc4
 rw[zlY k,zsc perm l.length (by omega),zl6 (by omega) (by omega)]
 have e2:((rs.length:Int) !=(l.length:Int))= !decide (rs.length=l.length):=by by_cases h:rs.length=l.length<;>simp[h];omega
 rw[e2,show(zay gr key&&(inB 1 12 l.length&&l.all (zbS gr)))=mkB gr key l from rfl]
 cases h1:mkB gr key l
 ·rfl
 cases h2:(decide (perm.length=l.length)&&zeZ perm)
 ·simp[pkB,h2]
 cases h3:decide (rs.length=l.length)
 ·simp[pkB,h3]
 cases h4:rs.all (zet gr)
 ·simp[pkB,h4]
 have m:=zjX.1 (show(mkB gr key l&&pkB gr l.length perm rs)=true by simp only[pkB,h1,h2,h3,h4,Bool.and_self])
 simp[pkB,h2,h3,h4,ztE k m]
theorem zwG {gr:Group}(k:¬OkG gr) (key:Int) (l:List Cipher) (perm rs:List Int):zc4 gr key l perm rs=some ([],false):=by
 unfold zc4
 rw[zmA k]
 rfl
theorem zdS (a b:Nat):((a:Int)==(b:Int))=decide (a=b):=by by_cases h:a=b<;>simp[h];omega
theorem e_m {q a b:Int}(hq:q≤2000000000) (ha:E9 q a) (hb:E9 q b):IntKind.i64.wrap (a*b)=a*b∧(IntKind.i64.wrap (a*b)).tmod q=(a*b)%q:=by
 have h1:0≤a*b:=Int.mul_nonneg ha.1 hb.1
 have h2:a*b≤2000000000*2000000000:=Int.mul_le_mul (by have:=ha.2;omega) (by have:=hb.2;omega) hb.1 (by omega)
 rw[zaj (n:=a*b) (by omega) (by omega)]
 exact⟨rfl,Int.tmod_eq_emod_of_nonneg h1⟩
theorem zxt {gr:Group}(k:OkG gr) {x:Int}(h:zay gr x=true) {s:Int}(hs:0≤s):zaW gr (zaW gr x s) (-1)=zaW gr x (0-s):=by
 have hq:=k.q
 have e1:(-1:Int)%gr.Q=(gr.Q-1)%gr.Q:=by rw[show gr.Q-1=-1+gr.Q by omega,Int.add_emod_right]
 have h1:zaW gr (zaW gr x s) (-1)=zaW gr (zaW gr x s) (gr.Q-1):=zr7 _ e1
 rw[h1,zvi k h hs (by omega)]
 refine zr7 _ ?_
 rw[show s*(gr.Q-1)=(0-s)+gr.Q*s by grind,Int.add_mul_emod_self_left]
def bef (h:Int) (ch:List Int) (i:Nat):Int:=([h]++ch).getD i 0
theorem zpp {gr:Group}(k:OkG gr) {h:Int}(hh:zay gr h=true) {ch:List Int}(hc:∀z∈ch,zay gr z=true) (i:Nat) (hi:i≤ch.length):ix ([h]++ch) (i:Int)=some (bef h ch i)∧R9 (bef h ch i):=by
 have hl:i<([h]++ch).length:=by simp;omega
 unfold bef
 rw[zgZ hl,zeb hl]
 refine⟨rfl,zcK k ?_⟩
 rcases List.mem_append.1 (List.getElem_mem hl)with h1|h1
 ·rw[List.mem_singleton]at h1;rw[h1];exact hh
 exact hc _ h1
theorem zB7 (p:Proof):zf2 p p=some true:=by
 unfold zf2
 rw[zmz,zmz,zmz];rfl
section
variable {gr:Group}{key:Int}{B:Bases}{l:List Cipher}{perm rs s t w x:List Int}{a b d f:Int}
theorem zBa {gr:Group}{l:List Int}(h:∀z∈l,E9 gr.Q z):l.all (zet gr)=true:=List.all_eq_true.2 fun z hz=>zrX.2 (h z hz)
end
theorem zqz {α:Type}{e:Option α}{φ χ:α→Prop}(h1:Rn e φ) (h2:Rn e χ):Rn e (fun x=>φ x∧χ x):=by
 obtain⟨a,e1,p1⟩:=h1
 obtain⟨b,e2,p2⟩:=h2
 rw[e1]at e2;cases e2
 exact⟨a,e1,p1,p2⟩
def drB (gr:Group) (s:ByteArray) (k:Int):Bool:=(List.range 60).any fun c=>zfs gr s k (c:Int) !=1
def okD (gr:Group):Bool:=drB gr ⟨#[104]⟩ 0&&(List.range 13).all fun i=>drB gr ⟨#[104,115]⟩ (i:Int)
theorem zsj {gr:Group}(k:OkG gr) {s:ByteArray}{i y:Int}(h:drB gr s i=true) (hy:zhO gr s i y):0<y:=by
 rcases hy with⟨c,hc,rfl,_,_⟩|⟨_,h4⟩
 ·have:=zoE k s i c;omega
 obtain⟨c,hc,h5⟩:=List.any_eq_true.1 h
 rw[h4 c (by have:=List.mem_range.1 hc;omega)]at h5
 cases h5
theorem zvf {gr:Group}(k:OkG gr) (hd:okD gr=true) {n:Nat}(hn:n≤13):Rn (zav gr (n:Int)) (fun x=>x.2=true):=by
 obtain⟨d1,d2⟩:=Bool.and_eq_true_iff.1 hd
 obtain⟨y,_,hy2,hy3⟩:=zpc k (s:=⟨#[104]⟩) (by decide) (i:=0) rfl
 have hy:=zsj k d1 hy3
 unfold zav
 refine zab hy2 (zaf (ψ:=fun p=>p.2.2=true) (zc3 n (fun m p=>p.2.2.2=(m:Int)∧p.2.1.length=m∧p.2.2.1=true) ⟨rfl,rfl,rfl⟩ ?_ ?_) ?_)
 ·rintro m ⟨w,l,t,c⟩ hm ⟨h1,h2,h3⟩
  simp only at h1 h2 h3
  subst h1 h3
  obtain⟨z,_,z2,z3⟩:=zpc k (s:=⟨#[104,115]⟩) (by decide) (i:=(m:Int)) (zc0.2 ⟨by omega,by omega⟩)
  have hz:=zsj k (List.all_eq_true.1 d2 m (List.mem_range.2 (by omega))) z3
  refine zal (fun _=>?_) fun h=>absurd h (by simp;omega)
  refine zab z2 (zaf (ψ:=fun b=>b=true) (zgu rfl (zac (by simpa using hz))) fun b hb=>?_)
  subst hb
  refine zah (by dsimp only;omega) (zac ⟨?_,by simp[h2],rfl⟩)
  show IntKind.i64.wrap ((m:Int)+1)=_
  rw[zaj (by omega) (by omega)];rfl
 ·rintro⟨w,l,t,c⟩ ⟨h1,h2,h3⟩
  simp only at h1 h2 h3
  subst h1 h3
  exact zal (fun h=>absurd h (by simp)) fun _=>zac rfl
 rintro⟨w,l,t⟩ h
 have h:t=true:=h
 subst h
 refine zaf (ψ:=fun b=>b=false) (za9 (by simpa using hy) (zac rfl)) fun b hb=>?_
 subst hb
 exact za9 rfl (zac rfl)
theorem zsR {gr:Group}(k:OkG gr) (hd:okD gr=true) {n:Nat}(hn:n≤13):∃b,zcX gr (n:Int)=some (b,true)∧zav gr (n:Int)=some (b,true)∧BsOk gr n b:=by
 obtain⟨b,t,h1,h2,h3⟩:=zGO k (n:=n) (by omega)
 obtain⟨x,e1,e2⟩:=zvf k hd hn
 rw[h2]at e1
 cases e1
 have e2:t=true:=e2
 subst e2
 exact⟨b,h1,h2,h3 rfl⟩
def prC (n b:Nat):Bool:=decide (2≤n)&&decide (n<b*b)&&(List.range b).all fun d=>decide (d<2)||decide (n<d*d)||n%d !=0
theorem zwo {n b:Nat}(h:prC n b=true):Pr n:=by
 simp only[prC,Bool.and_eq_true,decide_eq_true_eq]at h
 obtain⟨⟨h1,h2⟩,h3⟩:=h
 refine⟨h1,fun d a1 a2=>?_⟩
 have hd:d<b:=Nat.lt_of_not_le fun hle=>by have:=Nat.mul_le_mul hle hle;omega
 have:=List.all_eq_true.1 h3 d (List.mem_range.2 hd)
 simp only[Bool.or_eq_true,decide_eq_true_eq,bne_iff_ne,ne_eq]at this
 omega
def npC (n:Nat):Bool:=(List.range 3500).any fun d=>decide (2≤d)&&(decide (d*d≤n)&&n%d==0)
theorem zB8 {n:Nat}(h:npC n=true):¬Pr n:=by
 obtain⟨d,_,hd⟩:=List.any_eq_true.1 h
 simp only[Bool.and_eq_true,decide_eq_true_eq,beq_iff_eq]at hd
 exact fun hp=>hp.2 d hd.1 hd.2.1 hd.2.2
def mgC (q K:Nat):Bool:=decide (q≤1000000)&&(decide (1≤K)&&(decide (1+K*q≤2000000000)&&(prC q 1001&&(prC (1+K*q) 3500&&(2^K%(1+K*q) !=1&&(List.range K).all fun k=>k==0||npC (1+k*q))))))
def grp (x:Nat×Nat):Group:=⟨((1+x.2*x.1:Nat):Int),(x.1:Int),((2^x.2%(1+x.2*x.1):Nat):Int)⟩
theorem zwa {q K:Nat}(h:mgC q K=true):zb4 (q:Int)=some (grp (q,K),true):=by
 simp only[mgC,Bool.and_eq_true,decide_eq_true_eq,bne_iff_ne,ne_eq]at h
 obtain⟨h1,h2,h3,h4,h5,h6,h7⟩:=h
 have hpq:=zwo h4
 have hpp:=zwo h5
 have hq:=hpq.1
 have hnp:∀k,1≤k→k<K→¬Pr (1+k*q):=fun k a b=>by
  have:=List.all_eq_true.1 h7 k (List.mem_range.2 b)
  rw[Bool.or_eq_true,beq_iff_eq]at this
  exact zB8 (this.resolve_left (by omega))
 unfold zb4
 refine zaB (zaf (ψ:=fun b=>b=false) ?_ ?_)
 ·refine zab (zgt _ _ _) (za9 (by simp;omega) (zab (zhW _ (by omega)) (zac ?_)))
  rw[zeU.2 hpq];rfl
 rintro _ rfl
 refine za9 rfl (zaf (ψ:=fun b=>b=.inr (grp (q,K),true)) ?_ ?_)
 ·rw[zaj (by omega) (by omega)]
  refine zeO (fun s=>∃k:Nat,1≤k∧k≤K∧s=((1+k*q:Nat):Int)) (fun s=>(2001000001-s).toNat) ⟨1,by omega,h2,by rw[Nat.one_mul];omega⟩ ?_
  rintro s ⟨k,hk,hkK,rfl⟩
  have hle:k*q≤K*q:=Nat.mul_le_mul_right q hkK
  refine zgu (by simp;omega) (zab (zhW _ (by omega)) ?_)
  by_cases e:k=K
  ·subst e
   rw[zeU.2 hpp]
   refine za9 rfl ?_
   have hdv:IntKind.i64.wrap ((IntKind.i64.wrap (((1+k*q:Nat):Int)-1)).tdiv (q:Int))=(k:Int):=by
    have e1:((1+k*q:Nat):Int)-1=(k:Int)*(q:Int):=by push_cast;omega
    have e2:(k:Int)*(q:Int)=((k*q:Nat):Int):=by push_cast;rfl
    have e3:k*1≤k*q:=Nat.mul_le_mul_left k (by omega)
    rw[e1,zaj (n:=(k:Int)*(q:Int)) (by omega) (by omega),Int.mul_tdiv_cancel _ (by omega),zaj (by omega) (by omega)]
   simp only[hdv]
   have e3:k*1≤k*q:=Nat.mul_le_mul_left k (by omega)
   have hpw:=(zfk (a:=2) (e:=(k:Int)) (m:=((1+k*q:Nat):Int)) (by omega) (by omega) (by omega) (by omega) (by omega) (by omega)).2
   rw[Int.toNat_natCast,Int.toNat_natCast]at hpw
   refine zaf (ψ:=fun h=>h=2) (zeO (fun s=>s=2) (fun _=>0) rfl ?_) ?_
   ·rintro _ rfl
    refine zah (by omega) (zab hpw (za9 ?_ (zac rfl)))
    have h8:¬(((2^k%(1+k*q):Nat):Int)=1):=fun e=>h6 (by exact_mod_cast e)
    exact beq_eq_false_iff_ne.2 h8
   rintro _ rfl
   exact zah (by omega) (zab hpw (zac rfl))
  have hn:=hnp k hk (by omega)
  have hf:prB ((1+k*q:Nat):Int)=false:=by
   cases hb:prB ((1+k*q:Nat):Int)
   ·rfl
   ·exact absurd (zeU.1 hb) hn
  rw[hf]
  have hle2:(k+1)*q≤K*q:=Nat.mul_le_mul_right q (by omega)
  rw[Nat.succ_mul]at hle2
  have e1:IntKind.i64.wrap (((1+k*q:Nat):Int)+(q:Int))=((1+(k+1)*q:Nat):Int):=by
   rw[zaj (by omega) (by omega),Nat.succ_mul];omega
  refine zgu rfl (zac ⟨⟨k+1,by omega,by omega,e1⟩,?_⟩)
  rw[e1,Nat.succ_mul];omega
 rintro _ rfl
 exact zac rfl
def ckG (gr:Group):Bool:=decide (gr.Q<2)||(decide (gr.P<3)||((gr.Q%2==0&&gr.Q !=2)||((gr.P-1)%gr.Q !=0||okD gr)))
def Dg (gr:Group):Prop:=OkG gr→okD gr=true
theorem zC4 {gr:Group}(h:ckG gr=true):Dg gr:=by
 intro k
 have hp:=k.p
 have hq:=k.q
 have hd:=k.d
 have hpq:=k.pq
 simp only[ckG,Bool.or_eq_true,Bool.and_eq_true,decide_eq_true_eq,beq_iff_eq,bne_iff_ne,ne_eq]at h
 rcases h with h|h|h|h|h
 ·omega
 ·omega
 ·exfalso
  obtain⟨n,hn⟩:=Int.eq_ofNat_of_zero_le (show 0≤gr.Q by omega)
  rw[hn,Int.toNat_natCast]at hpq
  exact hpq.2 2 (by omega) (by omega) (by omega)
 ·exfalso
  apply h
  obtain⟨n,hn⟩:=Int.eq_ofNat_of_zero_le (show 0≤gr.Q by omega)
  obtain⟨m,hm⟩:=Int.eq_ofNat_of_zero_le (show 0≤gr.P-1 by omega)
  have e:gr.P.toNat-1=m:=by omega
  rw[e,hn,Int.toNat_natCast]at hd
  rw[hm,hn,←Int.natCast_emod,hd];rfl
 exact h
def zmQ (gr:Group):List Group:=gr::([0,gr.P+2,4,-7].map fun x=>⟨x,gr.Q,gr.G⟩)++([0,1,gr.Q+1,gr.P-1].map fun x=>⟨gr.P,x,gr.G⟩)++([0,1,gr.P-1,gr.P,gr.G+1].map fun x=>⟨gr.P,gr.Q,x⟩)
def zmL (gr:Group):Bool:=(zmQ gr).all ckG
def tinyL:List (Nat×Nat):=[(3,2),(5,2),(7,4),(11,2),(13,4),(23,2)]
def midL:List (Nat×Nat):=[(101,6),(1009,10),(1019,2),(65537,14),(999983,12)]
theorem ztS:((tinyL++midL).all fun x=>mgC x.1 x.2)=true:=by decide+kernel
theorem zxq:zmL ⟨1000000007,500000003,4⟩=true:=by decide+kernel
theorem zw0:(midL.all fun x=>zmL (grp x))=true:=by decide+kernel
def zAW (x:Nat×Nat) (e:Nat):Group:=⟨(grp x).P,(grp x).Q,(((grp x).G.toNat^e%(grp x).P.toNat:Nat):Int)⟩
theorem zvZ:(tinyL.all fun x=>(List.range x.1).all fun e=>zmL (zAW x e))=true:=by decide+kernel
attribute [local irreducible] okD zmL
theorem zzW {x:Int}(hx:x∈[(3:Int),5,5,7,11,11,13,23]):∃y∈tinyL,x=(y.1:Int)∧3≤y.1∧y.1≤23:=by
 simp only[List.mem_cons,List.not_mem_nil,or_false]at hx
 rcases hx with rfl|rfl|rfl|rfl|rfl|rfl|rfl|rfl
 ·exact⟨(3,2),by simp[tinyL],rfl,by decide⟩
 ·exact⟨(5,2),by simp[tinyL],rfl,by decide⟩
 ·exact⟨(5,2),by simp[tinyL],rfl,by decide⟩
 ·exact⟨(7,4),by simp[tinyL],rfl,by decide⟩
 ·exact⟨(11,2),by simp[tinyL],rfl,by decide⟩
 ·exact⟨(11,2),by simp[tinyL],rfl,by decide⟩
 ·exact⟨(13,4),by simp[tinyL],rfl,by decide⟩
 exact⟨(23,2),by simp[tinyL],rfl,by decide⟩
theorem zBV {x:Int}(hx:x∈[(101:Int),1009,1019,65537,999983]):∃y∈midL,x=(y.1:Int):=by
 simp only[List.mem_cons,List.not_mem_nil,or_false]at hx
 rcases hx with rfl|rfl|rfl|rfl|rfl
 ·exact⟨(101,6),by simp[midL],rfl⟩
 ·exact⟨(1009,10),by simp[midL],rfl⟩
 ·exact⟨(1019,2),by simp[midL],rfl⟩
 ·exact⟨(65537,14),by simp[midL],rfl⟩
 exact⟨(999983,12),by simp[midL],rfl⟩
theorem zwY {y:Nat×Nat}(h:y∈tinyL):zb4 (y.1:Int)=some (grp y,true):=zwa (List.all_eq_true.1 ztS y (List.mem_append_left _ h))
theorem zxV {y:Nat×Nat}(h:y∈midL):zb4 (y.1:Int)=some (grp y,true):=zwa (List.all_eq_true.1 ztS y (List.mem_append_right _ h))
theorem zxW {y:Nat×Nat}(h:y∈tinyL):(grp y).Q=(y.1:Int)∧1≤(grp y).P∧(grp y).P≤100∧0≤(grp y).G∧(grp y).G≤100:=by
 simp only[tinyL,List.mem_cons,List.not_mem_nil,or_false]at h
 rcases h with rfl|rfl|rfl|rfl|rfl|rfl<;>exact⟨rfl,by decide,by decide,by decide,by decide⟩
theorem zpR {code c0:List Int}{at_ seed n:Int}(hb:Bt code) (h:Cu code n (c0,at_,seed)) (hn:n≤6000000000000000):Rn (zbC c0 at_ seed) (fun z=>zmL z.1=true):=by
 unfold zbC
 refine zaf (zd8 hb h (by omega)) fun z ⟨z1,z2,z3,z4,z5⟩=>?_
 refine zal (fun _=>zac zxq) fun _=>zal (fun _=>?_) fun _=>?_
 ·refine zaf (zdP hb z5 (by omega) (by simp)) fun y ⟨y1,y2⟩=>?_
  obtain⟨q,hq,e⟩:=zBV y1
  rw[e]
  exact zab (zxV hq) (zac (List.all_eq_true.1 zw0 q hq))
 unfold zcw
 refine zaf (ψ:=fun w=>(∃q∈tinyL,w.1=grp q∧3≤q.1∧q.1≤23)∧Cu code (n+8) w.2) (zaf (zdP hb z5 (by omega) (by simp)) fun y ⟨y1,y2⟩=>?_) fun y ⟨⟨q,hq,e,q3,q23⟩,y2⟩=>?_
 ·obtain⟨q,hq,e,q3⟩:=zzW y1
  rw[e]
  exact zab (zwY hq) (zac ⟨⟨q,hq,rfl,q3⟩,y2.mono (by omega)⟩)
 obtain⟨b1,b2,b3,b4,b5⟩:=zxW hq
 rw[e,b1,zaj (n:=(q.1:Int)-1) (by omega) (by omega)]
 refine zaf (zd8 hb y2 (by omega)) fun x ⟨x1,x2,x3,x4,x5⟩=>?_
 have x3:=x3 (by omega)
 rw[zaj (n:=1+x.1) (by omega) (by omega)]
 have hm:=zi9 (a:=1+x.1) (q:=(grp q).Q) (by omega) (by omega)
 have e1:(1+x.1)%(grp q).Q=1+x.1:=Int.emod_eq_of_lt (by omega) (by omega)
 have hw:=(zfk (a:=(grp q).G) (e:=1+x.1) (m:=(grp q).P) b4 (by omega) (by omega) (by omega) (by omega) (by omega)).2
 refine zaf (ψ:=fun v=>v=(((grp q).G.toNat^(1+x.1).toNat%(grp q).P.toNat:Nat):Int)) ?_ ?_
 ·unfold zat
  refine zab hm ?_
  rw[e1]
  exact zab hw (zac rfl)
 rintro _ rfl
 refine zac ?_
 rw[←b1]
 exact List.all_eq_true.1 (List.all_eq_true.1 zvZ q hq) (1+x.1).toNat (List.mem_range.2 (by omega))
theorem zlx {gr g:Group}(h:zmL gr=true) (hm:g∈zmQ gr):Dg g:=by
 unfold zmL at h
 exact zC4 (List.all_eq_true.1 h g hm)
theorem zqV {code c0:List Int}{at_ seed n:Int}(hb:Bt code) (h:Cu code n (c0,at_,seed)) (hn:n≤5000000000000000):Rn (zbB c0 at_ seed) (fun z=>Dg z.1):=by
 unfold zbB
 refine zaf (zqz (zoa hb h (by omega)) (zpR hb h (by omega))) fun z ⟨⟨z1,z2⟩,z3⟩=>?_
 have g1:=z1.p
 have g2:=z1.q
 have g3:=z1.g
 refine zaf (zd8 hb z2 (by omega)) fun y ⟨_,_,_,_,y5⟩=>?_
 rw[zaj (n:=z.1.P+2) (by omega) (by omega),zaj (n:=z.1.Q+1) (by omega) (by omega),zaj (n:=z.1.P-1) (by omega) (by omega),zaj (n:=z.1.G+1) (by omega) (by omega)]
 refine zaf (ψ:=fun x=>Dg (Group.mk x.2.1 x.2.2.1 x.2.2.2)) ?_ fun x hx=>zac hx
 refine zal (fun _=>?_) fun _=>zal (fun _=>?_) fun _=>zal (fun _=>?_) fun _=>zac (zlx z3 (by simp[zmQ]))
 ·exact zaf (zdP hb y5 (by omega) (by simp)) fun x ⟨x1,x2⟩=>zac (zlx z3 (by unfold zmQ;exact List.mem_append_left _ (List.mem_append_left _ (List.mem_cons_of_mem _ (List.mem_map.2 ⟨_,x1,rfl⟩)))))
 ·exact zaf (zdP hb y5 (by omega) (by simp)) fun x ⟨x1,x2⟩=>zac (zlx z3 (by unfold zmQ;exact List.mem_append_left _ (List.mem_append_right _ (List.mem_map.2 ⟨_,x1,rfl⟩))))
 exact zaf (zdP hb y5 (by omega) (by simp)) fun x ⟨x1,x2⟩=>zac (zlx z3 (by unfold zmQ;exact List.mem_append_right _ (List.mem_map.2 ⟨_,x1,rfl⟩)))
theorem zu2 {code c0:List Int}{at_ seed n:Int}(hb:Bt code) (h:Cu code n (c0,at_,seed)) (hn:n≤1000000000000000):Rn (zcY c0 at_ seed) (fun z=>(Gw z.1∧Dg z.1)∧z.2.2.1.length≤13∧Cu code (n+400) z.2.2.2.2.2):=by
 unfold zcY
 refine zaf (zqz (zoa hb h (by omega)) (zpR hb h (by omega))) fun z ⟨⟨z1,z2⟩,z3⟩=>zaf (zh5 hb z2 (by omega)) fun y y1=>?_
 refine zaf (ψ:=fun x=>(Gw (Group.mk x.2.1 x.2.2.1 x.2.2.2)∧Dg (Group.mk x.2.1 x.2.2.1 x.2.2.2))∧Cu code (n+20) x.1) (zal (fun _=>zaf (zqz (zs3 hb y1 (by omega)) (zqV hb y1 (by omega))) fun w ⟨⟨w1,w2⟩,w3⟩=>zac ⟨⟨w1,w3⟩,w2.mono (by omega)⟩) fun _=>zac ⟨⟨z1.w,zlx z3 (by simp[zmQ])⟩,y1.mono (by omega)⟩) fun x ⟨⟨x1,x0⟩,x2⟩=>?_
 refine zaf (zd8 hb x2 (by omega)) fun p ⟨p1,_,p3,_,p5⟩=>?_
 have p3:=p3 (by omega)
 obtain⟨K,hK⟩:=Int.eq_ofNat_of_zero_le p1
 rw[hK,zaj (n:=1+(K:Int)) (by omega) (by omega)]
 refine zaf (ψ:=fun r=>r.2.length=K+1∧Cu code (n+60) r.1) (zc3 (K+1) (fun j s=>s.2.2=(K:Int)+1-j∧s.2.1.length=j∧Cu code (n+22+8*j) s.1) ⟨by dsimp only;omega,rfl,p5.mono (by omega)⟩ ?_ ?_) fun r ⟨r1,r2⟩=>?_
 ·rintro j ⟨c,l,i⟩ hj ⟨h1,h2,h3⟩
  have h1:i=(K:Int)+1-j:=h1
  have h2:l.length=j:=h2
  refine zgu (by simp;omega) (zaf (zvO hb h3 (by omega) x1) fun w w1=>zah (by dsimp only;omega) (zac ⟨?_,by simp[h2],w1.mono (by push_cast;omega)⟩))
  show IntKind.i64.wrap (i-1)=_
  rw[zaj (by omega) (by omega)];push_cast;omega
 ·rintro⟨c,l,i⟩ ⟨h1,h2,h3⟩
  have h1:i=(K:Int)+1-((K+1:Nat):Int):=h1
  exact za9 (by simp;omega) (zac ⟨h2,h3.mono (by omega)⟩)
 refine zaf (zyj hb r2 (by omega) (by omega)) fun u ⟨u1,u2⟩=>?_
 refine zaf (znb hb u2 (by omega) x1 (by omega)) fun v ⟨v1,v2⟩=>?_
 refine zaf (zd8 hb v2 (by omega)) fun q ⟨_,_,_,_,q5⟩=>?_
 refine zaf (ψ:=fun x=>x.2.1.length≤13∧Cu code (n+300) x.1) (zal (fun _=>?_) fun _=>zal (fun _=>?_) fun _=>zal (fun _=>zac ⟨by simp,q5.mono (by omega)⟩) fun _=>zal (fun _=>?_) fun _=>zac ⟨by dsimp only;omega,q5.mono (by omega)⟩) fun w ⟨w1,w2⟩=>?_
 ·exact zaf (zmh hb q5 (by omega) x1) fun w w1=>zb1 (k:=0) (by omega) (zac ⟨by show(r.2.set _ _).length≤_;rw[List.length_set];omega,w1.mono (by omega)⟩)
 ·exact zaf (zdP hb q5 (by omega) (by simp)) fun w ⟨_,w1⟩=>zb1 (k:=0) (by omega) (zac ⟨by dsimp only;omega,w1.mono (by omega)⟩)
 ·refine zeO (fun s=>1≤s.2.length∧s.2.length≤13∧Cu code (n+200+2*s.2.length) s.1) (fun s=>13-s.2.length) ⟨by dsimp only;omega,by dsimp only;omega,q5.mono (by dsimp only;omega)⟩ ?_
  rintro⟨c,l⟩ ⟨h1,h2,h3⟩
  have h1:1≤l.length:=h1
  have h2:l.length≤13:=h2
  have h3:Cu code (n+200+2*l.length) c:=h3
  refine zaf (zd8 hb h3 (by omega)) fun w ⟨w1,_,w3,_,w5⟩=>?_
  have w3:=w3 (by omega)
  dsimp only
  rw[zaj (n:=12+w.1) (by omega) (by omega)]
  refine zal (fun g=>?_) fun _=>zac ⟨by dsimp only;omega,w5.mono (by omega)⟩
  have g:(l.length:Int)<12+w.1:=by simpa using g
  exact zb1 (k:=0) (by omega) (zah (by omega) (zac ⟨⟨by simp,by simp;omega,w5.mono (by simp;omega)⟩,by simp;omega⟩))
 exact zaf (zfC hb w2 (by omega) x1) fun t ⟨_,_,t3⟩=>zac ⟨⟨x1,x0⟩,w1,t3.mono (by omega)⟩
theorem zur {code:List Int}(hb:Bt code):Rn (zcT code) (fun z=>(Gw z.1∧Dg z.1)∧z.2.2.1.length≤13):=by
 unfold zcT
 refine zaf (zu2 hb (cu0 code) (by omega)) fun z ⟨⟨z1,z0⟩,z2,z3⟩=>?_
 have w8:IntKind.i64.wrap (IntKind.i64.wrap (8*(z.2.2.1.length:Int))+2)=((8*z.2.2.1.length+2:Nat):Int):=by
  rw[zaj (n:=8*(z.2.2.1.length:Int)) (by omega) (by omega)];exact zcH (by omega) (by omega)
 rw[w8]
 exact zaf (znb hb z3 (by omega) z1 (by omega)) fun y _=>zac ⟨⟨z1,z0⟩,z2⟩
def rg (f:Nat→Int) (n:Nat):List Int:=(List.range n).map f
theorem zak (f:Nat→Int) (n:Nat):(rg f n).length=n:=by simp[rg]
theorem zjK (f:Nat→Int):rg f 0=[]:=rfl
theorem zg2 (f:Nat→Int) (n:Nat):rg f (n+1)=rg f n++[f n]:=by simp[rg,List.range_succ]
theorem zh8 (f:Nat→Int) (n:Nat) (A:List Int):A++rg f (n+1)=(A++rg f n)++[f n]:=by rw[zg2,List.append_assoc]
theorem zhv (f:Nat→Int) {n i:Nat}(h:i<n):ix (rg f n) (i:Int)=some (f i):=by
 rw[zgZ (by rw[zak];exact h)];simp[rg]
theorem zBZ (f:Nat→Int) {n i:Nat}(h:i<n):(rg f n).getD i 0=f i:=by
 rw[zeb (by rw[zak];exact h)];simp[rg]
theorem zgn {P:Int→Prop}{f:Nat→Int}{n:Nat}(h:∀i,i<n→P (f i)):∀x∈rg f n,P x:=by
 intro x hx
 obtain⟨i,hi,rfl⟩:=List.mem_map.1 hx
 exact h i (List.mem_range.1 hi)
theorem zbU {P:Int→Prop}{l:List Int}(h:∀x∈l,P x) {i:Nat}(hi:i<l.length):P (l.getD i 0):=by
 rw[zeb hi];exact h _ (List.getElem_mem hi)
theorem zbp {l:List Int}{i:Nat}(hi:i<l.length):ix l (i:Int)=some (l.getD i 0):=by rw[zgZ hi,zeb hi]
theorem zfQ {σ γ:Type}{body:Int→σ→Option (Stp σ γ)}{stop:σ→γ}{n:Nat}{s0:σ}(S:Nat→σ) (h0:s0=S 0) (hs:∀i,i<n→Rn (body (i:Int) (S i)) (· =.go (S (i+1)))):zap body stop n 0 s0=some (stop (S n)):=by
 refine zaB (zci (fun i y=>y=S i) h0 ?_ ?_)
 ·rintro i y hi rfl
  obtain⟨v,h1,rfl⟩:=hs i hi
  exact⟨_,h1,rfl⟩
 rintro y rfl;rfl
def vc (gr:Group) (h x r:Int):Int:=zbV gr [zaW gr gr.G x,zaW gr h r]
theorem zyU {gr:Group}(k:OkG gr) (h x r:Int):R9 (vc gr h x r):=ziY k (zbu k _ _) (zbu k _ _)
theorem zqp {gr:Group}(k:OkG gr) {h:Int}(hh:zay gr h=true) (x r:Int):zay gr (vc gr h x r)=true:=znM k (znu k (zhj k) _) (znu k hh _)
theorem zkj {gr:Group}(k:OkG gr) {B:Bases}(hh:R9 B.H) (x r:Int):zaS gr B x r=some (vc gr B.H x r):=by
 unfold zaS
 rw[pwI k (r_G k),Option.bind_some,pwI k hh,Option.bind_some,m2I k (zbu k _ _) (zbu k _ _)];rfl
theorem zlO {gr:Group}(k:OkG gr) {h:Int}(hh:R9 h) (x r:Int):zcz gr h x r=some (vc gr h x r):=by
 unfold zcz
 rw[pwS k (r_G k),Option.bind_some,pwS k hh,Option.bind_some,m2S k (zbu k _ _) (zbu k _ _)];rfl
structure Pc where
 a:List Int
 b:List Int
 c:List Int
 w:List Int
 v:List Int
 s:List Int
 g:Int
 k:List Int
 m:List Int
 f:Int
structure PcOk (q:Int) (n:Nat) (C:Pc):Prop where
 a:C.a.length=n∧∀z∈C.a,E9 q z
 b:C.b.length=n∧∀z∈C.b,E9 q z
 c:C.c.length=n∧∀z∈C.c,E9 q z
 w:C.w.length=n∧∀z∈C.w,E9 q z
 v:C.v.length=n∧∀z∈C.v,E9 q z
 s:C.s.length=n∧∀z∈C.s,E9 q z
 g:E9 q C.g
 k:C.k.length=n∧∀z∈C.k,E9 q z
 m:C.m.length=n∧∀z∈C.m,E9 q z
 f:E9 q C.f
def plF (gr:Group) (h:Int) (perm:List Int) (C:Pc) (i:Nat):Int:=vc gr h (perm.getD i 0+1) (C.a.getD i 0)
def eF (q x:Int) (perm:List Int) (i:Nat):Int:=((x.toNat^(perm.getD i 0+1).toNat%q.toNat:Nat):Int)
def pwF (gr:Group) (h:Int) (e:Nat→Int) (C:Pc) (i:Nat):Int:=vc gr h (e i) (C.b.getD i 0)
def uF (q y z:Int) (e:Nat→Int) (perm:List Int) (i:Nat):Int:=(y*(perm.getD i 0+1)+e i-z)%q
def prN (q:Int) (u:Nat→Int):Nat→Int
 |0=>1
 |i+1=>(prN q u i*u i)%q
def chF (gr:Group) (h:Int) (u:Nat→Int) (C:Pc) (i:Nat):Int:=vc gr h (prN gr.Q u (i+1)) (C.c.getD i 0)
def lsF (C:Pc):Nat→Int
 |0=>0
 |i+1=>C.c.getD i 0
def dlF (q:Int) (u:Nat→Int) (C:Pc) (i:Nat):Int:=(C.c.getD i 0-lsF C i*u i)%q
def c1F (gr:Group) (h:Int) (C:Pc) (i:Nat):Int:=vc gr h (C.w.getD i 0) (C.v.getD i 0)
def c2F (gr:Group) (h:Int) (ch:List Int) (C:Pc) (i:Nat):Int:=zbV gr [zaW gr (bef gr.G ch i) (C.w.getD i 0),zaW gr h (C.s.getD i 0)]
def c4F (gr:Group) (h:Int) (C:Pc) (i:Nat):Int:=vc gr h (C.k.getD i 0) (C.m.getD i 0)
def abF (q y:Int) (C:Pc) (i:Nat):Int:=(y*C.a.getD i 0+C.b.getD i 0)%q
def rF (q t:Int) (w:List Int) (u:Nat→Int) (i:Nat):Int:=(w.getD i 0+t*u i)%q
theorem ztp {q:Int}(hq:0<q) (x:Int) (perm:List Int) (i:Nat):E9 q (eF q x perm i):=by
 have h:=Nat.mod_lt (x.toNat^(perm.getD i 0+1).toNat) (show 0<q.toNat by omega)
 exact⟨Int.natCast_nonneg _,by unfold eF;omega⟩
theorem zws {q:Int}(hq:1<q) (u:Nat→Int):∀i,E9 q (prN q u i)
 |0=>⟨by show(0:Int)≤1;omega,hq⟩
 |i+1=>zdB (by omega) _
theorem zwq {q:Int}{n:Nat}{C:Pc}(hq:0<q) (c:PcOk q n C) {i:Nat}(hi:i≤n):E9 q (lsF C i):=by
 cases i with
 |zero=>exact⟨Int.le_refl 0,hq⟩
 |succ i=>exact zbU c.c.2 (by have:=c.c.1;omega)
theorem zvd {gr:Group}(k:OkG gr) {x p:Int}(hx:E9 gr.Q x) (hp:0≤p∧p≤1000):zbE x (IntKind.i64.wrap (p+1)) gr.Q=some ((x.toNat^(p+1).toNat%gr.Q.toNat:Nat):Int)∧za6 x (IntKind.i64.wrap (p+1)) gr.Q=some ((x.toNat^(p+1).toNat%gr.Q.toNat:Nat):Int):=by
 have hP:=k.p
 have hq:=k.q
 rw[zaj (by omega) (by omega)]
 exact zfk hx.1 (by have:=hx.2;omega) (by omega) (by omega) (by omega) (by omega)
theorem zxw {q a b:Int}:(a-b%q)%q=(a-b)%q:=by rw[Int.sub_emod,Int.emod_emod,←Int.sub_emod]
theorem e_u {q y p e z:Int}(hq:0<q∧q≤2000000000) (hy:E9 q y) (hp:0≤p∧p≤1000) (he:E9 q e) (hz:E9 q z):IntKind.i64.wrap (IntKind.i64.wrap (IntKind.i64.wrap (y*IntKind.i64.wrap (p+1))+e)-z)=y*(p+1)+e-z:=by
 have h1:0≤y*(p+1):=Int.mul_nonneg hy.1 (by omega)
 have h2:y*(p+1)≤2000000000*1001:=Int.mul_le_mul (by have:=hy.2;omega) (by omega) (by omega) (by omega)
 have:=he.1;have:=he.2;have:=hz.1;have:=hz.2
 rw[zaj (n:=p+1) (by omega) (by omega),zaj (n:=y*(p+1)) (by omega) (by omega),zaj (n:=y*(p+1)+e) (by omega) (by omega),zaj (by omega) (by omega)]
theorem zGQ {q y p e z:Int}(hq:0<q∧q≤2000000000) (hy:E9 q y) (hp:0≤p∧p≤1000) (he:E9 q e) (hz:E9 q z):(IntKind.i64.wrap (IntKind.i64.wrap (IntKind.i64.wrap (y*(IntKind.i64.wrap (p+1)).tmod q)+e)-z))%q=(y*(p+1)+e-z)%q:=by
 have h0:E9 q ((p+1)%q):=zdB hq.1 _
 rw[zaj (n:=p+1) (by omega) (by omega),Int.tmod_eq_emod_of_nonneg (by omega)]
 have h1:0≤y*((p+1)%q):=Int.mul_nonneg hy.1 h0.1
 have h2:y*((p+1)%q)≤2000000000*2000000000:=Int.mul_le_mul (by have:=hy.2;omega) (by have:=h0.2;omega) h0.1 (by omega)
 have:=he.1;have:=he.2;have:=hz.1;have:=hz.2
 rw[zaj (n:=y*((p+1)%q)) (by omega) (by omega),zaj (n:=y*((p+1)%q)+e) (by omega) (by omega),zaj (by omega) (by omega)]
 have e1:(y*((p+1)%q))%q=(y*(p+1))%q:=by rw[Int.mul_emod,Int.emod_emod,←Int.mul_emod]
 rw[Int.sub_emod,Int.add_emod,e1,←Int.add_emod,←Int.sub_emod]
section
variable {gr:Group}{h:Int}{perm:List Int}{C:Pc}{n:Nat}
theorem zrS {CM:Int→Int→Option Int}(hC:∀x r,CM x r=some (vc gr h x r)) (hp:∀x∈perm,0≤x∧x≤1000) (hl:perm.length=n) (ha:C.a.length=n) (hn:n≤100):zap (σ:=(List Int)) (fun i5 s4=>
 (ix perm i5).bind fun x11=>
 (ix C.a i5).bind fun x12=>
 (CM (IntKind.i64.wrap (x11+1)) x12).bind fun z13=>
 gd ((s4.length+1)*8≤140737488355328∧s4.length+1≤4611686018427387904)<|
 some (.go (s4++[z13]))) (fun s4=>s4) perm.length 0 []=some (rg (plF gr h perm C) n):=by
 rw[hl]
 refine zfQ (fun i=>rg (plF gr h perm C) i) rfl fun i hi=>?_
 have hp:=zbU hp (i:=i) (by omega)
 refine zab (zbp (by omega)) (zab (zbp (by omega)) ?_)
 rw[zaj (n:=perm.getD i 0+1) (by omega) (by omega)]
 refine zab (hC _ _) (zah (by rw[zak];omega) (zac ?_))
 rw[zg2];rfl
theorem zv6 (k:OkG gr) {B:Bases}(hh:R9 B.H) (hp:∀x∈perm,0≤x∧x≤1000) (hl:perm.length=n) (ha:C.a.length=n) (hn:n≤100):zb7 gr B perm C.a=some (rg (plF gr B.H perm C) n):=by
 unfold zb7
 rw[zrS (zkj k hh) hp hl ha hn];rfl
theorem zAI (k:OkG gr) (hh:R9 h) (hp:∀x∈perm,0≤x∧x≤1000) (hl:perm.length=n) (ha:C.a.length=n) (hn:n≤100):zfF gr h perm C.a=some (rg (plF gr h perm C) n):=by
 unfold zfF
 rw[zrS (zlO k hh) hp hl ha hn];rfl
end
abbrev sX:ByteArray:=⟨#[109,105,120,32,120]⟩
abbrev sY:ByteArray:=⟨#[109,105,120,32,121]⟩
abbrev sZ:ByteArray:=⟨#[109,105,120,32,122]⟩
abbrev sE:ByteArray:=⟨#[109,105,120,32,101,110,100]⟩
section
variable {gr:Group}{h:Int}{perm:List Int}{C:Pc}{n:Nat}
theorem zwS (k:OkG gr) {B:Bases}(hh:R9 B.H) (hp:∀x∈perm,0≤x∧x≤1000) (hl:perm.length=n) (hb:C.b.length=n) (hn:n≤100) {x:Int}(hx:E9 gr.Q x) {A:List Int}:zap (σ:=(List Int)×List Int×List Int×List Int×List Int×List Int×List Int) (fun i33 s32=>
 (ix perm i33).bind fun x39=>
 (zbE x (IntKind.i64.wrap (x39+1)) gr.Q).bind fun z40=>
 gd ((s32.2.2.2.2.2.2.length+1)*8≤140737488355328∧s32.2.2.2.2.2.2.length+1≤4611686018427387904)<|
 (some (s32.2.2.2.2.2.2++[z40])).bind fun x41=>
 (ix x41 i33).bind fun x43=>
 (ix C.b i33).bind fun x44=>
 (zaS gr B x43 x44).bind fun z45=>
 gd ((s32.2.1.length+1)*8≤140737488355328∧s32.2.1.length+1≤4611686018427387904)<|
 some (.go (s32.1,s32.2.1++[z45],s32.2.2.1,s32.2.2.2.1,s32.2.2.2.2.1,s32.2.2.2.2.2.1,x41))) (fun s32=>(s32.1,s32.2.1,s32.2.2.1,s32.2.2.2.1,s32.2.2.2.2.1,s32.2.2.2.2.2.1,s32.2.2.2.2.2.2)) perm.length 0 (A,[],[],[],[],[],[])=some (A,rg (pwF gr B.H (eF gr.Q x perm) C) n,[],[],[],[],rg (eF gr.Q x perm) n):=by
 rw[hl]
 refine zfQ (fun i=>(A,rg (pwF gr B.H (eF gr.Q x perm) C) i,[],[],[],[],rg (eF gr.Q x perm) i)) rfl fun i hi=>?_
 have hp:=zbU hp (i:=i) (by omega)
 refine zab (zbp (by omega)) (zab (zvd k hx hp).1 (zah (by rw[zak];omega) (zab (a:=rg (eF gr.Q x perm) (i+1)) (by rw[zg2];rfl) (zab (zhv _ (by omega)) (zab (zbp (by omega)) (zab (zkj k hh _ _) (zah (by rw[zak];omega) (zac ?_))))))))
 rw[zg2 (pwF gr B.H (eF gr.Q x perm) C)];rfl
theorem zwz (k:OkG gr) {B:Bases}(hh:R9 B.H) (hp:∀x∈perm,0≤x∧x≤1000) (hl:perm.length=n) (c:PcOk gr.Q n C) (hn:n≤100) {x y z:Int}(hy:E9 gr.Q y) (hz:E9 gr.Q z) {A W:List Int}:zap (σ:=(List Int)×List Int×List Int×List Int×List Int×List Int×List Int×Int×List Int) (fun i80 s79=>
 (ix perm i80).bind fun x86=>
 (ix (rg (eF gr.Q x perm) n) i80).bind fun x87=>
 (zaw gr (IntKind.i64.wrap ((IntKind.i64.wrap ((IntKind.i64.wrap (y*(IntKind.i64.wrap (x86+1))))+x87))-z))).bind fun z88=>
 gd ((s79.2.2.2.2.2.2.1.length+1)*8≤140737488355328∧s79.2.2.2.2.2.2.1.length+1≤4611686018427387904)<|
 (some (s79.2.2.2.2.2.2.1++[z88])).bind fun x89=>
 (ix x89 i80).bind fun x91=>
 (zaw gr (IntKind.i64.wrap (s79.2.2.2.2.2.2.2.1*x91))).bind fun z92=>
 (ix C.c i80).bind fun x93=>
 (zaS gr B z92 x93).bind fun z94=>
 gd ((s79.2.2.1.length+1)*8≤140737488355328∧s79.2.2.1.length+1≤4611686018427387904)<|
 ((if decide (0<i80)=true then(
 (ix C.c (IntKind.i64.wrap (i80-1))).bind fun x99=>
 (zaw gr (IntKind.i64.wrap (x99*x91))).bind fun z100=>
 (zaw gr (IntKind.i64.wrap (x93-z100))).bind fun z101=>
 some z101)else(
 some x93):Option Int).bind fun x97=>
 gd ((s79.2.2.2.2.2.2.2.2.length+1)*8≤140737488355328∧s79.2.2.2.2.2.2.2.2.length+1≤4611686018427387904)<|
 some (.go (s79.1,s79.2.1,s79.2.2.1++[z94],s79.2.2.2.1,s79.2.2.2.2.1,s79.2.2.2.2.2.1,x89,z92,s79.2.2.2.2.2.2.2.2++[x97])))) (fun s79=>(s79.1,s79.2.1,s79.2.2.1,s79.2.2.2.1,s79.2.2.2.2.1,s79.2.2.2.2.2.1,s79.2.2.2.2.2.2.1,s79.2.2.2.2.2.2.2.2)) perm.length 0 (A,W,[],[],[],[],[],1,[])=
  some (A,W,rg (chF gr B.H (uF gr.Q y z (eF gr.Q x perm) perm) C) n,[],[],[],rg (uF gr.Q y z (eF gr.Q x perm) perm) n,rg (dlF gr.Q (uF gr.Q y z (eF gr.Q x perm) perm) C) n):=by
 rw[hl]
 have hP:=k.p
 have hq:=k.q
 have hq2:0<gr.Q∧gr.Q≤2000000000:=by omega
 generalize hu:uF gr.Q y z (eF gr.Q x perm) perm=u
 have hue:∀i,E9 gr.Q (u i):=fun i=>by rw[←hu];exact zdB hq2.1 _
 refine zfQ (fun i=>(A,W,rg (chF gr B.H u C) i,[],[],[],rg u i,prN gr.Q u i,rg (dlF gr.Q u C) i)) rfl fun i hi=>?_
 have hp:=zbU hp (i:=i) (by omega)
 have hc:=zbU c.c.2 (i:=i) (by have:=c.c.1;omega)
 have hm:=(e_m (q:=gr.Q) (by omega) (zws (by omega) u i) (hue i)).1
 refine zab (zbp (by omega)) (zab (zhv _ hi) (zab (zf4 k _) ?_))
 rw[e_u hq2 hy hp (ztp hq2.1 _ _ _) hz,show(y*(perm.getD i 0+1)+eF gr.Q x perm i-z)%gr.Q=u i by rw[←hu];rfl]
 refine zah (by rw[zak];omega) (zab (a:=rg u (i+1)) (by rw[zg2]) (zab (zhv _ (by omega)) (zab (zf4 k _) ?_)))
 rw[hm]
 refine zab (zbp (by have:=c.c.1;omega)) (zab (zkj k hh _ _) (zah (by rw[zak];omega) (zaf (ψ:=(· =dlF gr.Q u C i)) ?_ ?_)))
 ·refine zal (fun g=>?_) fun g=>zac ?_
  ·have g:0<(i:Int):=by simpa using g
   obtain⟨j,rfl⟩:∃j,i=j+1:=⟨i-1,by omega⟩
   have hj:=zbU c.c.2 (i:=j) (by have:=c.c.1;omega)
   rw[zcH (m:=j) (by omega) (by omega)]
   refine zab (zbp (by have:=c.c.1;omega)) (zab (zf4 k _) ?_)
   rw[(e_m (q:=gr.Q) (by omega) hj (hue (j+1))).1]
   refine zab (zf4 k _) (zac ?_)
   have hx:=zdB hq2.1 (C.c.getD j 0*u (j+1))
   rw[zaj (by have:=hc.1;have:=hx.2;omega) (by have:=hc.2;have:=hx.1;omega),zxw];rfl
  have g:¬0<(i:Int):=by simpa using g
  have e:i=0:=by omega
  subst e
  show C.c.getD 0 0=(C.c.getD 0 0-0*u 0)%gr.Q
  rw[Int.zero_mul,Int.sub_zero,Int.emod_eq_of_lt hc.1 hc.2]
 rintro _ rfl
 refine zah (by rw[zak];omega) (zac ?_)
 rw[zg2 (chF gr B.H u C),zg2 (dlF gr.Q u C)];rfl
theorem zrZ {CM:Int→Int→Option Int}(hC:∀x r,CM x r=some (vc gr h x r)) {w v:List Int}(hw:w.length=n) (hv:v.length=n) (hn:n≤100) {A:List Int}(hA:A.length≤1000):zap (σ:=(List Int)) (fun i112 s111=>
 (ix w i112).bind fun x118=>
 (ix v i112).bind fun x119=>
 (CM x118 x119).bind fun z120=>
 gd ((s111.length+1)*8≤140737488355328∧s111.length+1≤4611686018427387904)<|
 some (.go (s111++[z120]))) (fun s111=>s111) n 0 A=some (A++rg (fun i=>vc gr h (w.getD i 0) (v.getD i 0)) n):=by
 refine zfQ (fun i=>A++rg (fun i=>vc gr h (w.getD i 0) (v.getD i 0)) i) (by rw[zjK,List.append_nil]) fun i hi=>?_
 refine zab (zbp (by omega)) (zab (zbp (by omega)) (zab (hC _ _) (zah (by rw[List.length_append,zak];omega) (zac ?_))))
 rw[zh8]
theorem zxC (k:OkG gr) (hh:R9 h) {ch:List Int}(hc:ch.length=n∧∀z∈ch,zay gr z=true) (c:PcOk gr.Q n C) (hn:n≤100) {A:List Int}(hA:A.length≤1000):zap (σ:=(List Int)) (fun i129 s128=>
 (ix ([gr.G]++ch) i129).bind fun x135=>
 (ix C.w i129).bind fun x136=>
 (ix C.s i129).bind fun x137=>
 (zam gr x135 x136).bind fun z138=>
 (zam gr h x137).bind fun z139=>
 (zaz gr [z138,z139]).bind fun z140=>
 gd ((s128.length+1)*8≤140737488355328∧s128.length+1≤4611686018427387904)<|
 some (.go (s128++[z140]))) (fun s128=>s128) n 0 A=some (A++rg (c2F gr h ch C) n):=by
 refine zfQ (fun i=>A++rg (c2F gr h ch C) i) (by rw[zjK,List.append_nil]) fun i hi=>?_
 have hb:=zpp k (zhj k) hc.2 i (by omega)
 refine zab hb.1 (zab (zbp (by have:=c.w.1;omega)) (zab (zbp (by have:=c.s.1;omega)) (zab (pwI k hb.2 _) (zab (pwI k hh _) (zab (m2I k (zbu k _ _) (zbu k _ _)) (zah (by rw[List.length_append,zak];omega) (zac ?_)))))))
 rw[zh8];rfl
theorem zz6 {q y a b:Int}(hq:q≤2000000000) (hy:E9 q y) (ha:E9 q a) (hb:E9 q b):IntKind.i64.wrap (IntKind.i64.wrap (y*a)+b)=y*a+b:=by
 have h1:0≤y*a:=Int.mul_nonneg hy.1 ha.1
 have h2:y*a≤2000000000*2000000000:=Int.mul_le_mul (by have:=hy.2;omega) (by have:=ha.2;omega) ha.1 (by omega)
 have:=hb.1;have:=hb.2
 rw[zaj (n:=y*a) (by omega) (by omega),zaj (by omega) (by omega)]
theorem zw5 (k:OkG gr) (c:PcOk gr.Q n C) {u d e:Nat→Int}(hu:∀i,E9 gr.Q (u i)) (hd:∀i,E9 gr.Q (d i)) (he:∀i,E9 gr.Q (e i)) (hn:n≤100) {y t:Int}(hy:E9 gr.Q y) (ht:E9 gr.Q t):zap (σ:=(List Int)×List Int×List Int×List Int×List Int) (fun i205 s204=>
 (ix C.w i205).bind fun x211=>
 (ix (rg u n) i205).bind fun x212=>
 (zaw gr (IntKind.i64.wrap (x211+(IntKind.i64.wrap (t*x212))))).bind fun z213=>
 gd ((s204.1.length+1)*8≤140737488355328∧s204.1.length+1≤4611686018427387904)<|
 (ix C.v i205).bind fun x214=>
 (ix C.a i205).bind fun x215=>
 (ix C.b i205).bind fun x216=>
 (zaw gr (IntKind.i64.wrap ((IntKind.i64.wrap (y*x215))+x216))).bind fun z217=>
 (zaw gr (IntKind.i64.wrap (x214+(IntKind.i64.wrap (t*z217))))).bind fun z218=>
 gd ((s204.2.1.length+1)*8≤140737488355328∧s204.2.1.length+1≤4611686018427387904)<|
 (ix C.s i205).bind fun x219=>
 (ix (rg d n) i205).bind fun x220=>
 (zaw gr (IntKind.i64.wrap (x219+(IntKind.i64.wrap (t*x220))))).bind fun z221=>
 gd ((s204.2.2.1.length+1)*8≤140737488355328∧s204.2.2.1.length+1≤4611686018427387904)<|
 (ix C.k i205).bind fun x222=>
 (ix (rg e n) i205).bind fun x223=>
 (zaw gr (IntKind.i64.wrap (x222+(IntKind.i64.wrap (t*x223))))).bind fun z224=>
 gd ((s204.2.2.2.1.length+1)*8≤140737488355328∧s204.2.2.2.1.length+1≤4611686018427387904)<|
 (ix C.m i205).bind fun x225=>
 (zaw gr (IntKind.i64.wrap (x225+(IntKind.i64.wrap (t*x216))))).bind fun z226=>
 gd ((s204.2.2.2.2.length+1)*8≤140737488355328∧s204.2.2.2.2.length+1≤4611686018427387904)<|
 some (.go (s204.1++[z213],s204.2.1++[z218],s204.2.2.1++[z221],s204.2.2.2.1++[z224],s204.2.2.2.2++[z226]))) (fun s204=>(s204.1,s204.2.1,s204.2.2.1,s204.2.2.2.1,s204.2.2.2.2)) n 0 ([],[],[],[],[])=
  some (rg (rF gr.Q t C.w u) n,rg (rF gr.Q t C.v (abF gr.Q y C)) n,rg (rF gr.Q t C.s d) n,rg (rF gr.Q t C.k e) n,rg (rF gr.Q t C.m (fun i=>C.b.getD i 0)) n):=by
 have hP:=k.p
 have hq:=k.q
 refine zfQ (fun i=>(rg (rF gr.Q t C.w u) i,rg (rF gr.Q t C.v (abF gr.Q y C)) i,rg (rF gr.Q t C.s d) i,rg (rF gr.Q t C.k e) i,rg (rF gr.Q t C.m (fun i=>C.b.getD i 0)) i)) rfl fun i hi=>?_
 have ix2:∀{l:List Int},l.length=n→ix l (i:Int)=some (l.getD i 0):=fun h=>zbp (by omega)
 have g2:∀{l:List Int},(l.length=n∧∀z∈l,E9 gr.Q z)→E9 gr.Q (l.getD i 0):=fun h=>zbU h.2 (by omega)
 refine zab (ix2 c.w.1) (zab (zhv _ hi) (zab (zf4 k _) (zah (by rw[zak];omega) (zab (ix2 c.v.1) (zab (ix2 c.a.1) (zab (ix2 c.b.1) (zab (zf4 k _) ?_)))))))
 rw[zz6 (q:=gr.Q) (by omega) hy (g2 c.a) (g2 c.b),(zhR (q:=gr.Q) (by omega) (g2 c.w) ht (hu i)).1]
 refine zab (zf4 k _) (zah (by rw[zak];omega) (zab (ix2 c.s.1) (zab (zhv _ hi) (zab (zf4 k _) (zah (by rw[zak];omega) (zab (ix2 c.k.1) (zab (zhv _ hi) (zab (zf4 k _) (zah (by rw[zak];omega) (zab (ix2 c.m.1) (zab (zf4 k _) (zah (by rw[zak];omega) (zac ?_)))))))))))))
 rw[(zhR (q:=gr.Q) (by omega) (g2 c.v) ht (zdB (by omega) _)).1,(zhR (q:=gr.Q) (by omega) (g2 c.s) ht (hd i)).1,(zhR (q:=gr.Q) (by omega) (g2 c.k) ht (he i)).1,(zhR (q:=gr.Q) (by omega) (g2 c.m) ht (g2 c.b)).1]
 show _=Stp.go _
 simp only[zg2];rfl
end
section
attribute [local irreducible] chG zb5 zdE zcl
def ppP (gr:Group) (h:Int) (perm:List Int) (C:Pc) (n:Nat):List Int:=rg (plF gr h perm C) n
def ppX (gr:Group) (key h:Int) (l:List Cipher) (perm rs:List Int) (C:Pc):Int:=chG gr sX (zdE key l (zb5 gr key l perm rs) (ppP gr h perm C l.length))
def ppE (gr:Group) (key h:Int) (l:List Cipher) (perm rs:List Int) (C:Pc):Nat→Int:=eF gr.Q (ppX gr key h l perm rs C) perm
def ppW (gr:Group) (key h:Int) (l:List Cipher) (perm rs:List Int) (C:Pc):List Int:=rg (pwF gr h (ppE gr key h l perm rs C) C) l.length
def ppL (gr:Group) (key h:Int) (l:List Cipher) (perm rs:List Int) (C:Pc):List Int:=zdE key l (zb5 gr key l perm rs) (ppP gr h perm C l.length++ppW gr key h l perm rs C)
def ppY (gr:Group) (key h:Int) (l:List Cipher) (perm rs:List Int) (C:Pc):Int:=chG gr sY (ppL gr key h l perm rs C)
def ppZ (gr:Group) (key h:Int) (l:List Cipher) (perm rs:List Int) (C:Pc):Int:=chG gr sZ (ppL gr key h l perm rs C)
def ppU (gr:Group) (key h:Int) (l:List Cipher) (perm rs:List Int) (C:Pc):Nat→Int:=uF gr.Q (ppY gr key h l perm rs C) (ppZ gr key h l perm rs C) (ppE gr key h l perm rs C) perm
def ppH (gr:Group) (key h:Int) (l:List Cipher) (perm rs:List Int) (C:Pc):List Int:=rg (chF gr h (ppU gr key h l perm rs C) C) l.length
def cmP (gr:Group) (key h:Int) (out:List Cipher) (ch:List Int) (C:Pc) (n:Nat):List Int:=(rg (c1F gr h C) n++rg (c2F gr h ch C) n++[zaW gr h C.g])++rg (c4F gr h C) n++[zbV gr [zaW gr gr.G (IntKind.i64.wrap (0-C.f)),zcl gr (sdV out).1 C.k 1],zbV gr [zaW gr key (IntKind.i64.wrap (0-C.f)),zcl gr (sdV out).2 C.k 1]]
def ppM (gr:Group) (key h:Int) (l:List Cipher) (perm rs:List Int) (C:Pc):List Int:=cmP gr key h (zb5 gr key l perm rs) (ppH gr key h l perm rs C) C l.length
def ppT (gr:Group) (key h:Int) (l:List Cipher) (perm rs:List Int) (C:Pc):Int:=chG gr sE (ppL gr key h l perm rs C++ppH gr key h l perm rs C++ppM gr key h l perm rs C)
def rsV (q y t:Int) (u e:Nat→Int) (rs:List Int) (C:Pc) (n:Nat):List Int:=rg (rF q t C.w u) n++(rg (rF q t C.v (abF q y C)) n++(rg (rF q t C.s (dlF q u C)) n++([(C.g+t*C.c.getD (n-1) 0)%q]++(rg (rF q t C.k e) n++(rg (rF q t C.m (fun i=>C.b.getD i 0)) n++[(C.f+t*dtN q rs (rg e n) n)%q])))))
def ppV (gr:Group) (key h:Int) (l:List Cipher) (perm rs:List Int) (C:Pc):PolyProof:=
 ⟨ppP gr h perm C l.length,ppW gr key h l perm rs C,ppH gr key h l perm rs C,⟨ppM gr key h l perm rs C,[ppT gr key h l perm rs C],rsV gr.Q (ppY gr key h l perm rs C) (ppT gr key h l perm rs C) (ppU gr key h l perm rs C) (ppE gr key h l perm rs C) rs C l.length⟩⟩
structure PpOk (gr:Group) (key h:Int) (l:List Cipher) (perm rs:List Int) (C:Pc):Prop where
 m:MxOk gr key l perm rs
 hh:zay gr h=true
 c:PcOk gr.Q l.length C
section
variable {gr:Group}{key h:Int}{l:List Cipher}{perm rs:List Int}{C:Pc}
theorem PpOk.pr (P:PpOk gr key h l perm rs C):∀z∈perm,0≤z∧z≤1000:=fun z hz=>by have:=P.m.pr z hz;have:=P.m.n;omega
theorem ztk (k:OkG gr) (P:PpOk gr key h l perm rs C):∀z∈ppP gr h perm C l.length,zay gr z=true:=zgn fun i hi=>zqp k P.hh _ _
theorem zv9 (k:OkG gr) (P:PpOk gr key h l perm rs C):∀z∈ppW gr key h l perm rs C,zay gr z=true:=zgn fun i hi=>zqp k P.hh _ _
theorem zpd (k:OkG gr) (P:PpOk gr key h l perm rs C):(ppH gr key h l perm rs C).length=l.length∧∀z∈ppH gr key h l perm rs C,zay gr z=true:=⟨zak _ _,zgn fun i hi=>zqp k P.hh _ _⟩
theorem zgJ {P:Int→Prop}{l m:List Int}(h1:∀x∈l,P x) (h2:∀x∈m,P x):∀x∈l++m,P x:=fun x hx=>(List.mem_append.1 hx).elim (h1 x) (h2 x)
theorem znv (k:OkG gr) (P:PpOk gr key h l perm rs C):(ppM gr key h l perm rs C).length=3*l.length+3∧∀z∈ppM gr key h l perm rs C,R9 z:=by
 have v2:∀i,R9 (c2F gr h (ppH gr key h l perm rs C) C i):=fun i=>ziY k (zbu k _ _) (zbu k _ _)
 refine⟨by unfold ppM cmP;simp[zak];omega,?_⟩
 unfold ppM cmP
 refine zgJ (zgJ (zgJ (zgJ (zgn fun i _=>zyU k _ _ _) (zgn fun i _=>v2 i)) ?_) (zgn fun i _=>zyU k _ _ _)) ?_
 ·intro x hx;rw[List.mem_singleton]at hx;rw[hx];exact zbu k _ _
 intro x hx
 simp only[List.mem_cons,List.not_mem_nil,or_false]at hx
 rcases hx with rfl|rfl<;>exact ziY k (zbu k _ _) (zf1 k _ _)
theorem znX (k:OkG gr) (P:PpOk gr key h l perm rs C):(ppL gr key h l perm rs C).length=1+6*l.length∧(ppL gr key h l perm rs C).all zbH=true:=by
 have hpl:=P.m.pl
 refine⟨by unfold ppL;rw[zlI,zf7,List.length_append,ppP,ppW,zak,zak];omega,?_⟩
 unfold ppL
 exact zlV k P.m.key P.m.c (zjR k P.m) (zgA k (List.all_eq_true.2 (zgJ (ztk k P) (zv9 k P))))
theorem znU (k:OkG gr) (P:PpOk gr key h l perm rs C):(zdE key l (zb5 gr key l perm rs) (ppP gr h perm C l.length)).length=1+5*l.length∧(zdE key l (zb5 gr key l perm rs) (ppP gr h perm C l.length)).all zbH=true:=by
 have hpl:=P.m.pl
 exact⟨by rw[zlI,zf7,ppP,zak];omega,zlV k P.m.key P.m.c (zjR k P.m) (zgA k (List.all_eq_true.2 (ztk k P)))⟩
theorem zwk (k:OkG gr) (P:PpOk gr key h l perm rs C):(ppL gr key h l perm rs C++ppH gr key h l perm rs C++ppM gr key h l perm rs C).length=4+10*l.length∧(ppL gr key h l perm rs C++ppH gr key h l perm rs C++ppM gr key h l perm rs C).all zbH=true:=by
 have h1:=znX k P
 have h2:=zpd k P
 have h3:=znv k P
 refine⟨by rw[List.length_append,List.length_append,h1.1,h2.1,h3.1];omega,?_⟩
 rw[List.all_append,List.all_append,h1.2,zgA k (List.all_eq_true.2 h2.2),zDG h3.2];rfl
theorem zfM (k:OkG gr) {s:ByteArray}{L:List Int}(hs:s.size≤40) (hl:L.length≤300) (hd:L.all zbH=true):zaJ gr s L=some (chG gr s L,true)∧zbD gr s L=some (chG gr s L):=by
 refine⟨?_,zpP k (by omega) (by omega) hd⟩
 rw[zzm k _ (by omega),if_pos (zDj k hs (by omega) hd)]
theorem zti {L:List Int}(h:L.length≤1000):zcr L=some L:=zeB (by omega)
theorem zsO (k:OkG gr) {L:List Int}(hl:L.length≤300) (hd:L.all zbH=true):zb9 gr L=some (chG gr sY L,chG gr sZ L,true):=by
 unfold zb9
 exact zaB (zab (zfM k (by decide) hl hd).1 (zab (zfM k (by decide) hl hd).1 (zaf (ψ:=(· =false)) (za9 rfl (zac rfl)) fun b hb=>by subst hb;exact za9 rfl (zac rfl))))
def Pc.cs (C:Pc):List Int:=C.a++(C.b++(C.c++(C.w++(C.v++(C.s++(C.g::(C.k++(C.m++[C.f]))))))))
attribute [local irreducible] rg plF pwF chF uF dlF c2F rF abF eF dtN sdV vc
set_option maxHeartbeats 4000000 in
theorem zBj (k:OkG gr) {B:Bases}(P:PpOk gr key B.H l perm rs C):zcs gr B key l perm rs C.cs=some (ppV gr key B.H l perm rs C,true):=by
 have hp:=k.p
 have hq:=k.q
 have hq2:0<gr.Q∧gr.Q≤2000000000:=by omega
 have hn:=P.m.n
 have hpl:=P.m.pl
 have hrl:=P.m.rl
 have hk:=zcK k P.m.key
 have hH:=zcK k P.hh
 have hml:(zb5 gr key l perm rs).length=l.length:=by rw[zf7,P.m.pl]
 have hsd:=zlX k (zjR k P.m)
 have hsl:=zjY (zb5 gr key l perm rs)
 rw[hml]at hsl
 have hx:E9 gr.Q (ppX gr key B.H l perm rs C):=zei k _ _
 have hy:E9 gr.Q (ppY gr key B.H l perm rs C):=zei k _ _
 have hz:E9 gr.Q (ppZ gr key B.H l perm rs C):=zei k _ _
 have ht:E9 gr.Q (ppT gr key B.H l perm rs C):=zei k _ _
 have a1:=znU k P
 have a2:=znX k P
 have a3:=zwk k P
 have a4:=znv k P
 have a5:=zpd k P
 have ee:∀i,E9 gr.Q (ppE gr key B.H l perm rs C i):=fun i=>ztp hq2.1 _ _ _
 have ue:∀i,E9 gr.Q (ppU gr key B.H l perm rs C i):=fun i=>by unfold ppU uF;exact zdB hq2.1 _
 have de:∀i,E9 gr.Q (dlF gr.Q (ppU gr key B.H l perm rs C) C i):=fun i=>by unfold dlF;exact zdB hq2.1 _
 have lP:(ppP gr B.H perm C l.length).length=l.length:=zak _ _
 have lW:(ppW gr key B.H l perm rs C).length=l.length:=zak _ _
 have c1:=ztZ k P.m
 have c2:=zv6 (B:=B) k hH P.pr hpl P.c.a.1 (by omega)
 have c3:=zjQ (key:=key) (l:=l) (out:=zb5 gr key l perm rs) (m:=ppP gr B.H perm C l.length) (by omega) (by omega) (by omega)
 have c4:=(zfM k (s:=sX) (by decide) (by omega) a1.2).1
 have c5:=zwS (B:=B) (A:=ppP gr B.H perm C l.length) k hH P.pr hpl P.c.b.1 (by omega) hx
 have c6:=zjQ (key:=key) (l:=l) (out:=zb5 gr key l perm rs) (m:=ppP gr B.H perm C l.length++ppW gr key B.H l perm rs C) (by omega) (by omega) (by rw[List.length_append];omega)
 have c7:=zsO k (L:=ppL gr key B.H l perm rs C) (by omega) a2.2
 have c8:=zwz (B:=B) (A:=ppP gr B.H perm C l.length) (W:=ppW gr key B.H l perm rs C) k hH P.pr hpl P.c (by omega) (x:=ppX gr key B.H l perm rs C) hy hz
 have c9:=(zrZ (A:=[]) (zkj (B:=B) k hH) P.c.w.1 P.c.v.1 (by omega) (by simp)).trans (show _=some (rg (c1F gr B.H C) l.length)from by rw[List.nil_append];rfl)
 have c10:=fun A hA=>zxC (A:=A) k hH a5 P.c (by omega) hA
 have c11:=fun A hA=>zrZ (A:=A) (zkj (B:=B) k hH) P.c.k.1 P.c.m.1 (by omega) hA
 have c12:=(ziI (l:=zb5 gr key l perm rs) (by omega)).1
 have c13:=zhh (m:=C.k) k hsd.1 (by have:=P.c.k.1;omega)
 have c14:=zhh (m:=C.k) k hsd.2 (by have:=P.c.k.1;omega)
 have c15:zbk [ppL gr key B.H l perm rs C,ppH gr key B.H l perm rs C,ppM gr key B.H l perm rs C]=some (ppL gr key B.H l perm rs C++ppH gr key B.H l perm rs C++ppM gr key B.H l perm rs C):=by
  have e:[ppL gr key B.H l perm rs C,ppH gr key B.H l perm rs C,ppM gr key B.H l perm rs C].flatten=ppL gr key B.H l perm rs C++ppH gr key B.H l perm rs C++ppM gr key B.H l perm rs C:=by simp
  rw[zln _ (by rw[e,a3.1];omega),e]
 have c16:=(zfM k (s:=sE) (by decide) (by omega) a3.2).1
 have c17:=zw5 k P.c ue de ee (by omega) hy ht
 have lE:(rg (ppE gr key B.H l perm rs C) l.length).length=l.length:=zak _ _
 have c18:=((zyF hq2 (l:=rs) (m:=rg (ppE gr key B.H l perm rs C) l.length) (zvB P.m.re) (zgn fun i _=>ee i) (by omega)).trans (by rw[hrl]):zgz rs (rg (ppE gr key B.H l perm rs C) l.length) gr.Q=some (dtN gr.Q rs (rg (ppE gr key B.H l perm rs C) l.length) l.length))
 have hdt:=zpb hq2.1 rs (rg (ppE gr key B.H l perm rs C) l.length) l.length
 have hcl:ix C.c ((l.length-1:Nat):Int)=some (C.c.getD (l.length-1) 0):=zbp (by have:=P.c.c.1;omega)
 have hcE:E9 gr.Q (C.c.getD (l.length-1) 0):=zbU P.c.c.2 (by have:=P.c.c.1;omega)
 have x1:=(zf4 k _).trans (congrArg (fun v=>some (v%gr.Q)) (zhR (by omega) P.c.g ht hcE).1)
 have x2:=(zf4 k _).trans (congrArg (fun v=>some (v%gr.Q)) (zhR (by omega) P.c.f ht hdt).1)
 have w1:IntKind.i64.wrap ((l.length:Int)-1)=((l.length-1:Nat):Int):=zcH (by omega) (by omega)
 unfold zcs Pc.cs
 refine zaB (zab (ze4 P.c.a.1) (zab (ze4 P.c.b.1) (zab (ze4 P.c.c.1) (zab (ze4 P.c.w.1) (zab (ze4 P.c.v.1) (zab (ze4 P.c.s.1) (zab (znL _ _) (zab (ze4 P.c.k.1) (zab (ze4 P.c.m.1) (zab (znL _ _) ?_))))))))))
 dsimp only
 refine zab c1 (zab c2 (zab c3 (zab c4 (zab c5 ?_))))
 dsimp only
 refine zab (zti (by show(ppP gr B.H perm C l.length).length≤_;omega)) (zah (by rw[lP,zak];omega) (zab c6 (zab c7 (zab c8 ?_))))
 dsimp only
 refine zah (by rw[zak];simp;omega) (zab rfl (zab c9 (zab (c10 _ ?_) (zab (pwI k hH _) (zah ?_ (zab (c11 _ ?_) (zab c12 ?_)))))))
 ·rw[zak];omega
 ·simp only[List.length_append,zak];omega
 ·simp only[List.length_append,zak,List.length_cons,List.length_nil];omega
 refine zab (pwI k (r_G k) _) (zab c13 (zab (m2I k (zbu k _ _) (zf1 k _ _)) (zab (pwI k hk _) (zab c14 (zab (m2I k (zbu k _ _) (zf1 k _ _)) (zah ?_ (zab c15 (zab c16 (zaf (ψ:=(· =false)) (za9 rfl (za9 rfl (zac rfl))) ?_)))))))))
 ·simp only[List.length_append,zak,List.length_cons,List.length_nil];omega
 rintro _ rfl
 refine za9 rfl (zab c17 ?_)
 rw[w1]
 refine zab hcl (zab x1 (zab c18 (zab x2 (zab (zln _ ?_) (zac ?_)))))
 ·simp[zak];omega
 unfold ppV rsV;simp only[List.flatten_cons,List.flatten_nil,List.append_nil];rfl
end
end
section
variable {gr:Group}{h:Int}{perm:List Int}{C:Pc}{n:Nat}
theorem zCB (k:OkG gr) (hp:∀x∈perm,0≤x∧x≤1000) (hl:perm.length=n) (hn:n≤100) {x:Int}(hx:E9 gr.Q x):zfA gr perm x=some (rg (eF gr.Q x perm) n):=by
 unfold zfA
 rw[hl]
 refine zaB (zab (zfQ (fun i=>rg (eF gr.Q x perm) i) rfl fun i hi=>?_) (zac rfl))
 have hp:=zbU hp (i:=i) (by omega)
 refine zab (zbp (by omega)) (zab (zvd k hx hp).2 (zah (by rw[zak];omega) (zac ?_)))
 rw[zg2];rfl
theorem zvq (k:OkG gr) (hh:R9 h) (hb:C.b.length=n) (hn:n≤100) {e:Nat→Int}{A:List Int}:zap (σ:=(List Int)×List Int×List Int×List Int×List Int×List Int) (fun i22 s21=>
 (ix (rg e n) i22).bind fun x28=>
 (ix C.b i22).bind fun x29=>
 (zcz gr h x28 x29).bind fun z30=>
 gd ((s21.2.1.length+1)*8≤140737488355328∧s21.2.1.length+1≤4611686018427387904)<|
 some (.go (s21.1,s21.2.1++[z30],s21.2.2.1,s21.2.2.2.1,s21.2.2.2.2.1,s21.2.2.2.2.2))) (fun s21=>(s21.1,s21.2.1,s21.2.2.1,s21.2.2.2.1,s21.2.2.2.2.1,s21.2.2.2.2.2)) n 0 (A,[],[],[],[],[])=some (A,rg (pwF gr h e C) n,[],[],[],[]):=by
 refine zfQ (fun i=>(A,rg (pwF gr h e C) i,[],[],[],[])) rfl fun i hi=>?_
 refine zab (zhv _ hi) (zab (zbp (by omega)) (zab (zlO k hh _ _) (zah (by rw[zak];omega) (zac ?_))))
 rw[zg2];rfl
theorem zvl (k:OkG gr) (hh:R9 h) (hp:∀x∈perm,0≤x∧x≤1000) (hl:perm.length=n) (c:PcOk gr.Q n C) (hn:n≤100) {x y z:Int}(hy:E9 gr.Q y) (hz:E9 gr.Q z) {A W:List Int}:zap (σ:=(List Int)×List Int×List Int×List Int×List Int×List Int×List Int×List Int×Int×Int) (fun i53 s52=>
 (ix perm i53).bind fun x59=>
 gd (gr.Q≠0)<|
 (ix (rg (eF gr.Q x perm) n) i53).bind fun x60=>
 (zcu (IntKind.i64.wrap ((IntKind.i64.wrap ((IntKind.i64.wrap (y*((IntKind.i64.wrap (x59+1)).tmod gr.Q)))+x60))-z)) gr.Q).bind fun z61=>
 gd ((s52.2.2.2.2.2.2.1.length+1)*8≤140737488355328∧s52.2.2.2.2.2.2.1.length+1≤4611686018427387904)<|
 gd (gr.Q≠0)<|
 (ix C.c i53).bind fun x62=>
 (zcz gr h ((IntKind.i64.wrap (s52.2.2.2.2.2.2.2.2.1*z61)).tmod gr.Q) x62).bind fun z63=>
 gd ((s52.2.2.1.length+1)*8≤140737488355328∧s52.2.2.1.length+1≤4611686018427387904)<|
 (zcu (IntKind.i64.wrap (x62-(IntKind.i64.wrap (s52.2.2.2.2.2.2.2.2.2*z61)))) gr.Q).bind fun z64=>
 gd ((s52.2.2.2.2.2.2.2.1.length+1)*8≤140737488355328∧s52.2.2.2.2.2.2.2.1.length+1≤4611686018427387904)<|
 some (.go (s52.1,s52.2.1,s52.2.2.1++[z63],s52.2.2.2.1,s52.2.2.2.2.1,s52.2.2.2.2.2.1,s52.2.2.2.2.2.2.1++[z61],s52.2.2.2.2.2.2.2.1++[z64],(IntKind.i64.wrap (s52.2.2.2.2.2.2.2.2.1*z61)).tmod gr.Q,x62))) (fun s52=>(s52.1,s52.2.1,s52.2.2.1,s52.2.2.2.1,s52.2.2.2.2.1,s52.2.2.2.2.2.1,s52.2.2.2.2.2.2.1,s52.2.2.2.2.2.2.2.1)) perm.length 0 (A,W,[],[],[],[],[],[],1,0)=
  some (A,W,rg (chF gr h (uF gr.Q y z (eF gr.Q x perm) perm) C) n,[],[],[],rg (uF gr.Q y z (eF gr.Q x perm) perm) n,rg (dlF gr.Q (uF gr.Q y z (eF gr.Q x perm) perm) C) n):=by
 rw[hl]
 have hP:=k.p
 have hq:=k.q
 have hq2:0<gr.Q∧gr.Q≤2000000000:=by omega
 have hQ:gr.Q≠0:=by omega
 generalize hu:uF gr.Q y z (eF gr.Q x perm) perm=u
 have hue:∀i,E9 gr.Q (u i):=fun i=>by rw[←hu];exact zdB hq2.1 _
 refine zfQ (fun i=>(A,W,rg (chF gr h u C) i,[],[],[],rg u i,rg (dlF gr.Q u C) i,prN gr.Q u i,lsF C i)) rfl fun i hi=>?_
 have hp:=zbU hp (i:=i) (by omega)
 have hc:=zbU c.c.2 (i:=i) (by have:=c.c.1;omega)
 have hm:=(e_m (q:=gr.Q) (by omega) (zws (by omega) u i) (hue i)).2
 have hls:=(e_m (q:=gr.Q) (by omega) (zwq hq2.1 c (i:=i) (by omega)) (hue i)).1
 have hlb:0≤lsF C i*u i∧lsF C i*u i≤2000000000*2000000000:=by
  have a:=zwq hq2.1 c (i:=i) (by omega)
  have b:=hue i
  exact⟨Int.mul_nonneg a.1 b.1,Int.mul_le_mul (by have:=a.2;omega) (by have:=b.2;omega) b.1 (by omega)⟩
 refine zab (zbp (by omega)) (zah hQ (zab (zhv _ hi) (zab (zi9 (by omega) (by omega)) ?_)))
 rw[zGQ hq2 hy hp (ztp hq2.1 _ _ _) hz,show(y*(perm.getD i 0+1)+eF gr.Q x perm i-z)%gr.Q=u i by rw[←hu];rfl]
 refine zah (by rw[zak];omega) (zah hQ (zab (zbp (by have:=c.c.1;omega)) ?_))
 dsimp only
 rw[hm,hls,zaj (n:=C.c.getD i 0-lsF C i*u i) (by have:=hc.1;omega) (by have:=hc.2;omega)]
 refine zab (zlO k hh _ _) (zah (by rw[zak];omega) (zab (zi9 (by omega) (by omega)) (zah (by rw[zak];omega) (zac ?_))))
 simp only[zg2];rfl
theorem zpI (k:OkG gr) (hh:R9 h) {w v:List Int}(hw:w.length=n) (hv:v.length=n) (hn:n≤100) {A W H D:List Int}{X Y:List Int}(hD:D.length≤1000):zap (σ:=(List Int)×List Int×List Int×List Int×List Int×List Int) (fun i85 s84=>
 (ix w i85).bind fun x92=>
 (ix v i85).bind fun x93=>
 (zcz gr h x92 x93).bind fun z94=>
 gd ((s84.2.2.2.1.length+1)*8≤140737488355328∧s84.2.2.2.1.length+1≤4611686018427387904)<|
 some (.go (s84.1,s84.2.1,s84.2.2.1,s84.2.2.2.1++[z94],s84.2.2.2.2.1,s84.2.2.2.2.2))) (fun s84=>(s84.1,s84.2.1,s84.2.2.1,s84.2.2.2.1,s84.2.2.2.2.1,s84.2.2.2.2.2)) n 0 (A,W,H,D,X,Y)=some (A,W,H,D++rg (fun i=>vc gr h (w.getD i 0) (v.getD i 0)) n,X,Y):=by
 refine zfQ (fun i=>(A,W,H,D++rg (fun i=>vc gr h (w.getD i 0) (v.getD i 0)) i,X,Y)) (by rw[zjK,List.append_nil]) fun i hi=>?_
 refine zab (zbp (by omega)) (zab (zbp (by omega)) (zab (zlO k hh _ _) (zah (by dsimp only;rw[List.length_append,zak];omega) (zac ?_))))
 rw[zh8]
theorem zu1 (k:OkG gr) (hh:R9 h) {ch:List Int}(hc:ch.length=n∧∀z∈ch,zay gr z=true) (c:PcOk gr.Q n C) (hn:n≤100) {A W D X Y:List Int}(hD:D.length≤1000):zap (σ:=(List Int)×List Int×List Int×List Int×List Int×List Int×Int) (fun i117 s116=>
 (ix C.w i117).bind fun x124=>
 (ix C.s i117).bind fun x125=>
 (zat gr s116.2.2.2.2.2.2 x124).bind fun z126=>
 (zat gr h x125).bind fun z127=>
 (za1 gr [z126,z127]).bind fun z128=>
 gd ((s116.2.2.2.1.length+1)*8≤140737488355328∧s116.2.2.2.1.length+1≤4611686018427387904)<|
 (ix s116.2.2.1 i117).bind fun x129=>
 some (.go (s116.1,s116.2.1,s116.2.2.1,s116.2.2.2.1++[z128],s116.2.2.2.2.1,s116.2.2.2.2.2.1,x129))) (fun s116=>(s116.1,s116.2.1,s116.2.2.1,s116.2.2.2.1,s116.2.2.2.2.1,s116.2.2.2.2.2.1)) n 0 (A,W,ch,D,X,Y,gr.G)=some (A,W,ch,D++rg (c2F gr h ch C) n,X,Y):=by
 refine zfQ (fun i=>(A,W,ch,D++rg (c2F gr h ch C) i,X,Y,bef gr.G ch i)) (by rw[zjK,List.append_nil];rfl) fun i hi=>?_
 have hb:=zpp k (zhj k) hc.2 i (by omega)
 refine zab (zbp (by have:=c.w.1;omega)) (zab (zbp (by have:=c.s.1;omega)) (zab (pwS k hb.2 _) (zab (pwS k hh _) (zab (m2S k (zbu k _ _) (zbu k _ _)) (zah (by dsimp only;rw[List.length_append,zak];omega) (zab (zbp (by have:=hc.1;dsimp only;omega)) (zac ?_)))))))
 have e:ch.getD i 0=bef gr.G ch (i+1):=by unfold bef;simp
 rw[zh8,e];rfl
theorem zl3 (k:OkG gr) {w:List Int}(hw:w.length=n∧∀z∈w,E9 gr.Q z) {L:List Int}{u:Nat→Int}(hu:∀i,i<n→ix L (i:Int)=some (u i)∧E9 gr.Q (u i)) (hn:n≤100) {t:Int}(ht:E9 gr.Q t) {A:List Int}(hA:A.length≤1000):zap (σ:=(List Int)) (fun i175 s174=>
 (ix w i175).bind fun x182=>
 (ix L i175).bind fun x183=>
 gd (gr.Q≠0)<|
 gd ((s174.length+1)*8≤140737488355328∧s174.length+1≤4611686018427387904)<|
 some (.go (s174++[(IntKind.i64.wrap (x182+(IntKind.i64.wrap (t*x183)))).tmod gr.Q]))) (fun s174=>s174) n 0 A=some (A++rg (rF gr.Q t w u) n):=by
 have hP:=k.p
 have hq:=k.q
 refine zfQ (fun i=>A++rg (rF gr.Q t w u) i) (by rw[zjK,List.append_nil]) fun i hi=>?_
 refine zab (zbp (by omega)) (zab (hu i hi).1 (zah (by omega) (zah (by rw[List.length_append,zak];omega) (zac ?_))))
 rw[(zhR (q:=gr.Q) (by omega) (zbU hw.2 (by omega)) ht (hu i hi).2).2,zh8];rfl
theorem zvh (k:OkG gr) (c:PcOk gr.Q n C) (hn:n≤100) {y t:Int}(hy:E9 gr.Q y) (ht:E9 gr.Q t) {A:List Int}(hA:A.length≤1000):zap (σ:=(List Int)) (fun i192 s191=>
 (ix C.v i192).bind fun x199=>
 (ix C.a i192).bind fun x200=>
 (ix C.b i192).bind fun x201=>
 gd (gr.Q≠0)<|
 gd (gr.Q≠0)<|
 gd ((s191.length+1)*8≤140737488355328∧s191.length+1≤4611686018427387904)<|
 some (.go (s191++[(IntKind.i64.wrap (x199+(IntKind.i64.wrap (t*((IntKind.i64.wrap ((IntKind.i64.wrap (y*x200))+x201)).tmod gr.Q))))).tmod gr.Q]))) (fun s191=>s191) n 0 A=some (A++rg (rF gr.Q t C.v (abF gr.Q y C)) n):=by
 have hP:=k.p
 have hq:=k.q
 refine zfQ (fun i=>A++rg (rF gr.Q t C.v (abF gr.Q y C)) i) (by rw[zjK,List.append_nil]) fun i hi=>?_
 have g2:∀{l:List Int},(l.length=n∧∀z∈l,E9 gr.Q z)→E9 gr.Q (l.getD i 0):=fun h=>zbU h.2 (by omega)
 refine zab (zbp (by have:=c.v.1;omega)) (zab (zbp (by have:=c.a.1;omega)) (zab (zbp (by have:=c.b.1;omega)) (zah (by omega) (zah (by omega) (zah (by rw[List.length_append,zak];omega) (zac ?_))))))
 have e0:(y*C.a.getD i 0+C.b.getD i 0).tmod gr.Q=(y*C.a.getD i 0+C.b.getD i 0)%gr.Q:=Int.tmod_eq_emod_of_nonneg (by have:=Int.mul_nonneg hy.1 (g2 c.a).1;have:=(g2 c.b).1;omega)
 rw[zz6 (q:=gr.Q) (by omega) hy (g2 c.a) (g2 c.b),e0,(zhR (q:=gr.Q) (by omega) (g2 c.v) ht (zdB (by omega) _)).2,zh8];rfl
end
theorem ziy {α:Type}{A X R L:List α}{p q:Nat}(e:L=A++(X++R)) (h1:A.length=p) (h2:p+X.length=q):(L.take q).drop p=X:=by
 rw[e,←List.append_assoc,List.take_left' (by simp;omega),List.drop_left' h1]
theorem zlW (key:Int) (l out:List Cipher) (m w:List Int):zdE key l out m++w=zdE key l out (m++w):=by simp[zdE]
theorem zCT {q:Int}{n:Nat}{C:Pc}(c:PcOk q n C):C.cs.length=8*n+2∧(C.cs.take n).drop 0=C.a∧(C.cs.take (2*n)).drop n=C.b∧(C.cs.take (3*n)).drop (2*n)=C.c∧(C.cs.take (4*n)).drop (3*n)=C.w∧(C.cs.take (5*n)).drop (4*n)=C.v∧(C.cs.take (6*n)).drop (5*n)=C.s∧(C.cs.take (7*n+1)).drop (6*n+1)=C.k∧(C.cs.take (8*n+1)).drop (7*n+1)=C.m∧ix C.cs ((6*n:Nat):Int)=some C.g∧ix C.cs ((8*n+1:Nat):Int)=some C.f:=by
 have lA:=c.a.1
 have lB:=c.b.1
 have lC:=c.c.1
 have lW:=c.w.1
 have lV:=c.v.1
 have lS:=c.s.1
 have lK:=c.k.1
 have lM:=c.m.1
 refine⟨by simp[Pc.cs];omega,?_,?_,?_,?_,?_,?_,?_,?_,?_,?_⟩
 ·exact ziy (A:=[]) (R:=(C.b++(C.c++(C.w++(C.v++(C.s++(C.g::(C.k++(C.m++[C.f]))))))))) (by simp[Pc.cs]) rfl (by omega)
 ·exact ziy (A:=C.a) (R:=(C.c++(C.w++(C.v++(C.s++(C.g::(C.k++(C.m++[C.f])))))))) (by simp[Pc.cs]) lA (by omega)
 ·exact ziy (A:=(C.a++C.b)) (R:=(C.w++(C.v++(C.s++(C.g::(C.k++(C.m++[C.f]))))))) (by simp[Pc.cs]) (by simp;omega) (by omega)
 ·exact ziy (A:=(C.a++(C.b++C.c))) (R:=(C.v++(C.s++(C.g::(C.k++(C.m++[C.f])))))) (by simp[Pc.cs]) (by simp;omega) (by omega)
 ·exact ziy (A:=(C.a++(C.b++(C.c++C.w)))) (R:=(C.s++(C.g::(C.k++(C.m++[C.f]))))) (by simp[Pc.cs]) (by simp;omega) (by omega)
 ·exact ziy (A:=(C.a++(C.b++(C.c++(C.w++C.v))))) (R:=(C.g::(C.k++(C.m++[C.f])))) (by simp[Pc.cs]) (by simp;omega) (by omega)
 ·exact ziy (A:=(C.a++(C.b++(C.c++(C.w++(C.v++(C.s++[C.g]))))))) (R:=(C.m++[C.f])) (by simp[Pc.cs]) (by simp;omega) (by omega)
 ·exact ziy (A:=(C.a++(C.b++(C.c++(C.w++(C.v++(C.s++([C.g]++C.k)))))))) (R:=[C.f]) (by simp[Pc.cs]) (by simp;omega) (by omega)
 ·have e:C.cs=(C.a++(C.b++(C.c++(C.w++(C.v++C.s)))))++(C.g::(C.k++(C.m++[C.f]))):=by simp[Pc.cs]
  have h0:(C.a++(C.b++(C.c++(C.w++(C.v++C.s))))).length=6*n:=by simp;omega
  exact zsF (by rw[e,List.getElem?_append_right (by omega),h0,Nat.sub_self];rfl)
 have e:C.cs=(C.a++(C.b++(C.c++(C.w++(C.v++(C.s++([C.g]++(C.k++C.m))))))))++[C.f]:=by simp[Pc.cs]
 have h0:(C.a++(C.b++(C.c++(C.w++(C.v++(C.s++([C.g]++(C.k++C.m)))))))).length=8*n+1:=by simp;omega
 exact zsF (by rw[e,List.getElem?_append_right (by omega),h0,Nat.sub_self];rfl)
section
attribute [local irreducible] chG zb5 zdE zcl
section
variable {gr:Group}{key h:Int}{l:List Cipher}{perm rs:List Int}{C:Pc}
theorem zBH (k:OkG gr) (P:PpOk gr key h l perm rs C):zdA gr key l (zb5 gr key l perm rs) (ppP gr h perm C l.length) (ppW gr key h l perm rs C)=some (ppY gr key h l perm rs C,ppZ gr key h l perm rs C):=by
 have hn:=P.m.n
 have hml:(zb5 gr key l perm rs).length=l.length:=by rw[zf7,P.m.pl]
 have lP:(ppP gr h perm C l.length).length=l.length:=zak _ _
 have lW:(ppW gr key h l perm rs C).length=l.length:=zak _ _
 have a1:=znU k P
 have a2:=znX k P
 unfold zdA
 refine zaB (zab (zj6 (by omega) (by omega) (by omega)) (zah (by omega) ?_))
 rw[zlW]
 exact zab (zfM k (s:=sY) (by decide) (by have:=a2.1;omega) a2.2).2 (zab (zfM k (s:=sZ) (by decide) (by have:=a2.1;omega) a2.2).2 (zac rfl))
theorem zCI (k:OkG gr) (P:PpOk gr key h l perm rs C) {x y:List Int}:zeH gr key l (zb5 gr key l perm rs) ⟨ppP gr h perm C l.length,ppW gr key h l perm rs C,ppH gr key h l perm rs C,⟨ppM gr key h l perm rs C,x,y⟩⟩=some (ppT gr key h l perm rs C):=by
 have hn:=P.m.n
 have hml:(zb5 gr key l perm rs).length=l.length:=by rw[zf7,P.m.pl]
 have lP:(ppP gr h perm C l.length).length=l.length:=zak _ _
 have lW:(ppW gr key h l perm rs C).length=l.length:=zak _ _
 have lH:=(zpd k P).1
 have lM:=(znv k P).1
 have a1:=znU k P
 have a2:=znX k P
 have a3:=zwk k P
 have a2':(zdE key l (zb5 gr key l perm rs) (ppP gr h perm C l.length++ppW gr key h l perm rs C)).length=1+6*l.length:=a2.1
 unfold zeH
 dsimp only
 refine zaB (zab (zj6 (by omega) (by omega) (by omega)) (zah (by omega) ?_))
 rw[zlW]
 exact zah (by omega) (zah (by rw[List.length_append];omega) (zab (zfM k (s:=sE) (by decide) (by have:=a3.1;unfold ppL at this;omega) a3.2).2 (zac rfl)))
attribute [local irreducible] rg plF pwF chF uF dlF c2F rF abF eF dtN sdV vc
set_option maxHeartbeats 4000000 in
theorem zAM (k:OkG gr) (P:PpOk gr key h l perm rs C):ze0 gr key h l perm rs C.cs=some (ppV gr key h l perm rs C):=by
 have hp:=k.p
 have hq:=k.q
 have hq2:0<gr.Q∧gr.Q≤2000000000:=by omega
 have hQ:gr.Q≠0:=by omega
 have hn:=P.m.n
 have hpl:=P.m.pl
 have hrl:=P.m.rl
 have hk:=zcK k P.m.key
 have hH:=zcK k P.hh
 have hml:(zb5 gr key l perm rs).length=l.length:=by rw[zf7,P.m.pl]
 have hsd:=zlX k (zjR k P.m)
 have hsl:=zjY (zb5 gr key l perm rs)
 rw[hml]at hsl
 have hx:E9 gr.Q (ppX gr key h l perm rs C):=zei k _ _
 have hy:E9 gr.Q (ppY gr key h l perm rs C):=zei k _ _
 have hz:E9 gr.Q (ppZ gr key h l perm rs C):=zei k _ _
 have ht:E9 gr.Q (ppT gr key h l perm rs C):=zei k _ _
 have a1:=znU k P
 have a4:=znv k P
 have a5:=zpd k P
 have ee:∀i,E9 gr.Q (ppE gr key h l perm rs C i):=fun i=>ztp hq2.1 _ _ _
 have ue:∀i,E9 gr.Q (ppU gr key h l perm rs C i):=fun i=>by unfold ppU uF;exact zdB hq2.1 _
 have de:∀i,E9 gr.Q (dlF gr.Q (ppU gr key h l perm rs C) C i):=fun i=>by unfold dlF;exact zdB hq2.1 _
 have lP:(ppP gr h perm C l.length).length=l.length:=zak _ _
 have c1:=ztE k P.m
 have c2:=zAI (h:=h) k hH P.pr hpl P.c.a.1 (by omega)
 have c3:=zj6 (key:=key) (l:=l) (out:=zb5 gr key l perm rs) (m:=ppP gr h perm C l.length) (by omega) (by omega) (by omega)
 have c4:=(zfM k (s:=sX) (by decide) (by omega) a1.2).2
 have c5:=zCB k P.pr hpl (by omega) hx
 have c6:=zvq (A:=ppP gr h perm C l.length) (e:=ppE gr key h l perm rs C) k hH P.c.b.1 (by omega)
 have c7:=zBH k P
 have c8:=zvl (A:=ppP gr h perm C l.length) (W:=ppW gr key h l perm rs C) k hH P.pr hpl P.c (by omega) (x:=ppX gr key h l perm rs C) hy hz
 have c9:=(zpI (A:=ppP gr h perm C l.length) (W:=ppW gr key h l perm rs C) (H:=ppH gr key h l perm rs C) (D:=[]) (X:=[]) (Y:=[]) k hH P.c.w.1 P.c.v.1 (by omega) (by simp)).trans (show _=some (ppP gr h perm C l.length,ppW gr key h l perm rs C,ppH gr key h l perm rs C,rg (c1F gr h C) l.length,[],[])from by rw[List.nil_append];rfl)
 have c10:=fun D hD=>zu1 (A:=ppP gr h perm C l.length) (W:=ppW gr key h l perm rs C) (D:=D) (X:=[]) (Y:=[]) k hH a5 P.c (by omega) hD
 have c11:=fun D hD=>zpI (A:=ppP gr h perm C l.length) (W:=ppW gr key h l perm rs C) (H:=ppH gr key h l perm rs C) (D:=D) (X:=[]) (Y:=[]) k hH P.c.k.1 P.c.m.1 (by omega) hD
 have c12:=(ziI (l:=zb5 gr key l perm rs) (by omega)).2
 have c13:=ziF (m:=C.k) k hsd.1 (by rw[hsl.1,P.c.k.1];exact Nat.le_refl _)
 have c14:=ziF (m:=C.k) k hsd.2 (by rw[hsl.2,P.c.k.1];exact Nat.le_refl _)
 have c16:=zCI k P (x:=[]) (y:=[])
 have r1:=fun A hA=>zl3 (A:=A) k P.c.w (L:=rg (ppU gr key h l perm rs C) l.length) (u:=ppU gr key h l perm rs C) (fun i hi=>⟨zhv _ hi,ue i⟩) (by omega) ht hA
 have r2:=fun A hA=>zvh (A:=A) k P.c (by omega) hy ht hA
 have r3:=fun A hA=>zl3 (A:=A) k P.c.s (L:=rg (dlF gr.Q (ppU gr key h l perm rs C) C) l.length) (u:=dlF gr.Q (ppU gr key h l perm rs C) C) (fun i hi=>⟨zhv _ hi,de i⟩) (by omega) ht hA
 have r4:=fun A hA=>zl3 (A:=A) k P.c.k (L:=rg (ppE gr key h l perm rs C) l.length) (u:=ppE gr key h l perm rs C) (fun i hi=>⟨zhv _ hi,ee i⟩) (by omega) ht hA
 have r5:=fun A hA=>zl3 (A:=A) k P.c.m (L:=C.b) (u:=fun i=>C.b.getD i 0) (fun i hi=>⟨zbp (by rw[P.c.b.1];exact hi),zbU P.c.b.2 (by rw[P.c.b.1];exact hi)⟩) (by omega) ht hA
 have c18:=((zxY hq2 (l:=rs) (m:=rg (ppE gr key h l perm rs C) l.length) (zvB P.m.re) (zgn fun i _=>ee i) ((zak _ _).trans hrl.symm)).trans (by rw[hrl]):zf6 rs (rg (ppE gr key h l perm rs C) l.length) gr.Q=some (dtN gr.Q rs (rg (ppE gr key h l perm rs C) l.length) l.length))
 have hdt:=zpb hq2.1 rs (rg (ppE gr key h l perm rs C) l.length) l.length
 have hcl:ix C.c ((l.length-1:Nat):Int)=some (C.c.getD (l.length-1) 0):=zbp (by rw[P.c.c.1];omega)
 have hcE:E9 gr.Q (C.c.getD (l.length-1) 0):=zbU P.c.c.2 (by rw[P.c.c.1];omega)
 have x1:=(zhR (q:=gr.Q) (by omega) P.c.g ht hcE).2
 have x2:=(zhR (q:=gr.Q) (by omega) P.c.f ht hdt).2
 have w1:IntKind.i64.wrap ((l.length:Int)-1)=((l.length-1:Nat):Int):=zcH (by omega) (by omega)
 have w2:IntKind.i64.wrap (2*(l.length:Int))=((2*l.length:Nat):Int):=zcH (by omega) (by omega)
 have w3:IntKind.i64.wrap (3*(l.length:Int))=((3*l.length:Nat):Int):=zcH (by omega) (by omega)
 have w4:IntKind.i64.wrap (4*(l.length:Int))=((4*l.length:Nat):Int):=zcH (by omega) (by omega)
 have w5:IntKind.i64.wrap (5*(l.length:Int))=((5*l.length:Nat):Int):=zcH (by omega) (by omega)
 have w6:IntKind.i64.wrap (6*(l.length:Int))=((6*l.length:Nat):Int):=zcH (by omega) (by omega)
 have w7:IntKind.i64.wrap (7*(l.length:Int))=((7*l.length:Nat):Int):=zcH (by omega) (by omega)
 have w8:IntKind.i64.wrap (8*(l.length:Int))=((8*l.length:Nat):Int):=zcH (by omega) (by omega)
 have w61:IntKind.i64.wrap (((6*l.length:Nat):Int)+1)=((6*l.length+1:Nat):Int):=zcH (by omega) (by omega)
 have w71:IntKind.i64.wrap (((7*l.length:Nat):Int)+1)=((7*l.length+1:Nat):Int):=zcH (by omega) (by omega)
 have w81:IntKind.i64.wrap (((8*l.length:Nat):Int)+1)=((8*l.length+1:Nat):Int):=zcH (by omega) (by omega)
 obtain⟨hcl2,hA,hB,hCc,hW,hV,hS,hK,hM,hg,hf⟩:=zCT P.c
 generalize C.cs=coins at*
 clear hsl hsd
 unfold ze0
 simp only[w1,w2,w3,w4,w5,w6,w7,w8,w61,w71,w81,Int.toNat_natCast,hA,hB,hCc,hW,hV,hS,hK,hM,P.c.w.1,P.c.k.1]
 refine zaB (zab c1 ?_)
 iterate 17 refine zah (by omega) ?_
 refine zab hg ?_
 iterate 6 refine zah (by omega) ?_
 refine zab hf (zab c2 (zab c3 (zab c4 (zab c5 ?_))))
 rw[show(rg (eF gr.Q (ppX gr key h l perm rs C) perm) l.length).length=l.length from zak _ _]
 refine zab c6 (zab c7 (zab c8 (zab c12 (zab c9 (zab (c10 _ ?_) ?_)))))
 ·rw[zak];omega
 dsimp only
 refine zab (pwS k hH _) (zah ?_ (zab (c11 _ ?_) ?_))
 ·simp only[List.length_append,zak];omega
 ·simp only[List.length_append,zak,List.length_cons,List.length_nil];omega
 dsimp only
 refine zab (pwS k (r_G k) _) (zab c13 (zab (m2S k (zbu k _ _) (zf1 k _ _)) (zab (pwS k hk _) (zab c14 (zab (m2S k (zbu k _ _) (zf1 k _ _)) (zah ?_ (zab c16 ?_)))))))
 ·simp only[List.length_append,zak,List.length_cons,List.length_nil];omega
 refine zab (r1 _ (by simp)) (zab (r2 _ ?_) (zab (r3 _ ?_) (zab hcl (zah hQ (zah ?_ (zab (r4 _ ?_) (zab (r5 _ ?_) (zab c18 (zah hQ (zah ?_ (zac ?_)))))))))))
 ·simp only[List.length_append,zak,List.length_nil];omega
 ·simp only[List.length_append,zak,List.length_nil];omega
 ·simp only[List.length_append,zak,List.length_nil];omega
 ·simp only[List.length_append,zak,List.length_cons,List.length_nil];omega
 ·simp only[List.length_append,zak,List.length_cons,List.length_nil];omega
 ·simp only[List.length_append,zak,List.length_cons,List.length_nil];omega
 have eR:∀R1 R2 R3 R4 R5:List Int,∀a b:Int,[]++R1++R2++R3++[a]++R4++R5++[b]=R1++(R2++(R3++([a]++(R4++(R5++[b]))))):=fun R1 R2 R3 R4 R5 a b=>by simp
 rw[x1,x2,eR]
 unfold ppV rsV
 rfl
end
end
end Go.Pm
