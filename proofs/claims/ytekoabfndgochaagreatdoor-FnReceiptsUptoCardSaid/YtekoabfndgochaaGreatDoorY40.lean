/-
  FnReceipts: plain laws.
  No condition.
-/
import Derived.Test.YtekoabfndgochaaGreatDoorM40b
import Derived.Test.YtekoabfndgochaaGreatDoorPmZ
namespace Go.Pm
open Go.Am
set_option linter.unusedVariables false
noncomputable section
def znf (a0:List Int) (a1:Int):Option Int:=
 ((zap (σ:=Int) (fun i5 s4=>
 (ix a0 i5).bind fun x11=>
 gd (a1≠0)<|
 some (.go ((IntKind.i64.wrap (s4+x11)).tmod a1))) (fun s4=>s4) (a0.length) 0 0:Option Int).bind fun x3=>
 some x3)
set_option linter.unusedVariables false
set_option linter.unusedSimpArgs false
theorem zdH (a b c:Int):zaB a b c=some (decide (b≤a)&&decide (a≤c)):=by
 unfold zaB
 by_cases h:b≤a<;>simp[h]
theorem zg0 (a b c:Int):zaX a b c=some (decide (b≤a)&&decide (a≤c)):=by
 unfold zaX
 by_cases h:b≤a<;>simp[h]
theorem zm2 (a:Int):ze0 a=some (decide (2≤a)&&decide (a≤2000000000)):=by
 unfold ze0
 rw[zdH];rfl
theorem zcX (a b:Nat):(a:Int).tmod (b:Int)=((a%b:Nat):Int):=by rw[Int.tmod_eq_emod_of_nonneg (by omega)];exact(Int.natCast_emod _ _).symm
theorem zuW (a b:Nat):(a:Int).tdiv (b:Int)=((a/b:Nat):Int):=by rw[Int.tdiv_eq_ediv_of_nonneg (by omega)];exact(Int.natCast_ediv _ _).symm
theorem zgB (a b:Nat):(a:Int)*(b:Int)=((a*b:Nat):Int):=(Int.natCast_mul _ _).symm
theorem zyR {e:Nat}(he:e≤9223372036854775807):IntKind.i64.wrap (BitVec.ofInt IntKind.i64.bits (e:Int)&&&BitVec.ofInt IntKind.i64.bits 1).toNat=((e%2:Nat):Int):=by
 have h1:(BitVec.ofInt IntKind.i64.bits (e:Int)&&&BitVec.ofInt IntKind.i64.bits 1).toNat=e%2:=by
  rw[BitVec.toNat_and]
  have a1:(BitVec.ofInt IntKind.i64.bits (e:Int)).toNat=e:=by
   rw[BitVec.toNat_ofInt]
   have:IntKind.i64.bits=64:=rfl
   rw[this]
   omega
  have a2:(BitVec.ofInt IntKind.i64.bits 1).toNat=1:=by decide
  rw[a1,a2,Nat.and_one_is_mod]
 rw[h1,zai (by omega) (by omega)]
theorem zyz {a e m:Nat}(ha:a≤2000000000) (hm:1≤m) (hm2:m≤2000000000) (he:e≤9223372036854775807):zeh (a:Int) (e:Int) (m:Int)=some ((a^e%m:Nat):Int):=by
 unfold zeh
 refine zal (zak (by omega) (zaf (φ:=(· =((a^e%m:Nat):Int))) (zdg (φ:=(· =((a^e%m:Nat):Int))) (fun s=>∃x y o:Nat,s=((x:Int),(y:Int),(o:Int))∧x≤2000000000∧y≤e∧o<m∧o*x^y%m=a^e%m) (fun s=>s.2.1.toNat)
  ⟨a,e,1%m,by rw[show(1:Int)=((1:Nat):Int)from rfl,zcX],ha,Nat.le_refl _,Nat.mod_lt _ (by omega),by rw[Nat.mod_mul_mod,Nat.one_mul]⟩ ?_) fun x hx=>zab hx))
 rintro s ⟨x,y,o,rfl,hx,hy,ho,hi⟩
 refine zao (fun h0=>?_) fun h0=>?_
 ·have h0:0<y:=by simpa using h0
  have hox:o*x≤4000000000000000000:=Nat.le_trans (Nat.mul_le_mul (show o≤2000000000 by omega) hx) (by decide)
  have hxx:x*x≤4000000000000000000:=Nat.le_trans (Nat.mul_le_mul hx hx) (by decide)
  refine zaf (ψ:=fun o'=>∃k:Nat,o'=(k:Int)∧k<m∧k*(x*x)^(y/2)%m=a^e%m) ?_ ?_
  ·simp only[zyR (show y≤9223372036854775807 by omega)]
   refine zao (fun h1=>zak (by omega) (zab ⟨o*x%m,?_,Nat.mod_lt _ (by omega),?_⟩)) fun h1=>zab ⟨o,rfl,ho,?_⟩
   ·rw[zgB,zai (by omega) (by omega),zcX]
   ·have h1:y%2=1:=by
     have:((y%2:Nat):Int)=1:=by simpa using h1
     omega
    rw[Nat.mod_mul_mod,←hi,←Nat.pow_two,←Nat.pow_mul,Nat.mul_assoc,←Nat.pow_succ']
    congr 3;omega
   have h1:y%2=0:=by
    have:¬((y%2:Nat):Int)=1:=by simpa using h1
    omega
   rw[←hi,←Nat.pow_two,←Nat.pow_mul]
   congr 3;omega
  rintro o' ⟨k,rfl,hk,hk2⟩
  refine zak (by omega) (zab ⟨⟨x*x%m,y/2,k,?_,by have:=Nat.mod_lt (x*x) (show 0<m by omega);omega,by omega,hk,?_⟩,?_⟩)
  ·rw[zgB,zai (by omega) (by omega),zcX]
   have e3:(y:Int).fdiv 2=((y/2:Nat):Int):=by rw[Int.fdiv_eq_ediv_of_nonneg _ (by omega)];rfl
   show(_,(y:Int).fdiv 2,_)=_
   rw[e3]
  ·rw[Nat.mul_mod,←Nat.pow_mod,←Nat.mul_mod]
   exact hk2
  show((y:Int).fdiv 2).toNat<(y:Int).toNat
  rw[Int.fdiv_eq_ediv_of_nonneg _ (by omega)]
  omega
 have h0:y=0:=by
  have:¬(0<y):=by simpa using h0
  omega
 subst h0
 refine zab ?_
 show(o:Int)=_
 rw[Nat.pow_zero,Nat.mul_one,Nat.mod_eq_of_lt ho]at hi
 rw[hi]
theorem zxa {a e m:Nat}(ha:a≤2000000000) (hm:1≤m) (hm2:m≤2000000000) (he:e≤9223372036854775807):zbV (a:Int) (e:Int) (m:Int)=some ((a^e%m:Nat):Int):=by
 unfold zbV
 refine zal (zak (by omega) (zaf (φ:=(· =((a^e%m:Nat):Int))) (zdg (φ:=(· =((a^e%m:Nat):Int))) (fun s=>∃x y o:Nat,s=((x:Int),(y:Int),(o:Int))∧x≤2000000000∧y≤e∧o<m∧o*x^y%m=a^e%m) (fun s=>s.2.1.toNat)
  ⟨a,e,1%m,by rw[show(1:Int)=((1:Nat):Int)from rfl,zcX],ha,Nat.le_refl _,Nat.mod_lt _ (by omega),by rw[Nat.mod_mul_mod,Nat.one_mul]⟩ ?_) fun x hx=>zab hx))
 rintro s ⟨x,y,o,rfl,hx,hy,ho,hi⟩
 refine zao (fun h0=>?_) fun h0=>?_
 ·have h0:0<y:=by simpa using h0
  have hox:o*x≤4000000000000000000:=Nat.le_trans (Nat.mul_le_mul (show o≤2000000000 by omega) hx) (by decide)
  have hxx:x*x≤4000000000000000000:=Nat.le_trans (Nat.mul_le_mul hx hx) (by decide)
  have e2:(y:Int).tmod 2=((y%2:Nat):Int):=zcX y 2
  refine zaf (ψ:=fun o'=>∃k:Nat,o'=(k:Int)∧k<m∧k*(x*x)^(y/2)%m=a^e%m) ?_ ?_
  ·simp only[e2]
   refine zao (fun h1=>zak (by omega) (zab ⟨o*x%m,?_,Nat.mod_lt _ (by omega),?_⟩)) fun h1=>zab ⟨o,rfl,ho,?_⟩
   ·rw[zgB,zai (by omega) (by omega),zcX]
   ·have h1:y%2=1:=by
     have:((y%2:Nat):Int)=1:=by simpa using h1
     omega
    rw[Nat.mod_mul_mod,←hi,←Nat.pow_two,←Nat.pow_mul,Nat.mul_assoc,←Nat.pow_succ']
    congr 3;omega
   have h1:y%2=0:=by
    have:¬((y%2:Nat):Int)=1:=by simpa using h1
    omega
   rw[←hi,←Nat.pow_two,←Nat.pow_mul]
   congr 3;omega
  rintro o' ⟨k,rfl,hk,hk2⟩
  have e3:(y:Int).tdiv 2=((y/2:Nat):Int):=zuW y 2
  refine zak (by omega) (zab ⟨⟨x*x%m,y/2,k,?_,by have:=Nat.mod_lt (x*x) (show 0<m by omega);omega,by omega,hk,?_⟩,?_⟩)
  ·simp only[e3]
   rw[zgB,zai (n:=((x*x:Nat):Int)) (by omega) (by omega),zcX,zai (n:=((y/2:Nat):Int)) (by omega) (by omega)]
  ·rw[Nat.mul_mod,←Nat.pow_mod,←Nat.mul_mod]
   exact hk2
  show(IntKind.i64.wrap ((y:Int).tdiv 2)).toNat<(y:Int).toNat
  rw[e3,zai (by omega) (by omega)]
  omega
 have h0:y=0:=by
  have:¬(0<y):=by simpa using h0
  omega
 subst h0
 refine zab ?_
 show(o:Int)=_
 rw[Nat.pow_zero,Nat.mul_one,Nat.mod_eq_of_lt ho]at hi
 rw[hi]
theorem zuf {a q:Int}(h0:0<q) (h1:q≤2000000000):zgH a q=some (a%q):=by
 unfold zgH
 rw[zcx (by omega),zcx (by omega)]
 have b1:a.tmod q<q:=Int.tmod_lt_of_pos a h0
 have b2: -q<a.tmod q:=by
  have:=Int.lt_tmod_of_pos a h0
  omega
 rw[zai (by omega) (by omega),Int.tmod_eq_emod_of_nonneg (by omega)]
 congr 1
 rw[Int.add_emod_right]
 rw[Int.tmod_def,Int.sub_emod,Int.mul_emod_right,Int.sub_zero,Int.emod_emod]
theorem zos {a q:Int}(h0:0<q) (h1:q≤2000000000):zea a q=some (a%q):=by
 unfold zea
 rw[zcx (by omega),zcx (by omega)]
 have b1:a.tmod q<q:=Int.tmod_lt_of_pos a h0
 have b2: -q<a.tmod q:=by
  have:=Int.lt_tmod_of_pos a h0
  omega
 rw[zai (by omega) (by omega),Int.tmod_eq_emod_of_nonneg (by omega)]
 congr 1
 rw[Int.add_emod_right]
 rw[Int.tmod_def,Int.sub_emod,Int.mul_emod_right,Int.sub_zero,Int.emod_emod]
def Pr (n:Nat):Prop:=2≤n∧∀d,2≤d→d*d≤n→n%d≠0
open Classical in
def prB (n:Int):Bool:=decide (Pr n.toNat)
theorem zgq {n:Nat}:prB (n:Int)=true↔Pr n:=by simp[prB]
theorem zk4 (n:Int) (h:n≤2000000000):zdO n=some (prB n):=by
 unfold zdO
 refine zal (zao (fun h0=>zab ?_) fun h0=>?_)
 ·have h0:n<2:=by simpa using h0
  symm
  unfold prB
  rw[decide_eq_false_iff_not]
  intro hp
  have:=hp.1
  omega
 have h0:¬n<2:=by simpa using h0
 obtain⟨n,rfl⟩:=Int.eq_ofNat_of_zero_le (show 0≤n by omega)
 refine zaf (ψ:=fun b=>(b=.inl ()∧Pr n)∨(b=.inr false∧¬Pr n)) (zdg (fun s=>∃d:Nat,s=(d:Int)∧2≤d∧d≤44723∧∀k,2≤k→k<d→k*k≤n→n%k≠0) (fun s=>50000-s.toNat) ⟨2,rfl,by omega,by omega,fun k h1 h2=>by omega⟩ ?_) ?_
 ·rintro s ⟨d,rfl,hd,hd2,hi⟩
  have hdd:d*d≤2000146729:=Nat.le_trans (Nat.mul_le_mul hd2 hd2) (by decide)
  rw[zgB,zai (by omega) (by omega)]
  refine zao (fun h1=>zak (by omega) (zao (fun h2=>zab (.inr ⟨rfl,?_⟩)) fun h2=>zab ?_)) fun h1=>zab (.inl ⟨rfl,by omega,fun k hk hkn=>?_⟩)
  ·have h1:d*d≤n:=by have:=of_decide_eq_true h1;omega
   rw[zcX]at h2
   have h2 : n % d = 0 := by have:((n%d:Nat):Int)=0:=by simpa using h2
                             omega
   exact fun hp=>hp.2 d hd h1 h2
  ·have h1:d*d≤n:=by have:=of_decide_eq_true h1;omega
   rw[zcX]at h2
   have h2 : n % d ≠ 0 := by have:¬((n%d:Nat):Int)=0:=by simpa using h2
                             omega
   have hd3:d≤44722:=by
    rcases Nat.lt_or_ge d 44723 with h|h
    ·omega
    ·have:44723*44723≤d*d:=Nat.mul_le_mul h h
     omega
   rw[zai (by omega) (by omega)]
   refine⟨⟨d+1,rfl,by omega,by omega,fun k h3 h4 h5=>?_⟩,by omega⟩
   rcases Nat.lt_or_ge k d with h|h
   ·exact hi k h3 h h5
   have:k=d:=by omega
   subst this
   exact h2
  have h1:n<d*d:=by have:=of_decide_eq_false h1;omega
  rcases Nat.lt_or_ge k d with h|h
  ·exact hi k hk h hkn
  have:=Nat.mul_le_mul h h
  omega
 rintro b (⟨rfl,hp⟩|⟨rfl,hp⟩)
 ·exact zab (zgq.2 hp).symm
 refine zab ?_
 symm
 unfold prB
 rw[decide_eq_false_iff_not]
 exact hp
theorem zpt (n:Int):zeN n=some (decide (n≤2000000000)&&prB n):=by
 unfold zeN
 by_cases h:2≤n∧n≤2000000000
 ·obtain⟨n,rfl⟩:=Int.eq_ofNat_of_zero_le (show 0≤n by omega)
  have e2:((n:Int)).tmod 2=((n%2:Nat):Int):=zcX n 2
  have em:(decide (2≤(n:Int))&&decide ((n:Int)≤2000000000))=true:=by simp only[Bool.and_eq_true,decide_eq_true_eq];exact h
  rw[show(decide ((n:Int)≤2000000000)&&prB (n:Int))=prB (n:Int)by simp[h.2]]
  refine zal (zaf (ψ:=fun b=>b=decide (n%2=0∧n≠2)) (zae (zm2 _) ?_) ?_)
  ·rw[em]
   refine zbl rfl ?_
   rw[e2]
   refine zao (fun h1=>zab ?_) fun h1=>zab ?_
   ·have h1 : n % 2 = 0 := by have:((n%2:Nat):Int)=0:=by simpa using h1
                              omega
    have:((n:Int) !=2)=decide (n≠2):=by
     by_cases hn:n=2
     ·subst hn;rfl
     ·have hn':¬(n:Int)=2:=by omega
      simp[hn,hn']
    rw[this];simp[h1]
   have h1 : n % 2 ≠ 0 := by have:¬((n%2:Nat):Int)=0:=by simpa using h1
                             omega
   simp[h1]
  rintro b rfl
  refine zao (fun h1=>zab ?_) fun h1=>?_
  ·have h1:=of_decide_eq_true h1
   symm
   unfold prB
   rw[decide_eq_false_iff_not]
   intro hp
   have hn:4≤n:=by omega
   exact hp.2 2 (by omega) hn h1.1
  have h1:=of_decide_eq_false h1
  refine zaf (ψ:=fun b=>(b=.inl ()∧Pr n)∨(b=.inr false∧¬Pr n)) (zdg (fun s=>∃d:Nat,s=(d:Int)∧3≤d∧d%2=1∧d≤44725∧∀k,2≤k→k<d→k*k≤n→n%k≠0) (fun s=>50000-s.toNat) ⟨3,rfl,by omega,by omega,by omega,fun k h2 h3 h4=>?_⟩ ?_) ?_
  ·have:k=2:=by omega
   subst this
   intro h5
   exact h1 ⟨h5,by omega⟩
  ·rintro s ⟨d,rfl,hd,hodd,hd2,hi⟩
   have hdd:d*d≤2000325625:=Nat.le_trans (Nat.mul_le_mul hd2 hd2) (by decide)
   rw[zgB,zai (by omega) (by omega)]
   refine zao (fun h1=>zak (by omega) (zao (fun h2=>zab (.inr ⟨rfl,?_⟩)) fun h2=>zab ?_)) fun h1=>zab (.inl ⟨rfl,by omega,fun k hk hkn=>?_⟩)
   ·have h1:d*d≤n:=by have:=of_decide_eq_true h1;omega
    rw[zcX]at h2
    have h2 : n % d = 0 := by have:((n%d:Nat):Int)=0:=by simpa using h2
                              omega
    exact fun hp=>hp.2 d (by omega) h1 h2
   ·have h3:d*d≤n:=by have:=of_decide_eq_true h1;omega
    rw[zcX]at h2
    have h2 : n % d ≠ 0 := by have:¬((n%d:Nat):Int)=0:=by simpa using h2
                              omega
    have hd3:d≤44722:=by
     rcases Nat.lt_or_ge d 44723 with h|h
     ·omega
     ·have:44723*44723≤d*d:=Nat.mul_le_mul h h
      omega
    rw[zai (by omega) (by omega)]
    refine⟨⟨d+2,rfl,by omega,by omega,by omega,fun k h4 h5 h6 h7=>?_⟩,by omega⟩
    rcases Nat.lt_or_ge k d with h|h
    ·exact hi k h4 h h6 h7
    rcases(show k=d∨k=d+1 by omega)with e|e
    ·subst e;exact h2 h7
    have h8:n%2=0:=by
     have a1:k∣n:=Nat.dvd_of_mod_eq_zero h7
     have a2:2∣k:=Nat.dvd_of_mod_eq_zero (by omega)
     exact Nat.mod_eq_zero_of_dvd (Nat.dvd_trans a2 a1)
    have h9:2*2≤n:=by
     have:=Nat.mul_le_mul h4 h4
     omega
    exact hi 2 (by omega) (by omega) h9 h8
   have h1:n<d*d:=by have:=of_decide_eq_false h1;omega
   rcases Nat.lt_or_ge k d with h|h
   ·exact hi k hk h hkn
   have:=Nat.mul_le_mul h h
   omega
  rintro b (⟨rfl,hp⟩|⟨rfl,hp⟩)
  ·exact zab (zgq.2 hp).symm
  refine zab ?_
  symm
  unfold prB
  rw[decide_eq_false_iff_not]
  exact hp
 have em:(decide (2≤n)&&decide (n≤2000000000))=false:=by
  rw[Bool.and_eq_false_iff,decide_eq_false_iff_not,decide_eq_false_iff_not];omega
 rw[zm2,em]
 simp only[Option.bind_some,Bool.not_false,if_true]
 congr 1
 symm
 rw[Bool.and_eq_false_iff,decide_eq_false_iff_not]
 by_cases hn:n≤2000000000
 ·right
  unfold prB
  rw[decide_eq_false_iff_not]
  intro hp
  have:=hp.1
  omega
 exact .inl hn
structure OkG (gr:Group):Prop where
 p:3≤gr.P∧gr.P≤2000000000
 q:2≤gr.Q∧gr.Q≤gr.P-1
 d:(gr.P.toNat-1)%gr.Q.toNat=0
 g:2≤gr.G∧gr.G≤gr.P-1
 pp:Pr gr.P.toNat
 pq:Pr gr.Q.toNat
 o:gr.G.toNat^gr.Q.toNat%gr.P.toNat=1
open Classical in
def okG (gr:Group):Bool:=decide (OkG gr)
theorem zmz {gr:Group}:okG gr=true↔OkG gr:=by simp[okG]
theorem zgF {gr:Group}(h:¬OkG gr):okG gr=false:=by simp[okG,h]
theorem zu6 {gr:Group}{b:Bool}(h1:b=true→OkG gr) (h2:OkG gr→b=true):b=okG gr:=by
 cases hb:b with
 |true=>exact(zmz.2 (h1 hb)).symm
 |false=>exact(zgF fun h=>by rw[h2 h]at hb;cases hb).symm
theorem zd1 {a:Int}(h:0≤a):a=((a.toNat:Nat):Int):=by omega
theorem zhD {a e m:Int}(ha:0≤a) (ha2:a≤2000000000) (hm:1≤m) (hm2:m≤2000000000) (he:0≤e) (he2:e≤9223372036854775807):zeh a e m=some ((a.toNat^e.toNat%m.toNat:Nat):Int)∧zbV a e m=some ((a.toNat^e.toNat%m.toNat:Nat):Int):=by
 have h1:=zyz (a:=a.toNat) (e:=e.toNat) (m:=m.toNat) (by omega) (by omega) (by omega) (by omega)
 have h2:=zxa (a:=a.toNat) (e:=e.toNat) (m:=m.toNat) (by omega) (by omega) (by omega) (by omega)
 rw[←zd1 ha,←zd1 he,←zd1 (show 0≤m by omega)]at h1 h2
 exact⟨h1,h2⟩
theorem zjY {a b:Bool}:(a&&b)=true↔a=true∧b=true:=by simp
theorem znr (gr:Group):zbO gr=some (okG gr):=by
 unfold zbO
 refine zal (zaf (ψ:=fun b=>b=okG gr) ?_ fun b hb=>zab hb)
 refine zae (zdH _ _ _) (zao (fun h=>?_) fun h=>?_)
 ·have hp:3≤gr.P∧gr.P≤2000000000:=by simpa using h
  rw[zai (n:=gr.P-1) (by omega) (by omega)]
  refine zae (zdH _ _ _) (zao (fun h=>?_) fun h=>?_)
  ·have hq:2≤gr.Q∧gr.Q≤gr.P-1:=by simpa using h
   have ed:(gr.P-1).tmod gr.Q=(((gr.P.toNat-1)%gr.Q.toNat:Nat):Int):=by
    rw[zd1 (show 0≤gr.P-1 by omega),zd1 (show 0≤gr.Q by omega),zcX]
    simp only[Int.toNat_natCast]
    congr 2;omega
   refine zak (by omega) ?_
   rw[ed]
   refine zao (fun h=>?_) fun h=>?_
   ·have hd:(gr.P.toNat-1)%gr.Q.toNat=0:=by
     have:(((gr.P.toNat-1)%gr.Q.toNat:Nat):Int)=0:=by simpa using h
     omega
    refine zae (zdH _ _ _) (zao (fun h=>?_) fun h=>?_)
    ·have hg:2≤gr.G∧gr.G≤gr.P-1:=by simpa using h
     refine zae (zpt _) (zao (fun h=>?_) fun h=>?_)
     ·have hpp:Pr gr.P.toNat:=by
       rw[zjY,zd1 (show 0≤gr.P by omega),zgq]at h
       exact h.2
      refine zae (zpt _) (zao (fun h=>?_) fun h=>?_)
      ·have hpq:Pr gr.Q.toNat:=by
        rw[zjY,zd1 (show 0≤gr.Q by omega),zgq]at h
        exact h.2
       refine zae (zhD (a:=gr.G) (e:=gr.Q) (m:=gr.P) (by omega) (by omega) (by omega) (by omega) (by omega) (by omega)).1 (zab (zu6 (fun h=>⟨hp,hq,hd,hg,hpp,hpq,?_⟩) fun h=>?_))
       ·have:((gr.G.toNat^gr.Q.toNat%gr.P.toNat:Nat):Int)=1:=by simpa using h
        omega
       rw[h.o];rfl
      refine zab (zgF fun hk=>?_).symm
      have:(decide (gr.Q≤2000000000)&&prB gr.Q)=true:=by
       rw[zjY,zd1 (show 0≤gr.Q by omega),zgq]
       exact⟨by simp;omega,hk.pq⟩
      rw[this]at h;cases h
     refine zab (zgF fun hk=>?_).symm
     have:(decide (gr.P≤2000000000)&&prB gr.P)=true:=by
      rw[zjY,zd1 (show 0≤gr.P by omega),zgq]
      exact⟨by simp;omega,hk.pp⟩
     rw[this]at h;cases h
    refine zab (zgF fun hk=>?_).symm
    have:=hk.g
    simp at h;omega
   refine zab (zgF fun hk=>?_).symm
   rw[hk.d]at h;cases h
  refine zab (zgF fun hk=>?_).symm
  have:=hk.q
  simp at h;omega
 refine zab (zgF fun hk=>?_).symm
 have:=hk.p
 simp at h;omega
theorem zqJ (gr:Group):zf7 gr=some (okG gr):=by
 unfold zf7
 refine zal (zaf (ψ:=fun b=>b=okG gr) ?_ fun b hb=>zab hb)
 refine zae (zg0 _ _ _) (zao (fun h=>?_) fun h=>?_)
 ·have hp:3≤gr.P∧gr.P≤2000000000:=by simpa using h
  rw[zai (n:=gr.P-1) (by omega) (by omega)]
  refine zae (zg0 _ _ _) (zao (fun h=>?_) fun h=>?_)
  ·have hq:2≤gr.Q∧gr.Q≤gr.P-1:=by simpa using h
   have ed:(gr.P-1).tmod gr.Q=(((gr.P.toNat-1)%gr.Q.toNat:Nat):Int):=by
    rw[zd1 (show 0≤gr.P-1 by omega),zd1 (show 0≤gr.Q by omega),zcX]
    simp only[Int.toNat_natCast]
    congr 2;omega
   refine zak (by omega) ?_
   rw[ed]
   refine zao (fun h=>?_) fun h=>?_
   ·have hd:(gr.P.toNat-1)%gr.Q.toNat=0:=by
     have:(((gr.P.toNat-1)%gr.Q.toNat:Nat):Int)=0:=by simpa using h
     omega
    refine zae (zg0 _ _ _) (zao (fun h=>?_) fun h=>?_)
    ·have hg:2≤gr.G∧gr.G≤gr.P-1:=by simpa using h
     refine zae (zhD (a:=gr.G) (e:=gr.Q) (m:=gr.P) (by omega) (by omega) (by omega) (by omega) (by omega) (by omega)).2 (zao (fun h=>?_) fun h=>?_)
     ·have ho:gr.G.toNat^gr.Q.toNat%gr.P.toNat=1:=by
       have:((gr.G.toNat^gr.Q.toNat%gr.P.toNat:Nat):Int)=1:=by simpa using h
       omega
      refine zae (zk4 _ (by omega)) (zao (fun h=>?_) fun h=>?_)
      ·have hpq:Pr gr.Q.toNat:=by
        rw[zd1 (show 0≤gr.Q by omega),zgq]at h
        exact h
       refine zae (zk4 _ (by omega)) (zab (zu6 (fun h=>⟨hp,hq,hd,hg,?_,hpq,ho⟩) fun h=>?_))
       ·rw[zd1 (show 0≤gr.P by omega),zgq]at h
        exact h
       rw[zd1 (show 0≤gr.P by omega),zgq]
       exact h.pp
      refine zab (zgF fun hk=>?_).symm
      have:prB gr.Q=true:=by
       rw[zd1 (show 0≤gr.Q by omega),zgq]
       exact hk.pq
      rw[this]at h;cases h
     refine zab (zgF fun hk=>?_).symm
     rw[hk.o]at h;cases h
    refine zab (zgF fun hk=>?_).symm
    have:=hk.g
    simp at h;omega
   refine zab (zgF fun hk=>?_).symm
   rw[hk.d]at h;cases h
  refine zab (zgF fun hk=>?_).symm
  have:=hk.q
  simp at h;omega
 refine zab (zgF fun hk=>?_).symm
 have:=hk.p
 simp at h;omega
def zaL (gr:Group) (x:Int):Bool:=decide (1≤x)&&decide (x≤gr.P-1)&&decide (x.toNat^gr.Q.toNat%gr.P.toNat=1)
def zhg (gr:Group) (x:Int):Bool:=decide (0≤x)&&decide (x≤gr.Q-1)
theorem zxY {gr:Group}(k:OkG gr) (x:Int):zd4 gr x=some (zaL gr x):=by
 have hp:=k.p
 have hq:=k.q
 unfold zd4 zaL
 rw[zai (n:=gr.P-1) (by omega) (by omega),zdH]
 refine zal (zaf (ψ:=fun b=>b=_) ?_ fun b hb=>zab hb)
 refine zae rfl (zao (fun h=>?_) fun h=>?_)
 ·have hx:1≤x∧x≤gr.P-1:=by simpa using h
  refine zae (zhD (a:=x) (e:=gr.Q) (m:=gr.P) (by omega) (by omega) (by omega) (by omega) (by omega) (by omega)).1 (zab ?_)
  rw[h,Bool.true_and]
  by_cases h1:x.toNat^gr.Q.toNat%gr.P.toNat=1
  ·simp[h1]
  have:¬((x.toNat^gr.Q.toNat%gr.P.toNat:Nat):Int)=1:=by omega
  rw[beq_false_of_ne this,decide_eq_false h1]
 rw[h];exact zab rfl
theorem zEA {gr:Group}(k:OkG gr) (l:List Int):zgM gr l=some (l.all (zaL gr)):=by
 have hp:=k.p
 have hq:=k.q
 unfold zgM
 rw[zai (n:=gr.P-1) (by omega) (by omega)]
 refine zal (zaf (ψ:=fun b=>(b=.inl ()∧l.all (zaL gr)=true)∨(b=.inr false∧l.all (zaL gr)=false)) (zbi (fun i s=>(l.take i).all (zaL gr)=true) rfl ?_ ?_) ?_)
 ·rintro i s hi hI
  refine za6 hi (zaf (ψ:=fun b=>b= !zaL gr l[i]) ?_ ?_)
  ·refine zae (zg0 _ _ _) (zao (fun h=>zab ?_) fun h=>?_)
   ·have h:(decide (1≤l[i])&&decide (l[i]≤gr.P-1))=false:=by rwa [Bool.not_eq_true']at h
    simp[zaL,h]
   have h:(decide (1≤l[i])&&decide (l[i]≤gr.P-1))=true:=by simpa using h
   have hx:1≤l[i]∧l[i]≤gr.P-1:=by simpa using h
   refine zae (zhD (a:=l[i]) (e:=gr.Q) (m:=gr.P) (by omega) (by omega) (by omega) (by omega) (by omega) (by omega)).2 (zab ?_)
   simp only[zaL,h,Bool.true_and]
   by_cases h1:l[i].toNat^gr.Q.toNat%gr.P.toNat=1
   ·simp[h1]
   have:¬((l[i].toNat^gr.Q.toNat%gr.P.toNat:Nat):Int)=1:=by omega
   simp only[bne,beq_false_of_ne this,decide_eq_false h1]
  rintro b rfl
  refine zao (fun h=>zab (.inr ⟨rfl,?_⟩)) fun h=>zab ?_
  ·have h:zaL gr l[i]=false:=by simpa using h
   rw[List.all_eq_false]
   exact⟨l[i],List.getElem_mem hi,by simp[h]⟩
  have h:zaL gr l[i]=true:=by simpa using h
  show(l.take (i+1)).all (zaL gr)=true
  rw[List.take_succ_eq_append_getElem hi,List.all_append,hI]
  simp[h]
 ·rintro s hI
  rw[List.take_length]at hI
  exact .inl ⟨rfl,hI⟩
 rintro b (⟨rfl,h⟩|⟨rfl,h⟩)
 ·exact zab h.symm
 exact zab h.symm
theorem zkO (l:List Int) (a b:Int):zb9 l a b=some (l.all fun x=>decide (a≤x)&&decide (x≤b)):=by
 unfold zb9
 refine zal (zaf (ψ:=fun c=>(c=.inl ()∧(l.all fun x=>decide (a≤x)&&decide (x≤b))=true)∨(c=.inr false∧(l.all fun x=>decide (a≤x)&&decide (x≤b))=false)) (zbi (fun i s=>((l.take i).all fun x=>decide (a≤x)&&decide (x≤b))=true) rfl ?_ ?_) ?_)
 ·rintro i s hi hI
  refine za6 hi (zae (zg0 _ _ _) (zao (fun h=>zab (.inr ⟨rfl,?_⟩)) fun h=>zab ?_))
  ·rw[List.all_eq_false]
   exact⟨l[i],List.getElem_mem hi,by rw[Bool.not_eq_true']at h;rw[h];simp⟩
  show((l.take (i+1)).all fun x=>decide (a≤x)&&decide (x≤b))=true
  rw[List.take_succ_eq_append_getElem hi,List.all_append,hI]
  simpa using h
 ·rintro s hI
  rw[List.take_length]at hI
  exact .inl ⟨rfl,hI⟩
 rintro c (⟨rfl,h⟩|⟨rfl,h⟩)
 ·exact zab h.symm
 exact zab h.symm
theorem zy4 {gr:Group}(h:0≤gr.Q) (h2:gr.Q≤2000000000) (l:List Int):zgC gr l=some (l.all (zhg gr)):=by
 unfold zgC
 rw[zai (by omega) (by omega),zkO];rfl
theorem zsP {gr:Group}(h:0≤gr.Q) (h2:gr.Q≤2000000000) (x:Int):zdk gr x=some (zhg gr x):=by
 unfold zdk
 rw[zai (by omega) (by omega),zdH];rfl
def zav (gr:Group) (x e:Int):Int:=((x.toNat^(e%gr.Q).toNat%gr.P.toNat:Nat):Int)
theorem zhq {gr:Group}(k:OkG gr) (x e:Int):0≤zav gr x e∧zav gr x e≤gr.P-1:=by
 have hp:=k.p
 unfold zav
 have:=Nat.mod_lt (x.toNat^(e%gr.Q).toNat) (y:=gr.P.toNat) (by omega)
 omega
theorem zom {gr:Group}(k:OkG gr) {x:Int}(h0:0≤x) (h1:x≤2000000000) (e:Int):zau gr x e=some (zav gr x e)∧zaA gr x e=some (zav gr x e):=by
 have hp:=k.p
 have hq:=k.q
 have b1:0≤e%gr.Q:=Int.emod_nonneg _ (by omega)
 have b2:e%gr.Q<gr.Q:=Int.emod_lt_of_pos _ (by omega)
 have hw:=zhD (a:=x) (e:=e%gr.Q) (m:=gr.P) (by omega) (by omega) (by omega) (by omega) b1 (by omega)
 unfold zau zaA
 rw[zuf (by omega) (by omega),zos (by omega) (by omega),Option.bind_some,Option.bind_some,hw.1,hw.2]
 exact⟨rfl,rfl⟩
def zeL (gr:Group) (l:List Int):Int:=l.foldl (fun o x=>o*x%gr.P) 1
theorem zq9 {gr:Group}(h:1≤gr.P):∀(l:List Int) (o:Int),0≤o→o≤gr.P→(∀x∈l,0≤x)→0≤l.foldl (fun o x=>o*x%gr.P) o∧l.foldl (fun o x=>o*x%gr.P) o≤gr.P:=by
 intro l
 induction l with
 |nil=>intro o h0 h1 _;exact⟨h0,h1⟩
 |cons x l ih=>
  intro o h0 h1 h2
  exact ih _ (Int.emod_nonneg _ (by omega)) (Int.le_of_lt (Int.emod_lt_of_pos (o*x) (show 0<gr.P by omega))) fun y hy=>h2 y (List.mem_cons_of_mem _ hy)
theorem zzU (gr:Group) (l:List Int):zbL gr l=zbk gr l:=rfl
theorem zp3 {gr:Group}(k:OkG gr) {l:List Int}(hl:∀x∈l,0≤x∧x≤2000000000):zbk gr l=some (zeL gr l):=by
 have hp:=k.p
 unfold zbk
 refine zal (zaf (ψ:=fun b=>b=zeL gr l) (zbi (fun i s=>s=(l.take i).foldl (fun o x=>o*x%gr.P) 1) rfl ?_ ?_) fun b hb=>zab hb)
 ·rintro i s hi rfl
  have hb:=zq9 (gr:=gr) (by omega) (l.take i) 1 (by omega) (by omega) fun x hx=>(hl x (List.mem_of_mem_take hx)).1
  have hx:=hl l[i] (List.getElem_mem hi)
  refine za6 hi (zak (by omega) (zab ?_))
  show _=(l.take (i+1)).foldl _ _
  rw[List.take_succ_eq_append_getElem hi,List.foldl_append]
  generalize (l.take i).foldl (fun o x=>o*x%gr.P) 1=o at hb⊢
  have b1:0≤o*l[i]:=Int.mul_nonneg hb.1 hx.1
  have b2:o*l[i]≤2000000000*2000000000:=Int.mul_le_mul (by omega) hx.2 hx.1 (by omega)
  show(IntKind.i64.wrap (o*l[i])).tmod gr.P=o*l[i]%gr.P
  rw[zai (by omega) (by omega),Int.tmod_eq_emod_of_nonneg b1]
 rintro s rfl
 rw[List.take_length];rfl
theorem zwr {gr:Group}(k:OkG gr) {l:List Int}(hl:∀x∈l,0≤x∧x≤2000000000):zbL gr l=some (zeL gr l):=by rw[zzU];exact zp3 k hl
theorem zyu {gr:Group}(k:OkG gr) {l:List Int}(hl:∀x∈l,0≤x∧x≤2000000000):0≤zeL gr l∧zeL gr l≤gr.P:=by
 have hp:=k.p
 exact zq9 (by omega) l 1 (by omega) (by omega) fun x hx=>(hl x hx).1
theorem zq2 {gr:Group}(k:OkG gr) (l:List Int):zcr gr l=some (l.all (zaL gr)):=by
 unfold zcr zcE zaI zaN
 refine zal (zaf (ψ:=fun b=>b=l.all (zaL gr)) (zaf (ψ:=fun b=>b= !l.all (zaL gr)) (zaf (ψ:=fun j=>(j=-1∧l.all (zaL gr)=true)∨(0≤j∧l.all (zaL gr)=false)) (zaf (ψ:=fun b=>(b=.inl ()∧l.all (zaL gr)=true)∨(∃j,b=.inr j∧0≤j∧l.all (zaL gr)=false)) (zbi (fun i s=>(l.take i).all (zaL gr)=true) rfl ?_ ?_) ?_) ?_) ?_) ?_)
 ·rintro i s hi hI
  have hc:zbD l[i] gr=some (!zaL gr l[i]):=by
   unfold zbD
   rw[zxY k];rfl
  refine za6 hi (zae hc (zao (fun h=>zab (.inr ⟨i,rfl,by omega,?_⟩)) fun h=>zab ?_))
  ·rw[List.all_eq_false]
   exact⟨l[i],List.getElem_mem hi,by rw[Bool.not_eq_true']at h;rw[h];simp⟩
  show(l.take (i+1)).all (zaL gr)=true
  rw[List.take_succ_eq_append_getElem hi,List.all_append,hI]
  simpa using h
 ·rintro s hI
  rw[List.take_length]at hI
  exact .inl ⟨rfl,hI⟩
 ·rintro b (⟨rfl,h⟩|⟨j,rfl,h0,h⟩)
  ·exact zab (.inl ⟨rfl,h⟩)
  exact zab (.inr ⟨h0,h⟩)
 ·rintro j (⟨rfl,h⟩|⟨h0,h⟩)
  ·exact zab (by rw[h];rfl)
  exact zab (by rw[h];simpa using h0)
 ·rintro b rfl
  exact zab (by simp)
 rintro b rfl
 exact zab rfl
theorem zkq {gr:Group}{x:Int}(h:zaL gr x=true):1≤x∧x≤gr.P-1:=by
 simp only[zaL,Bool.and_eq_true,decide_eq_true_eq]at h
 exact h.1
theorem zpu {gr:Group}(k:OkG gr) {y m:Int}(hy:zaL gr y=true) (hm:zaL gr m=true) (r:Int):
 zbK gr y m r=some (Cipher.mk (zav gr gr.G r) (zeL gr [m,zav gr y r]))∧zgZ gr y m r=some (Cipher.mk (zav gr gr.G r) (zeL gr [m,zav gr y r])):=by
 have hp:=k.p
 have hg:=k.g
 have b1:=zkq hy
 have b2:=zkq hm
 have e1:=zom k (x:=gr.G) (by omega) (by omega) r
 have e2:=zom k (x:=y) (by omega) (by omega) r
 have hl:∀x∈[m,zav gr y r],0≤x∧x≤2000000000:=fun x hx=>by
  simp only[List.mem_cons,List.not_mem_nil,or_false]at hx
  rcases hx with rfl|rfl
  ·omega
  ·have:=zhq k y r;omega
 unfold zbK zgZ
 rw[e1.1,e1.2,Option.bind_some,Option.bind_some,e2.1,e2.2,Option.bind_some,Option.bind_some,zp3 k hl,zwr k hl]
 exact⟨rfl,rfl⟩
theorem ztR {α:Type}(b:Bool) (u v:α):(if b=true then some u else some v)=some (if(!b)=true then v else u):=by cases b<;>rfl
theorem zEZ {α:Type}(b:Bool) (u v:α):(if(!b)=true then some u else some v)=some (if b=true then v else u):=by cases b<;>rfl
theorem zji {β:Type}{body:Int→Unit→Option (Stp Unit (Unit ⊕ β))}(m:Nat) (p:Nat→Bool) (val:Nat→β) (h:∀k,k<m→body (k:Int) ()=some (if p k=true then .go ()else .out (.inr (val k)))):
 (zap body (fun _=>.inl ()) m 0 ()=some (.inl ())∧∀k,k<m→p k=true)∨∃k,k<m∧p k=false∧(∀j,j<k→p j=true)∧zap body (fun _=>.inl ()) m 0 ()=some (.inr (val k)):=by
 have key:Rn (zap body (fun _=>Sum.inl ()) m 0 ()) (fun b=>(b=.inl ()∧∀k,k<m→p k=true)∨∃k,k<m∧p k=false∧(∀j,j<k→p j=true)∧b=.inr (val k)):=by
  refine zbi (fun k _=>∀j,j<k→p j=true) (fun j hj=>by omega) ?_ fun s hs=>.inl ⟨rfl,hs⟩
  intro k s hk hI
  refine⟨_,h k hk,?_⟩
  cases hp:p k with
  |true=>
   intro j hj
   rcases Nat.lt_or_ge j k with h|h
   ·exact hI j h
   ·have:j=k:=by omega
    rw[this];exact hp
  |false=>exact .inr ⟨k,hk,hp,hI,rfl⟩
 obtain⟨b,e,h1|⟨k,h1,h2,h3,h4⟩⟩:=key
 ·exact .inl ⟨by rw[e,h1.1],h1.2⟩
 exact .inr ⟨k,h1,h2,h3,by rw[e,h4]⟩
theorem zDX {α:Type}(l:List α) (p:α→Bool) (c:Bool) {body:Int→Unit→Option (Stp Unit (Unit ⊕ Bool))}(h:∀k (hk:k<l.length),body (k:Int) ()=some (if p l[k]=true then .go ()else .out (.inr c))):
 (zap body (fun _=>.inl ()) l.length 0 ()).bind (Sum.elim (fun _=>some (!c)) some)=some (if l.all p=true then !c else c):=by
 rcases zji (body:=body) l.length (fun k=>(l[k]?).any p) (fun _=>c) (fun k hk=>by rw[h k hk,List.getElem?_eq_getElem hk];rfl)with⟨e,h1⟩|⟨k,h1,h2,h3,e⟩
 ·rw[e]
  have:l.all p=true:=by
   rw[List.all_eq_true]
   intro x hx
   obtain⟨k,hk,rfl⟩:=List.mem_iff_getElem.1 hx
   have:=h1 k hk
   rw[List.getElem?_eq_getElem hk]at this
   exact this
  rw[this];rfl
 rw[e]
 have:l.all p=false:=by
  rw[List.all_eq_false]
  refine⟨l[k],List.getElem_mem h1,?_⟩
  rw[List.getElem?_eq_getElem h1]at h2
  simpa using h2
 rw[this];rfl
theorem ztg (l:List Int) (x:Int):zfF l x=some (l.contains x):=by
 unfold zfF
 have:=zDX l (fun y=> !(y==x)) true (body:=fun i8 s7=>(ix l i8).bind fun x17=>if(x17==x)=true then some (.out (.inr true))else some (.go ())) fun k hk=>by
  rw[zeG hk,Option.bind_some]
  exact ztR _ _ _
 rw[show(!true)=false from rfl]at this
 refine this.trans ?_
 congr 1
 cases hc:l.contains x with
 |true=>
  have hm:x∈l:=by simpa using hc
  have:(l.all fun y=> !(y==x))=false:=by
   rw[List.all_eq_false]
   exact⟨x,hm,by simp⟩
  rw[this];rfl
 |false=>
  have hm:¬x∈l:=by simpa using hc
  have:(l.all fun y=> !(y==x))=true:=by
   rw[List.all_eq_true]
   intro y hy
   have:y≠x:=fun e=>hm (e▸hy)
   simp[this]
  rw[this];rfl
theorem zyo (l:List Int) (x:Int):(zcj l x=some (-1)∧¬x∈l)∨∃k,∃h:k<l.length,zcj l x=some (k:Int)∧l[k]=x∧∀j (hj:j<k),l[j]'(by omega)≠x:=by
 unfold zcj
 rcases zji l.length (fun k=>(l[k]?).any fun y=> !(x==y)) (fun k=>(k:Int)) (body:=fun i8 s7=>(ix l i8).bind fun x17=>if(x==x17)=true then some (.out (.inr i8))else some (.go ())) (fun k hk=>by
  rw[zeG hk,Option.bind_some,List.getElem?_eq_getElem hk]
  exact ztR _ _ _)with⟨e,h1⟩|⟨k,h1,h2,h3,e⟩
 ·refine .inl ⟨by rw[e];rfl,fun hx=>?_⟩
  obtain⟨k,hk,rfl⟩:=List.mem_iff_getElem.1 hx
  have:=h1 k hk
  rw[List.getElem?_eq_getElem hk]at this
  simp at this
 refine .inr ⟨k,h1,by rw[e];rfl,?_,fun j hj=>?_⟩
 ·rw[List.getElem?_eq_getElem h1]at h2
  simp at h2
  exact h2.symm
 have:=h3 j hj
 rw[List.getElem?_eq_getElem (by omega)]at this
 simp at this
 exact fun e=>this e.symm
theorem zuv (l:List Int) (x:Int):zcu l x=some (l.contains x):=by
 unfold zcu
 rcases zyo l x with⟨e,h⟩|⟨k,hk,e,h,_⟩
 ·rw[e]
  have:l.contains x=false:=by simpa using h
  rw[this];rfl
 rw[e]
 have:l.contains x=true:=by
  have:=List.getElem_mem hk
  rw[h]at this
  simpa using this
 rw[this]
 simp
open Classical in
def ziH (l:List Int):Bool:=decide l.Nodup
theorem zq3 {C:List Int→Int→Option Bool}(hC:∀l x,C l x=some (l.contains x)) (l:List Int) (hl:l.length≤1000000000000):
 ((zap (σ:=Unit) (fun i5 s4=>
 (ix l i5).bind fun x11=>
 gd (0≤i5)<|
 gd (0≤i5.toNat∧i5.toNat≤l.length)<|
 (C ((l.take i5.toNat).drop 0) x11).bind fun z12=>
 if z12=true then(
 some (.out (.inr false)))else(
 some (.go ()))) (fun s4=>.inl ()) (l.length) 0 ():Option (Unit ⊕ Bool)).bind (Sum.elim (fun x3=>
 some true) some))=some (ziH l):=by
 rcases zji l.length (fun k=>(l[k]?).any fun y=> !(l.take k).contains y) (fun _=>false) (body:=fun i8 s7=>
  (ix l i8).bind fun x17=>
  gd (0≤i8)<|
  gd (0≤i8.toNat∧i8.toNat≤l.length)<|
  (C ((l.take i8.toNat).drop 0) x17).bind fun z26=>
  if z26=true then(
  some (.out (.inr false)))else(
  some (.go ()))) (fun k hk=>by
   rw[zeG hk,Option.bind_some,zcx (by omega),zcx (by simp;omega),hC,List.getElem?_eq_getElem hk,Option.bind_some,Int.toNat_natCast,List.drop_zero]
   exact ztR _ _ _)with⟨e,h1⟩|⟨k,h1,h2,h3,e⟩
 ·rw[e]
  have:ziH l=true:=by
   unfold ziH
   rw[decide_eq_true_eq,List.nodup_iff_pairwise_ne,List.pairwise_iff_getElem]
   intro i j hi hj hij e
   have:=h1 j hj
   rw[List.getElem?_eq_getElem hj]at this
   have hm:l[j]∈l.take j:=by
    rw[←e]
    exact List.mem_iff_getElem.2 ⟨i,by simp;omega,by simp⟩
   have hc:(l.take j).contains l[j]=true:=by simpa using hm
   simp only[Option.any_some,hc]at this
   cases this
  rw[this];rfl
 rw[e]
 have:ziH l=false:=by
  unfold ziH
  rw[decide_eq_false_iff_not,List.nodup_iff_pairwise_ne,List.pairwise_iff_getElem]
  intro hd
  rw[List.getElem?_eq_getElem h1]at h2
  have hc:(l.take k).contains l[k]=true:=by simpa using h2
  have hm:l[k]∈l.take k:=by simpa using hc
  obtain⟨i,hi,e⟩:=List.mem_iff_getElem.1 hm
  simp at hi e
  exact hd i k (by omega) h1 (by omega) e
 rw[this];rfl
theorem zAA (l:List Int) (hl:l.length≤1000000000000):zdS l=some (ziH l):=zq3 zuv l hl
theorem zgI {l:List Int}{p:Int→Bool}{f:Int→Option Bool}(hf:∀x∈l,f x=some (!p x)):
 ((((zap (σ:=Unit) (β:=Unit ⊕ Int) (fun i8 s7=>(ix l i8).bind fun x17=>(f x17).bind fun z20=>if z20=true then(some (.out (.inr i8)))else(some (.go ()))) (fun s7=>.inl ()) (l.length) 0 ():Option (Unit ⊕ Int)).bind (Sum.elim (fun(x5:Unit)=>some (-1)) some)).bind fun z1=>some (decide (0≤z1))).bind fun z1=>some (!z1))=some (l.all p):=by
 rcases zji l.length (fun k=>(l[k]?).any p) (fun k=>(k:Int)) (body:=fun i8 s7=>(ix l i8).bind fun x17=>(f x17).bind fun z20=>if z20=true then(some (.out (.inr i8)))else(some (.go ()))) (fun k hk=>by
  rw[zeG hk,Option.bind_some,hf _ (List.getElem_mem hk),Option.bind_some,List.getElem?_eq_getElem hk]
  exact zEZ _ _ _)with⟨e,h1⟩|⟨k,h1,h2,h3,e⟩
 ·rw[e]
  have:l.all p=true:=by
   rw[List.all_eq_true]
   intro x hx
   obtain⟨k,hk,rfl⟩:=List.mem_iff_getElem.1 hx
   have:=h1 k hk
   rw[List.getElem?_eq_getElem hk]at this
   exact this
  rw[this];rfl
 rw[e]
 have:l.all p=false:=by
  rw[List.all_eq_false]
  refine⟨l[k],List.getElem_mem h1,?_⟩
  rw[List.getElem?_eq_getElem h1]at h2
  simpa using h2
 rw[this]
 simp
def dg (q:Nat):Nat→Nat→List Int
 |0,_=>[]
 |k+1,n=>((n%q:Nat):Int)::dg q k (n/q)
theorem zAb {gr:Group}(k:OkG gr) (m:Int):zgM gr [m]=some (zaL gr m):=by
 rw[zEA k];simp
theorem zlY {gr:Group}(h:0≤gr.Q) (h2:gr.Q≤2000000000) (l:List Int):za5 gr l=some (l.all (zhg gr)):=by
 have h1:zcg l gr=some (l.all (zhg gr)):=zgI (f:=fun x=>zbu x gr) fun x _=>by
  unfold zbu
  rw[zsP h h2];rfl
 unfold za5
 rw[h1];rfl
theorem zkF {a n p e:Nat}(h:a^n%p=1):a^(e%n)%p=a^e%p:=by
 have hp:1%p=1:=by rw[←h,Nat.mod_mod]
 conv=>rhs;rw[←Nat.div_add_mod e n]
 rw[Nat.pow_add,Nat.pow_mul,Nat.mul_mod,Nat.pow_mod (a^n),h,Nat.one_pow,hp,Nat.one_mul,Nat.mod_mod]
theorem zmy {gr:Group}{x:Int}(h:zaL gr x=true):1≤x∧x≤gr.P-1∧x.toNat^gr.Q.toNat%gr.P.toNat=1:=by
 unfold zaL at h
 simp only[Bool.and_eq_true,decide_eq_true_eq]at h
 exact⟨h.1.1,h.1.2,h.2⟩
theorem zxn {gr:Group}(k:OkG gr) {x:Int}(h:zaL gr x=true) {s l:Int}(hs:0≤s) (hl:0≤l):zav gr (zav gr x s) l=zav gr x (s*l):=by
 obtain⟨_,_,h3⟩:=zmy h
 have hq:=k.q
 obtain⟨a,rfl⟩:=Int.eq_ofNat_of_zero_le hs
 obtain⟨b,rfl⟩:=Int.eq_ofNat_of_zero_le hl
 obtain⟨n,hn⟩:=Int.eq_ofNat_of_zero_le (show 0≤gr.Q by omega)
 unfold zav
 rw[hn]at h3⊢
 rw[Int.toNat_natCast]at h3
 have e:∀c:Nat,((c:Int)%(n:Int)).toNat=c%n:=fun c=>by rw[←Int.natCast_emod,Int.toNat_natCast]
 rw[zgB,e,e,e,Int.toNat_natCast,zkF h3,zkF h3,←Nat.pow_mod,←Nat.pow_mul]
 congr 1
 rw[Nat.pow_mul,Nat.pow_mod,zkF (n:=n) (e:=b)]
 ·rw[←Nat.pow_mod,←Nat.pow_mul]
 rw[←Nat.pow_mod,←Nat.pow_mul,Nat.mul_comm,Nat.pow_mul,Nat.pow_mod,h3,Nat.one_pow,←h3,Nat.mod_mod]
structure Bt (code:List Int):Prop where
 b:∀x∈code,0≤x∧x≤255
 l:code.length≤1048576
structure Cu (code:List Int) (n:Int) (c:List Int×Int×Int):Prop where
 e:c.1=code
 lo:0≤c.2.1
 hi:c.2.1≤n
theorem Cu.mono {code:List Int}{n m:Int}{c:List Int×Int×Int}(h:Cu code n c) (hn:n≤m):Cu code m c:=⟨h.e,h.lo,Int.le_trans h.hi hn⟩
theorem zz7 (x:BitVec IntKind.u64.bits):0≤IntKind.i64.wrap (IntKind.u64.wrap ((x&&&BitVec.ofInt IntKind.u64.bits 255).toNat:Int))∧IntKind.i64.wrap (IntKind.u64.wrap ((x&&&BitVec.ofInt IntKind.u64.bits 255).toNat:Int))≤255:=by
 have hy:(x&&&BitVec.ofInt IntKind.u64.bits 255).toNat≤255:=by
  rw[BitVec.toNat_and]
  exact Nat.le_trans Nat.and_le_right (by decide)
 generalize (x&&&BitVec.ofInt IntKind.u64.bits 255).toNat=y at hy⊢
 rw[wrU (by omega) (by omega),zai (by omega) (by omega)]
 omega
theorem zve {code c0:List Int}{at_ seed n:Int}(hb:Bt code) (h:Cu code n (c0,at_,seed)) (hn:n≤9000000000000000):Rn (zco c0 at_ seed) (fun z=>0≤z.1∧z.1≤255∧Cu code (n+1) z.2):=by
 obtain⟨h1,h2,h3⟩:=h
 have h1:c0=code:=h1
 have h2:0≤at_:=h2
 have h3:at_≤n:=h3
 subst h1
 have hw:IntKind.i64.wrap (at_+1)=at_+1:=zai (by omega) (by omega)
 unfold zco
 refine zaf (ψ:=fun v=>0≤v∧v≤255) ?_ fun v hv=>?_
 ·refine zao (fun g=>?_) fun g=>zab (by omega)
  obtain⟨k,rfl⟩:=Int.eq_ofNat_of_zero_le h2
  have hk:k<c0.length:=by simp at g;omega
  have:=hb.b _ (List.getElem_mem hk)
  exact za6 hk (zab (by rw[zai (by omega) (by omega)];exact this))
 simp only[hw]
 refine zao (fun g=>zab ⟨hv.1,hv.2,rfl,by show 0≤at_+1;omega,by show at_+1≤n+1;omega⟩) fun g=>zab ?_
 exact⟨(zz7 _).1,(zz7 _).2,rfl,by show 0≤at_+1;omega,by show at_+1≤n+1;omega⟩
theorem zc5 {code c0:List Int}{at_ seed n m:Int}(hb:Bt code) (h:Cu code n (c0,at_,seed)) (hn:n≤8000000000000000):Rn (zag c0 at_ seed m) (fun z=>0≤z.1∧(m≤1→z.1=0)∧(1<m→z.1<m)∧z.1≤65535∧Cu code (n+2) z.2):=by
 unfold zag
 refine zao (fun g=>zab ⟨Int.le_refl 0,fun _=>rfl,fun h=>by simp at g;omega,by show(0:Int)≤_;omega,h.mono (by omega)⟩) fun g=>?_
 have g:1<m:=by simpa using g
 refine zaf (zve hb h (by omega)) fun z ⟨z1,z2,z3⟩=>?_
 refine zaf (ψ:=fun x=>0≤x.2∧x.2≤65535∧Cu code (n+2) x.1) ?_ fun x ⟨x1,x2,x3⟩=>?_
 ·refine zao (fun _=>zaf (zve hb z3 (by omega)) fun y ⟨y1,y2,y3⟩=>zab ?_) fun _=>zab ⟨z1,by show z.1≤_;omega,z3.mono (by omega)⟩
  rw[zai (n:=z.1*256) (by omega) (by omega),zai (by omega) (by omega)]
  exact⟨by show 0≤z.1*256+y.1;omega,by show z.1*256+y.1≤_;omega,y3.mono (by omega)⟩
 refine zak (by omega) (zab ?_)
 rw[Int.tmod_eq_emod_of_nonneg x1]
 have b1:=Int.emod_nonneg x.2 (show m≠0 by omega)
 have b2:=Int.emod_lt_of_pos x.2 (show 0<m by omega)
 have b3:x.2%m≤x.2:=by
  rcases Int.lt_or_le x.2 m with h|h
  ·rw[Int.emod_eq_of_lt x1 h];exact Int.le_refl _
  ·omega
 exact⟨b1,fun h=>by omega,fun _=>b2,by show x.2%m≤_;omega,x3⟩
theorem zn6 {code c0:List Int}{at_ seed n m:Int}(hb:Bt code) (h:Cu code n (c0,at_,seed)) (hn:n≤8000000000000000):Rn (zbp c0 at_ seed m) (fun z=>Cu code (n+2) z.2):=by
 unfold zbp
 exact zaf (zc5 hb h hn) fun z hz=>zab hz.2.2.2.2
theorem zh3 {code c0:List Int}{at_ seed n:Int}{l:List Int}(hb:Bt code) (h:Cu code n (c0,at_,seed)) (hn:n≤8000000000000000) (hl:l≠[]):Rn (zaq c0 at_ seed l) (fun z=>z.1∈l∧Cu code (n+2) z.2):=by
 unfold zaq
 refine zaf (zc5 hb h hn) fun z ⟨z1,z2,z3,z4,z5⟩=>?_
 have h0:0<l.length:=List.length_pos_iff.2 hl
 obtain⟨k,hk⟩:=Int.eq_ofNat_of_zero_le z1
 have hlt:k<l.length:=by
  rcases Nat.lt_or_ge 1 l.length with h|h
  ·have:=z3 (by omega);omega
  ·have:=z2 (by omega);omega
 rw[hk]
 exact za6 hlt (zab ⟨List.getElem_mem hlt,z5⟩)
theorem zvy {n d:Nat}(h:Pr n) (hd:d%n≠0):Nat.gcd n d=1:=by
 obtain⟨k,hk⟩:=Nat.gcd_dvd_left n d
 have hn:=h.1
 have h0:0<Nat.gcd n d:=Nat.gcd_pos_of_pos_left d (by omega)
 have hdv:=Nat.gcd_dvd_right n d
 generalize Nat.gcd n d=g at hk h0 hdv
 apply Classical.byContradiction
 intro hg
 have hg2:2≤g:=by omega
 have hk2:2≤k:=by
  rcases Nat.lt_or_ge k 2 with h|h
  ·have:k=0∨k=1:=by omega
   rcases this with rfl|rfl
   ·omega
   ·rw[Nat.mul_one]at hk
    rw[←hk]at hdv
    exact absurd (Nat.mod_eq_zero_of_dvd hdv) hd
  ·exact h
 rcases Nat.le_total g k with h'|h'
 ·exact h.2 g hg2 (by rw[hk];exact Nat.mul_le_mul_left g h') (by rw[hk];exact Nat.mul_mod_right g k)
 exact h.2 k hk2 (by rw[hk];exact Nat.mul_le_mul_right k h') (by rw[hk];exact Nat.mul_mod_left g k)
theorem zAK {n:Nat}(h:Pr n) {a b:Int}(hab:(a*b)%(n:Int)=0):a%(n:Int)=0∨b%(n:Int)=0:=by
 have h1:n∣a.natAbs*b.natAbs:=by
  rw[←Int.natAbs_mul]
  exact Int.ofNat_dvd_left.1 (Int.dvd_of_emod_eq_zero hab)
 by_cases ha:a.natAbs%n=0
 ·exact .inl (Int.emod_eq_zero_of_dvd (Int.ofNat_dvd_left.2 (Nat.dvd_of_mod_eq_zero ha)))
 exact .inr (Int.emod_eq_zero_of_dvd (Int.ofNat_dvd_left.2 (Nat.Coprime.dvd_of_dvd_mul_left (zvy h ha) h1)))
def evP (f:List Int) (x:Int):Int:=f.foldr (fun c a=>a*x+c) 0
theorem zqz (c:Int) (f:List Int) (x:Int):evP (c::f) x=evP f x*x+c:=rfl
def dvP (r:Int):List Int→List Int
 |[]=>[]
 |[_]=>[]
 |_::c::f=>evP (c::f) r::dvP r (c::f)
theorem zs7 (r:Int):∀f:List Int,(dvP r f).length=f.length-1
 |[]=>rfl
 |[_]=>rfl
 |_::c::f=>by
  show(dvP r (c::f)).length+1=_
  rw[zs7 r (c::f)];simp
theorem zvI (r x:Int):∀f:List Int,evP f x=evP (dvP r f) x*(x-r)+evP f r
 |[]=>by simp[dvP,evP]
 |[c]=>by simp[dvP,evP]
 |d::c::f=>by
  have ih:=zvI r x (c::f)
  show evP (c::f) x*x+d=(evP (dvP r (c::f)) x*x+evP (c::f) r)*(x-r)+(evP (c::f) r*r+d)
  rw[ih]
  grind
theorem zqh (r:Int):∀f:List Int,2≤f.length→(dvP r f).getLastD 0=f.getLastD 0
 |[],h=>absurd h (by simp)
 |[_],h=>absurd h (by simp)
 |[d,c],_=>by simp[dvP,evP]
 |e::d::c::f,_=>by
  have ih:=zqh r (d::c::f) (by simp)
  show(evP (d::c::f) r::evP (c::f) r::dvP r (c::f)).getLastD 0=_
  have:dvP r (d::c::f)=evP (c::f) r::dvP r (c::f):=rfl
  rw[this]at ih
  simpa[List.getLastD]using ih
theorem zvp {p:Nat}(hp:Pr p):∀(n:Nat) (f:List Int),f.length=n+1→f.getLastD 0%(p:Int)≠0→∀rs:List Int,rs.Pairwise (fun a b=>(b-a)%(p:Int)≠0)→(∀r∈rs,evP f r%(p:Int)=0)→rs.length≤n
 |0,f,hl,hf,rs,hd,hr=>by
  match f,hl with
  |[c],_=>
   cases rs with
   |nil=>simp
   |cons r rs=>
    have:=hr r (List.mem_cons_self ..)
    simp[evP]at this
    exact absurd (by first|exact this|exact Int.emod_eq_zero_of_dvd this) (by simpa[List.getLastD]using hf)
 |n+1,f,hl,hf,rs,hd,hr=>by
  cases rs with
  |nil=>simp
  |cons r rs=>
   have h1:=List.pairwise_cons.1 hd
   have:=zvp hp n (dvP r f) (by rw[zs7];omega) (by rw[zqh r f (by omega)];exact hf) rs h1.2 fun s hs=>by
    have e:=zvI r s f
    have hs0:=hr s (List.mem_cons_of_mem _ hs)
    have hr0:=hr r (List.mem_cons_self ..)
    have hm:(evP (dvP r f) s*(s-r))%(p:Int)=0:=by
     rw[show evP (dvP r f) s*(s-r)=evP f s-evP f r by omega,Int.sub_emod,hs0,hr0];simp
    rcases zAK hp hm with h|h
    ·exact h
    ·exact absurd h (h1.1 s hs)
   simpa using this
theorem zw3 (k:Nat) (x:Int):evP (List.replicate k 0++[1]) x=x^k:=by
 induction k with
 |zero=>simp[evP]
 |succ k ih=>rw[List.replicate_succ,List.cons_append,zqz,ih,Int.pow_succ];omega
theorem zm5 {p n:Nat}(hp:Pr p) (hn:1≤n) (rs:List Int) (hd:rs.Pairwise (fun a b=>(b-a)%(p:Int)≠0)) (hr:∀r∈rs,r^n%(p:Int)=1):rs.length≤n:=by
 have h2:=hp.1
 have hone:(1:Int)%(p:Int)=1:=Int.emod_eq_of_lt (by omega) (by omega)
 obtain⟨k,rfl⟩:∃k,n=k+1:=⟨n-1,by omega⟩
 refine zvp hp (k+1) (-1::(List.replicate k 0++[1])) (by simp) ?_ rs hd fun r hr'=>?_
 ·have:(-1::(List.replicate k (0:Int)++[1])).getLastD 0=1:=by
   rw[←List.cons_append,List.getLastD_concat]
  rw[this,hone];omega
 rw[zqz,zw3,←Int.pow_succ,Int.add_emod,hr r hr']
 have:((-1:Int)%(p:Int))=p-1:=by
  have:=Int.add_mul_emod_self_left (-1) (p:Int) 1
  rw[←this,Int.mul_one,Int.emod_eq_of_lt (by omega) (by omega)];omega
 rw[this,show 1+((p:Int)-1)=p by omega,Int.emod_self]
theorem zvU {p n:Nat}(hp:Pr p) (hn:1≤n) (hnp:n<p-1):∃h:Nat,2≤h∧h<p∧h^n%p≠1:=by
 apply Classical.byContradiction
 intro hc
 have h2:=hp.1
 have h1:∀h:Nat,1≤h→h<p→h^n%p=1:=fun h a b=>by
  rcases Nat.lt_or_ge h 2 with c|c
  ·have:h=1:=by omega
   subst this
   rw[Nat.one_pow,Nat.mod_eq_of_lt (by omega)]
  ·exact Classical.byContradiction fun d=>hc ⟨h,c,b,d⟩
 have:=zm5 hp hn ((List.range (p-1)).map fun k=>((k+1:Nat):Int)) ?_ ?_
 ·simp at this;omega
 ·rw[List.pairwise_map]
  refine List.Pairwise.imp_of_mem ?_ List.pairwise_lt_range
  intro a b ha hb hab
  have hb:=List.mem_range.1 hb
  rw[show((b+1:Nat):Int)-((a+1:Nat):Int)=((b-a:Nat):Int)by omega,←Int.natCast_emod,Nat.mod_eq_of_lt (by omega)]
  omega
 intro r hr
 obtain⟨k,hk,rfl⟩:=List.mem_map.1 hr
 have hk:=List.mem_range.1 hk
 rw[←Int.natCast_pow,←Int.natCast_emod,h1 (k+1) (by omega) (by omega)];rfl
structure Gs (gr:Group):Prop where
 p:0≤gr.P∧gr.P≤2000000000
 q:0≤gr.Q∧gr.Q≤1000000000
 g:0≤gr.G∧gr.G≤2000000000
theorem zAO {q k:Nat}(hq:2≤q):((1+(k:Int)*(q:Int))-1).tdiv (q:Int)=(k:Int):=by
 rw[show(1+(k:Int)*(q:Int))-1=(k:Int)*(q:Int)by omega,Int.mul_tdiv_cancel _ (by omega)]
theorem zm6 {q:Nat}(hq2:q≤1000000):Rn (zd5 (q:Int)) (fun z=>Gs z.1∧(z.2=true→z.1.Q=q∧3≤z.1.P)∧(∀k:Nat,1≤k→Pr (1+k*q)→1+k*q≤2000000000→Pr q→z.2=true)):=by
 unfold zd5
 refine zaf (ψ:=fun b=>b= !(decide (2≤q)&&prB (q:Int))) ?_ ?_
 ·refine zae (zg0 _ _ _) ?_
  by_cases h:2≤q
  ·refine zbl (by simp;omega) (zae (zk4 _ (by omega)) (zab ?_))
   simp[h]
  refine zgl (by simp;omega) (zab ?_)
  simp[h]
 rintro _ rfl
 cases hc:(decide (2≤q)&&prB (q:Int))
 ·refine zgl rfl (zab ⟨⟨⟨by decide,by decide⟩,⟨by decide,by decide⟩,by decide,by decide⟩,fun h=>(by cases h),fun k h1 h2 h3 h4=>?_⟩)
  rw[zgq.2 h4]at hc
  have:=h4.1
  simp at hc;omega
 have hq:2≤q:=by simp at hc;exact hc.1
 have hpq:Pr q:=by simp at hc;exact zgq.1 hc.2
 refine zbl rfl ?_
 refine zaf (ψ:=fun b=>(b=.inl ()∧∀k:Nat,1≤k→Pr (1+k*q)→¬1+k*q≤2000000000)∨∃z:Group×Bool,b=.inr z∧Gs z.1∧z.2=true∧z.1.Q=q∧3≤z.1.P) ?_ ?_
 ·rw[zai (by omega) (by omega)]
  refine zdg (fun s=>∃k:Nat,1≤k∧s=1+(k:Int)*(q:Int)∧s≤2001000001∧∀j:Nat,1≤j→j<k→¬Pr (1+j*q)) (fun s=>(2001000001-s).toNat) ⟨1,by omega,by omega,by omega,fun j h1 h2=>by omega⟩ ?_
  rintro s ⟨k,hk,rfl,hs,hn⟩
  have hkq:k*2≤k*q:=Nat.mul_le_mul_left k hq
  have hkc:(k:Int)*(q:Int)=((k*q:Nat):Int):=zgB k q
  refine zao (fun g=>?_) fun g=>?_
  ·have g:1+(k:Int)*(q:Int)≤2000000000:=by simpa using g
   refine zae (zk4 _ (by omega)) ?_
   have hcast:1+(k:Int)*(q:Int)=((1+k*q:Nat):Int):=by omega
   cases hp:prB (1+(k:Int)*(q:Int))
   ·refine zgl rfl (zab ?_)
    have e:IntKind.i64.wrap (1+(k:Int)*(q:Int)+(q:Int))=1+((k+1:Nat):Int)*(q:Int):=by
     rw[zai (by omega) (by omega)];grind
    refine⟨⟨k+1,by omega,e,by rw[zai (by omega) (by omega)];omega,fun j h1 h2=>?_⟩,?_⟩
    ·rcases Nat.lt_or_ge j k with h|h
     ·exact hn j h1 h
     have:j=k:=by omega
     subst this
     intro hpr
     rw[hcast,zgq.2 hpr]at hp
     cases hp
    rw[zai (by omega) (by omega)];omega
   refine zbl rfl ?_
   have hpr:Pr (1+k*q):=by rw[hcast]at hp;exact zgq.1 hp
   obtain⟨h0,a1,a2,a3⟩:=zvU hpr hk (by omega)
   have hdv:IntKind.i64.wrap ((IntKind.i64.wrap (1+(k:Int)*(q:Int)-1)).tdiv (q:Int))=(k:Int):=by
    rw[zai (n:=1+(k:Int)*(q:Int)-1) (by omega) (by omega),zAO hq,zai (by omega) (by omega)]
   simp only[hdv]
   simp only[hcast]
   refine zaf (ψ:=fun h=>2≤h∧h≤(h0:Int)) (zdg (fun s=>2≤s∧s≤(h0:Int)) (fun s=>(h0-s).toNat) (by omega) ?_) ?_
   ·rintro s ⟨s1,s2⟩
    have hpw:=(zhD (a:=s) (e:=(k:Int)) (m:=((1+k*q:Nat):Int)) (by omega) (by omega) (by omega) (by omega) (by omega) (by omega)).2
    refine zak (by omega) (zae hpw ?_)
    refine zao (fun g=>zab ?_) fun g=>zab ⟨s1,s2⟩
    rw[zai (by omega) (by omega)]
    have hne:s≠(h0:Int):=fun e=>by
     subst e
     apply a3
     have g:((((h0:Int).toNat^(k:Int).toNat%((1+k*q:Nat):Int).toNat:Nat)):Int)=1:=by simpa only[beq_iff_eq]using g
     rw[Int.toNat_natCast,Int.toNat_natCast,Int.toNat_natCast]at g
     omega
    refine⟨⟨by omega,by omega⟩,?_⟩
    omega
   rintro h ⟨s1,s2⟩
   have hpw:=(zhD (a:=h) (e:=(k:Int)) (m:=((1+k*q:Nat):Int)) (by omega) (by omega) (by omega) (by omega) (by omega) (by omega)).2
   refine zak (by omega) (zae hpw (zab ?_))
   have hlt:h.toNat^(k:Int).toNat%((1+k*q:Nat):Int).toNat<1+k*q:=by
    rw[Int.toNat_natCast (1+k*q)]
    exact Nat.mod_lt _ (by omega)
   refine .inr ⟨_,rfl,⟨⟨by show(0:Int)≤((1+k*q:Nat):Int);omega,by show((1+k*q:Nat):Int)≤_;omega⟩,⟨by show(0:Int)≤(q:Int);omega,by show(q:Int)≤_;omega⟩,?_,?_⟩,rfl,rfl,by show(3:Int)≤((1+k*q:Nat):Int);omega⟩
   ·show(0:Int)≤((_:Nat):Int);omega
   show((_:Nat):Int)≤2000000000;omega
  refine zab (.inl ⟨rfl,fun j h1 h2 h3=>?_⟩)
  have g:¬1+(k:Int)*(q:Int)≤2000000000:=by simpa using g
  rcases Nat.lt_or_ge j k with h|h
  ·exact hn j h1 h h2
  have:k*q≤j*q:=Nat.mul_le_mul_right q h
  omega
 rintro b (⟨rfl,h⟩|⟨z,rfl,h1,h2,h3,h4⟩)
 ·exact zab ⟨⟨⟨by decide,by decide⟩,⟨by decide,by decide⟩,by decide,by decide⟩,fun h=>(by cases h),fun k h1 h2 h3 h4=>absurd h3 (h k h1 h2)⟩
 exact zab ⟨h1,fun _=>⟨h3,h4⟩,fun _ _ _ _ _=>h2⟩
theorem zgV {n:Nat}(hn:n<64) (h2:2≤n) (h:∀d,d<8→2≤d→d*d≤n→n%d≠0):Pr n:=by
 refine⟨h2,fun d h1 h3=>?_⟩
 rcases Nat.lt_or_ge d 8 with h8|h8
 ·exact h d h8 h1 h3
 have:8*8≤d*d:=Nat.mul_le_mul h8 h8
 omega
structure Gw (gr:Group):Prop where
 p: -10≤gr.P∧gr.P≤2100000000
 q: -10≤gr.Q∧gr.Q≤2100000000
 g: -10≤gr.G∧gr.G≤2100000000
theorem Gs.w {gr:Group}(h:Gs gr):Gw gr:=⟨by have:=h.p;omega,by have:=h.q;omega,by have:=h.g;omega⟩
theorem zBf {x:Int}(hx:x∈[(3:Int),5,5,7,11,11,13,23]):∃q k:Nat,x=(q:Int)∧3≤q∧q≤23∧1≤k∧Pr (1+k*q)∧1+k*q≤2000000000∧Pr q:=by
 simp only[List.mem_cons,List.not_mem_nil,or_false]at hx
 rcases hx with rfl|rfl|rfl|rfl|rfl|rfl|rfl|rfl
 ·exact⟨3,2,rfl,by decide,by decide,by decide,zgV (by decide) (by decide) (by decide),by decide,zgV (by decide) (by decide) (by decide)⟩
 ·exact⟨5,2,rfl,by decide,by decide,by decide,zgV (by decide) (by decide) (by decide),by decide,zgV (by decide) (by decide) (by decide)⟩
 ·exact⟨5,2,rfl,by decide,by decide,by decide,zgV (by decide) (by decide) (by decide),by decide,zgV (by decide) (by decide) (by decide)⟩
 ·exact⟨7,4,rfl,by decide,by decide,by decide,zgV (by decide) (by decide) (by decide),by decide,zgV (by decide) (by decide) (by decide)⟩
 ·exact⟨11,2,rfl,by decide,by decide,by decide,zgV (by decide) (by decide) (by decide),by decide,zgV (by decide) (by decide) (by decide)⟩
 ·exact⟨11,2,rfl,by decide,by decide,by decide,zgV (by decide) (by decide) (by decide),by decide,zgV (by decide) (by decide) (by decide)⟩
 ·exact⟨13,4,rfl,by decide,by decide,by decide,zgV (by decide) (by decide) (by decide),by decide,zgV (by decide) (by decide) (by decide)⟩
 exact⟨23,2,rfl,by decide,by decide,by decide,zgV (by decide) (by decide) (by decide),by decide,zgV (by decide) (by decide) (by decide)⟩
theorem zAa {code c0:List Int}{at_ seed n:Int}(hb:Bt code) (h:Cu code n (c0,at_,seed)) (hn:n≤7000000000000000):Rn (zc8 c0 at_ seed) (fun z=>Gs z.1∧3≤z.1.Q∧z.1.Q≤23∧3≤z.1.P∧Cu code (n+2) z.2):=by
 unfold zc8
 refine zaf (zh3 hb h (by omega) (by simp)) fun z ⟨z1,z2⟩=>?_
 obtain⟨q,k,e,q1,q2,k1,k2,k3,k4⟩:=zBf z1
 rw[e]
 refine zaf (zm6 (by omega)) fun y ⟨y1,y2,y3⟩=>zab ?_
 have y4:=y2 (y3 k k1 k2 k3 k4)
 exact⟨y1,by show 3≤y.1.Q;omega,by show y.1.Q≤23;omega,y4.2,z2⟩
theorem zyG {gr:Group}(h:Gs gr) (hq:1≤gr.Q) (hp:1≤gr.P) {x:Int}(hx:0≤x∧x≤2000000000) (e:Int):Rn (zaA gr x e) (fun v=>0≤v∧v≤2000000000):=by
 have h1:=h.p
 have h2:=h.q
 have b1:0≤e%gr.Q:=Int.emod_nonneg _ (by omega)
 have b2:e%gr.Q<gr.Q:=Int.emod_lt_of_pos _ (by omega)
 have hw:=(zhD (a:=x) (e:=e%gr.Q) (m:=gr.P) (by omega) (by omega) (by omega) (by omega) b1 (by omega)).2
 unfold zaA
 refine zae (zos (by omega) (by omega)) (zae hw (zab ?_))
 have hlt:x.toNat^(e%gr.Q).toNat%gr.P.toNat<gr.P.toNat:=Nat.mod_lt _ (by omega)
 omega
theorem zDq {x:Int}(hx:x∈[(101:Int),1009,1019,65537,999983]):∃q:Nat,x=(q:Int)∧q≤1000000:=by
 simp only[List.mem_cons,List.not_mem_nil,or_false]at hx
 rcases hx with rfl|rfl|rfl|rfl|rfl
 ·exact⟨101,rfl,by decide⟩
 ·exact⟨1009,rfl,by decide⟩
 ·exact⟨1019,rfl,by decide⟩
 ·exact⟨65537,rfl,by decide⟩
 exact⟨999983,rfl,by decide⟩
theorem zBp:Gs (Group.mk 1000000007 500000003 4):=⟨⟨by decide,by decide⟩,⟨by decide,by decide⟩,by decide,by decide⟩
theorem cu0 (code:List Int):Cu code 0 (code,0,0):=⟨rfl,Int.le_refl 0,Int.le_refl 0⟩
theorem zyQ {code c0:List Int}{at_ seed n:Int}(hb:Bt code) (h:Cu code n (c0,at_,seed)) (hn:n≤6000000000000000):Rn (zcS c0 at_ seed) (fun z=>Gs z.1∧Cu code (n+6) z.2):=by
 unfold zcS
 refine zaf (zc5 hb h (by omega)) fun z ⟨z1,z2,z3,z4,z5⟩=>?_
 refine zao (fun _=>zab ⟨zBp,z5.mono (by omega)⟩) fun _=>zao (fun _=>?_) fun _=>?_
 ·refine zaf (zh3 hb z5 (by omega) (by simp)) fun y ⟨y1,y2⟩=>?_
  obtain⟨q,e,hq⟩:=zDq y1
  rw[e]
  exact zaf (zm6 hq) fun x ⟨x1,_,_⟩=>zab ⟨x1,y2.mono (by omega)⟩
 refine zaf (zAa hb z5 (by omega)) fun y ⟨y1,y2,y3,y4,y5⟩=>?_
 refine zaf (zc5 hb y5 (by omega)) fun x ⟨x1,x2,x3,x4,x5⟩=>?_
 have hg:=y1.g
 refine zaf (zyG y1 (by omega) (by omega) hg _) fun v hv=>zab ⟨⟨y1.p,y1.q,hv⟩,x5.mono (by omega)⟩
theorem zuR {code c0:List Int}{at_ seed n:Int}{gr:Group}(hb:Bt code) (h:Cu code n (c0,at_,seed)) (hn:n≤7000000000000000) (hg:gr.Q≤2100000000):Rn (zcn c0 at_ seed gr) (fun z=>0≤z.1∧z.1≤2100000000∧(2≤gr.Q→z.1<gr.Q)∧Cu code (n+4) z.2):=by
 unfold zcn
 refine zao (fun g=>zab ⟨Int.le_refl 0,by show(0:Int)≤_;omega,fun h=>by simp at g;omega,h.mono (by omega)⟩) fun g=>?_
 have g:2≤gr.Q:=by simp at g;omega
 refine zaf (zc5 hb h (by omega)) fun z ⟨z1,z2,z3,z4,z5⟩=>?_
 refine zaf (zc5 hb z5 (by omega)) fun y ⟨y1,y2,y3,y4,y5⟩=>zak (by omega) (zab ?_)
 rw[zai (n:=z.1*60000) (by omega) (by omega),zai (by omega) (by omega),Int.tmod_eq_emod_of_nonneg (by omega)]
 have b1:=Int.emod_nonneg (z.1*60000+y.1) (show gr.Q≠0 by omega)
 have b2:=Int.emod_lt_of_pos (z.1*60000+y.1) (show 0<gr.Q by omega)
 exact⟨b1,by show _%gr.Q≤_;omega,fun _=>b2,y5.mono (by omega)⟩
theorem zsz {code c0:List Int}{at_ seed n:Int}{gr:Group}{k:Nat}(hb:Bt code) (h:Cu code n (c0,at_,seed)) (hn:n≤5000000000000000) (hg:Gw gr) (hk:k≤1000000):Rn (zb7 c0 at_ seed gr (k:Int)) (fun z=>z.1.length=k∧(∀x∈z.1,0≤x∧x≤2100000000∧(2≤gr.Q→x<gr.Q))∧Cu code (n+4*k) z.2):=by
 unfold zb7
 refine zaf (ψ:=fun r=>r.2.length=k∧(∀x∈r.2,0≤x∧x≤2100000000∧(2≤gr.Q→x<gr.Q))∧Cu code (n+4*k) r.1) (zie k (fun j s=>s.2.1=(k:Int)-j∧s.2.2.length=j∧(∀x∈s.2.2,0≤x∧x≤2100000000∧(2≤gr.Q→x<gr.Q))∧Cu code (n+4*j) s.1) ⟨by show(k:Int)=_;omega,rfl,by simp,h.mono (by omega)⟩ ?_ ?_) fun r hr=>zab hr
 ·rintro j s hj ⟨h1,h2,h3,h4⟩
  refine zgl (by rw[h1];simp;omega) (zaf (zuR hb h4 (by omega) hg.q.2) fun z ⟨z1,z2,z3,z4⟩=>zak (by omega) (zab ⟨?_,by simp[h2],fun x hx=>?_,z4.mono (by omega)⟩))
  ·show IntKind.i64.wrap (s.2.1-1)=_
   rw[h1,zai (by omega) (by omega)];omega
  rcases List.mem_append.1 hx with h|h
  ·exact h3 x h
  rw[List.mem_singleton.1 h];exact⟨z1,z2,z3⟩
 rintro s ⟨h1,h2,h3,h4⟩
 exact zbl (by rw[h1];simp) (zab ⟨h2,h3,h4⟩)
theorem zm7 {a p:Nat}(hp:2≤p) {m:Nat}(h:a^m%p=1) (k r:Nat):a^(m*k+r)%p=a^r%p:=by
 rw[Nat.pow_add,Nat.pow_mul,Nat.mul_mod,Nat.pow_mod (a^m),h,Nat.one_pow,Nat.mod_eq_of_lt (show 1<p by omega),Nat.one_mul,Nat.mod_mod]
theorem zyn {a p:Nat}(hp:2≤p):∀m n,a^m%p=1→a^n%p=1→a^(Nat.gcd m n)%p=1:=by
 intro m n
 induction m,n using Nat.gcd.induction with
 |H0 n=>intro _ h;simpa using h
 |H1 m n hm ih=>
  intro h1 h2
  rw[Nat.gcd_rec]
  refine ih ?_ h1
  rw[←zm7 hp h1 (n/m) (n%m),Nat.div_add_mod]
  exact h2
theorem zyl {a p q:Nat}(hp:2≤p) (hq:Pr q) (ha:a^q%p=1) (ha1:a%p≠1) {i j:Nat}(hij:i<j) (hj:j<q):a^i%p≠a^j%p:=by
 intro e
 have h1:a^(j-i)%p=1:=by
  have e1:a^(j-i)%p=a^(q*1+(j-i))%p:=(zm7 hp ha 1 (j-i)).symm
  rw[e1,show q*1+(j-i)=j+(q-i)by omega,Nat.pow_add,Nat.mul_mod,←e,←Nat.mul_mod,←Nat.pow_add,show i+(q-i)=q by omega]
  exact ha
 have h2:=zyn hp q (j-i) ha h1
 rw[zvy hq (by rw[Nat.mod_eq_of_lt (by omega)];omega),Nat.pow_one]at h2
 exact ha1 h2
theorem zni {gr:Group}{x:Int}(h:zaL gr x=true):x.toNat^gr.Q.toNat%gr.P.toNat=1:=by
 simp only[zaL,Bool.and_eq_true,decide_eq_true_eq]at h
 exact h.2
theorem zsJ {gr:Group}{x:Int}(k:OkG gr) (h:zaL gr x=true):x.toNat<gr.P.toNat∧1≤x.toNat:=by
 have:=zkq h
 have:=k.p
 omega
theorem zzy {gr:Group}(k:OkG gr) {h x:Int}(hh:zaL gr h=true) (h1:h≠1) (hx:zaL gr x=true):∃s:Nat,h.toNat^s%gr.P.toNat=x.toNat:=by
 have hp2:2≤gr.P.toNat:=by have:=k.p;omega
 have hb:=zsJ k hh
 have hbx:=zsJ k hx
 have ha1:h.toNat%gr.P.toNat≠1:=by rw[Nat.mod_eq_of_lt hb.1];have:=zkq hh;omega
 apply Classical.byContradiction
 intro hn
 have hn':∀s:Nat,h.toNat^s%gr.P.toNat≠x.toNat:=fun s e=>hn ⟨s,e⟩
 have key:∀a b:Nat,a<gr.P.toNat→b<gr.P.toNat→a≠b→((b:Int)-(a:Int))%(gr.P.toNat:Int)≠0:=by
  intro a b ha hb' hab he
  have h3:((gr.P.toNat:Nat):Int)∣(b:Int)-(a:Int):=Int.dvd_of_emod_eq_zero he
  obtain⟨c,hc⟩:=h3
  rcases Int.lt_trichotomy c 0 with h4|h4|h4
  ·have:(gr.P.toNat:Int)*c≤(gr.P.toNat:Int)*(-1):=Int.mul_le_mul_of_nonneg_left (by omega) (by omega)
   omega
  ·subst h4;simp at hc;omega
  ·have:(gr.P.toNat:Int)*1≤(gr.P.toNat:Int)*c:=Int.mul_le_mul_of_nonneg_left (by omega) (by omega)
   omega
 have hlt:∀s,h.toNat^s%gr.P.toNat<gr.P.toNat:=fun s=>Nat.mod_lt _ (by omega)
 have hlen:=zm5 (p:=gr.P.toNat) (n:=gr.Q.toNat) k.pp (by have:=k.q;omega) ((x.toNat:Int)::(List.range gr.Q.toNat).map fun i=>((h.toNat^i%gr.P.toNat:Nat):Int)) ?_ ?_
 ·simp at hlen;omega
 ·rw[List.pairwise_cons]
  refine⟨fun y hy=>?_,?_⟩
  ·obtain⟨i,hi,rfl⟩:=List.mem_map.1 hy
   exact key _ _ hbx.1 (hlt i) fun e=>hn' i e.symm
  rw[List.pairwise_map]
  refine List.Pairwise.imp_of_mem ?_ List.pairwise_lt_range
  intro i j hi hj hij
  exact key _ _ (hlt i) (hlt j) (zyl hp2 k.pq (zni hh) ha1 hij (List.mem_range.1 hj))
 intro r hr
 rcases List.mem_cons.1 hr with rfl|hr
 ·have:=zni hx
  rw[←Int.natCast_pow,←Int.natCast_emod,this];rfl
 obtain⟨i,hi,rfl⟩:=List.mem_map.1 hr
 have h5:(h.toNat^i%gr.P.toNat)^gr.Q.toNat%gr.P.toNat=1:=by
  rw[←Nat.pow_mod,←Nat.pow_mul,Nat.mul_comm,Nat.pow_mul,Nat.pow_mod,zni hh,Nat.one_pow,Nat.mod_eq_of_lt (by omega)]
 rw[←Int.natCast_pow,←Int.natCast_emod,h5];rfl
theorem zti {a q:Int}(h0:0<q) (h1:q≤4000000000000000000):zea a q=some (a%q):=by
 unfold zea
 rw[zcx (by omega),zcx (by omega)]
 have b1:a.tmod q<q:=Int.tmod_lt_of_pos a h0
 have b2: -q<a.tmod q:=by
  have:=Int.lt_tmod_of_pos a h0
  omega
 rw[zai (by omega) (by omega),Int.tmod_eq_emod_of_nonneg (by omega)]
 congr 1
 rw[Int.add_emod_right]
 rw[Int.tmod_def,Int.sub_emod,Int.mul_emod_right,Int.sub_zero,Int.emod_emod]
theorem zsY (a:Int) {m:Int}(h:0<m): -m<a.tmod m∧a.tmod m<m:=by
 have h1:=Int.tmod_lt_of_pos a h
 have h2:=Int.lt_tmod_of_pos a h
 omega
theorem zvd (a:Int) {e m:Int}(h1:1≤m) (h2:0≤e) (h3:e≤4000000000000000000):Rn (zbV a e m) (fun v=>-m<v∧v<m):=by
 unfold zbV
 refine zak (by omega) (zaf (ψ:=fun v=>-m<v∧v<m) (zdg (fun s=>(-m<s.2.2∧s.2.2<m)∧0≤s.2.1∧s.2.1≤e) (fun s=>s.2.1.toNat) ⟨zsY _ (by omega),h2,Int.le_refl _⟩ ?_) fun x hx=>zab hx)
 rintro s ⟨hs,h4,h5⟩
 refine zao (fun g=>?_) fun _=>zab hs
 have g:0<s.2.1:=by simpa using g
 refine zaf (ψ:=fun v=>-m<v∧v<m) (zao (fun _=>zak (by omega) (zab (zsY _ (by omega)))) fun _=>zab hs) fun x hx=>zak (by omega) (zab ?_)
 have e1:s.2.1.tdiv 2=s.2.1/2:=Int.tdiv_eq_ediv_of_nonneg (by omega)
 have e2:IntKind.i64.wrap (s.2.1.tdiv 2)=s.2.1/2:=by rw[e1,zai (by omega) (by omega)]
 exact⟨⟨hx,by show 0≤IntKind.i64.wrap _;rw[e2];omega,by show IntKind.i64.wrap _≤e;rw[e2];omega⟩,by show(IntKind.i64.wrap _).toNat<_;rw[e2];omega⟩
theorem zy3 {gr:Group}(hq:1≤gr.Q∧gr.Q≤4000000000000000000) (hp:1≤gr.P) (x e:Int):Rn (zaA gr x e) (fun v=>-gr.P<v∧v<gr.P):=by
 unfold zaA
 refine zae (zti (by omega) hq.2) (zaf (zvd x hp (Int.emod_nonneg _ (by omega)) ?_) fun v hv=>zab hv)
 have:=Int.emod_lt_of_pos e (show 0<gr.Q by omega)
 omega
theorem zvq {code c0:List Int}{at_ seed n:Int}{gr:Group}(hb:Bt code) (h:Cu code n (c0,at_,seed)) (hn:n≤6000000000000000) (hg:Gw gr):Rn (zcs c0 at_ seed gr) (fun z=>-2200000000≤z.1∧z.1≤2200000000∧Cu code (n+4) z.2):=by
 have g1:=hg.p
 have g2:=hg.q
 unfold zcs
 refine zaf (ψ:=fun b=>b=false→3≤gr.P∧1≤gr.Q) (zao (fun _=>zab fun h=>by cases h) fun a=>zab fun b=>by simp at a b;omega) fun b hb'=>zao (fun _=>zab ⟨by show-2200000000≤(1:Int);decide,by show(1:Int)≤_;decide,h.mono (by omega)⟩) fun e=>?_
 obtain⟨k1,k2⟩:=hb' e
 refine zae (zti (by omega) (by omega)) (zaf (zuR hb h (by omega) (by omega)) fun z ⟨z1,z2,_,z3⟩=>zaf (zy3 ⟨k2,by omega⟩ (by omega) _ _) fun v hv=>zab ⟨by show _≤v;omega,by show v≤_;omega,z3⟩)
def zoN (gr:Group) (c:Cipher):Bool:=zaL gr c.A&&zaL gr c.B
theorem zur {code c0:List Int}{at_ seed n:Int}{gr:Group}{k:Nat}(hb:Bt code) (h:Cu code n (c0,at_,seed)) (hn:n≤3000000000000000) (hg:Gw gr) (hk:k≤1000):Rn (zcb c0 at_ seed gr (k:Int)) (fun z=>z.1.length≤k+1∧Cu code (n+4*k+20) z.2):=by
 unfold zcb
 refine zaf (zsz hb h (by omega) hg (by omega)) fun z ⟨z1,_,z3⟩=>?_
 refine zaf (zc5 hb z3 (by omega)) fun p ⟨_,_,_,_,p5⟩=>?_
 refine zaf (ψ:=fun v=>Sum.elim (fun x=>x.2.length≤k+1∧Cu code (n+4*k+20) x.1) (fun y=>y.1.length≤k+1∧Cu code (n+4*k+20) y.2) v) ?_ ?_
 ·refine zao (fun _=>zak (by omega) (zab ⟨by simp[z1],p5.mono (by omega)⟩)) fun _=>zao (fun _=>zao (fun g=>?_) fun _=>zab ⟨by dsimp only;omega,p5.mono (by omega)⟩) fun _=>zao (fun _=>zao (fun g=>?_) fun _=>zab ⟨by dsimp only;omega,p5.mono (by omega)⟩) fun _=>zab ⟨by dsimp only;omega,p5.mono (by omega)⟩
  ·have g:0<(k:Int):=by simpa using g
   exact zak (by omega) (zab ⟨by simp[z1];omega,p5.mono (by omega)⟩)
  have g:0<(k:Int):=by simpa using g
  refine zaf (zc5 hb p5 (by omega)) fun q ⟨q1,q2,q3,_,q5⟩=>?_
  refine zaf (zh3 hb q5 (by omega) (by simp)) fun w ⟨_,w2⟩=>?_
  obtain⟨j,hj⟩:=Int.eq_ofNat_of_zero_le q1
  have hlt:j<z.1.length:=by
   rcases Nat.lt_or_ge 1 k with h|h
   ·have:=q3 (by omega);omega
   ·have:=q2 (by omega);omega
  rw[hj]
  exact za6 hlt (zab ⟨by show(z.1.set _ _).length≤_;rw[List.length_set];omega,w2.mono (by omega)⟩)
 rintro(x|y) hx
 ·exact zab hx
 exact zab hx
def byL (s:ByteArray):List Int:=s.data.toList.map fun b=>(b.toNat:Int)
theorem zih (s:ByteArray):(byL s).length=s.size:=by
 show(s.data.toList.map _).length=s.data.size
 rw[List.length_map,Array.length_toList]
theorem zvL (s:ByteArray):∀x∈byL s,0≤x∧x≤255:=by
 intro x hx
 obtain⟨b,_,rfl⟩:=List.mem_map.1 hx
 have:=b.toNat_lt
 omega
theorem zzB {s:ByteArray}{k:Nat}(h:k<s.size):ixs s (k:Int)=some ((byL s)[k]'(by rw[zih];exact h)):=by
 have h2:k<s.data.size:=h
 simp[ixs,byL,h]
 rfl
theorem zvE (s:ByteArray) (l:List Int) (hs:s.size≤1000000) (hl:l.length≤1000000000000):zf8 s l=some ((s.size:Int)::byL s++l):=by
 unfold zf8
 refine zal (zaf (ψ:=fun x=>x=(s.size:Int)::byL s) (zie s.size (fun n p=>n≤s.size∧p=((s.size:Int)::(byL s).take n,(n:Int))) ⟨by omega,by simp⟩ ?_ ?_) ?_)
 ·rintro n p hn ⟨_,rfl⟩
  have hn2:n<(byL s).length:=by rw[zih];exact hn
  have hb:=zvL s _ (List.getElem_mem hn2)
  refine zao (fun _=>?_) fun h=>absurd h (by simp;omega)
  refine zae (zzB hn) (zak ?_ (zab ⟨by omega,?_⟩))
  ·simp only[List.length_cons,List.length_take,zih];omega
  show((s.size:Int)::(byL s).take n++[_],_)=_
  rw[zai (by omega) (by omega),zai (by omega) (by omega),List.cons_append,List.take_append_getElem hn2]
  rfl
 ·rintro p ⟨_,rfl⟩
  refine zao (fun h=>absurd h (by simp)) fun _=>zab ?_
  show(s.size:Int)::(byL s).take s.size=_
  rw[List.take_of_length_le (by rw[zih];omega)]
 rintro _ rfl
 refine zak ?_ (zab rfl)
 simp only[List.length_cons,zih];omega
theorem ztQ (s:ByteArray) (l:List Int) (hs:s.size≤1000000) (hl:l.length≤1000000000000):zgn s l=some ((s.size:Int)::byL s++l):=zvE s l hs hl
def za8 (x:Int):Bool:=decide (0≤x)&&decide (x≤4611686018427387903)
theorem zdt {x:Int}:za8 x=true↔0≤x∧x≤4611686018427387903:=by simp[za8]
theorem zhL (x:Int):zek x=some (za8 x):=by
 unfold zek
 rw[zdH];rfl
theorem zuA (x:Int):zfm x=some (za8 x):=by
 unfold zfm
 rw[zg0];rfl
theorem zyC (s:ByteArray):(byL s).all za8=true:=by
 rw[List.all_eq_true]
 intro x hx
 have:=zvL s x hx
 exact zdt.2 ⟨by omega,by omega⟩
def hs1 (c s k:Int):Int:=(c*s+k+1)%2147483647
def zjD (p:Int×Int) (x:Int):Int×Int:=(hs1 48271 (hs1 48271 p.1 (x%2147483648)) (x/2147483648),hs1 69621 (hs1 69621 p.2 (x%2147483648)) (x/2147483648))
def zmO (l:List Int):Int:=let p:=(((l.length:Int)::l).foldl zjD (1,2));p.1*2147483648+p.2
theorem zkt (c s k:Int):0≤hs1 c s k∧hs1 c s k≤2147483646:=by unfold hs1;omega
theorem zir {c s k:Int}(hc:c=48271∨c=69621) (hs:0≤s∧s≤2147483646) (hk:0≤k∧k≤2147483648):(IntKind.i64.wrap ((IntKind.i64.wrap ((IntKind.i64.wrap (c*s))+k))+1)).tmod 2147483647=hs1 c s k:=by
 rcases hc with rfl|rfl
 ·rw[zai (n:=48271*s) (by omega) (by omega),zai (n:=48271*s+k) (by omega) (by omega),zai (by omega) (by omega),Int.tmod_eq_emod_of_nonneg (by omega)];rfl
 rw[zai (n:=69621*s) (by omega) (by omega),zai (n:=69621*s+k) (by omega) (by omega),zai (by omega) (by omega),Int.tmod_eq_emod_of_nonneg (by omega)];rfl
def okP (p:Int×Int):Prop:=(0≤p.1∧p.1≤2147483646)∧(0≤p.2∧p.2≤2147483646)
theorem zyS (p:Int×Int) (x:Int):okP (zjD p x):=⟨zkt _ _ _,zkt _ _ _⟩
theorem zjg:∀(l:List Int) (p:Int×Int),okP p→okP (l.foldl zjD p)
 |[],_,h=>h
 |x::l,p,_=>zjg l _ (zyS p x)
theorem zwd (l:List Int):za8 (zmO l)=true:=by
 obtain⟨h1,h2⟩:=zjg ((l.length:Int)::l) (1,2) ⟨by decide,by decide⟩
 refine zdt.2 ?_
 unfold zmO
 dsimp only
 omega
theorem zqN {p:Int×Int}{x:Int}(hp:okP p) (hx:za8 x=true):zbH p.1 p.2 x=some (zjD p x):=by
 obtain⟨h1,h2⟩:=hp
 have hx:=zdt.1 hx
 have e1:x.tmod 2147483648=x%2147483648:=Int.tmod_eq_emod_of_nonneg hx.1
 have e2:IntKind.i64.wrap (x.tdiv 2147483648)=x/2147483648:=by
  rw[Int.tdiv_eq_ediv_of_nonneg hx.1,zai (by omega) (by omega)]
 have b1:0≤x%2147483648∧x%2147483648≤2147483648:=by omega
 have b2:0≤x/2147483648∧x/2147483648≤2147483648:=by omega
 have h0:ix [x%2147483648,x/2147483648] 0=some (x%2147483648):=rfl
 have h1':ix [x%2147483648,x/2147483648] 1=some (x/2147483648):=rfl
 unfold zbH
 rw[e1,e2,Option.bind_some,zlc]
 simp only[List.length_cons,List.length_nil,show decide ((0:Int)<((0+1+1:Nat):Int))=true from rfl,if_true,h0,Option.bind_some,zir (.inl rfl) h1 b1,zir (.inr rfl) h2 b1]
 rw[zlc]
 simp only[show IntKind.i64.wrap (0+1)=1 from rfl,show decide ((1:Int)<((0+1+1:Nat):Int))=true from rfl,if_true,h1',Option.bind_some,zir (.inl rfl) (zkt _ _ _) b2,zir (.inr rfl) (zkt _ _ _) b2]
 rw[zlc]
 simp only[show IntKind.i64.wrap (1+1)=2 from rfl,show decide ((2:Int)<((0+1+1:Nat):Int))=false from rfl,Bool.false_eq_true,if_false,Option.bind_some]
 rfl
theorem zsB {l:List Int}(h:l.all za8=true) {k:Nat}(hk:k<l.length):za8 l[k]=true:=List.all_eq_true.1 h _ (List.getElem_mem hk)
theorem zsM {l:List Int}(hl:l.length≤1000000000000) (hd:l.all za8=true):zfC l=some (zmO l):=by
 unfold zfC
 have e0:=zqN (p:=(1,2)) (x:=(l.length:Int)) ⟨by decide,by decide⟩ (zdt.2 ⟨by omega,by omega⟩)
 refine zal (zae e0 (zaf (ψ:=fun p=>p=((l.length:Int)::l).foldl zjD (1,2)) (zbi (fun n p=>p=((l.length:Int)::l.take n).foldl zjD (1,2)) rfl ?_ ?_) ?_))
 ·rintro n p hn rfl
  refine za6 hn (zae (zqN (zjg _ _ ⟨by decide,by decide⟩) (zsB hd hn)) (zab ?_))
  show zjD _ _=_
  rw[←List.take_append_getElem hn,←List.cons_append,List.foldl_append]
  rfl
 ·rintro p rfl
  show(((l.length:Int)::l.take l.length).foldl zjD (1,2))=_
  rw[List.take_length]
 rintro p rfl
 obtain⟨h1,h2⟩:=zjg ((l.length:Int)::l) (1,2) ⟨by decide,by decide⟩
 refine zab ?_
 rw[zai (n:=_*2147483648) (by omega) (by omega),zai (by omega) (by omega)]
 rfl
theorem zxk {x:Int}(hx:za8 x=true):IntKind.i64.wrap (BitVec.ofInt IntKind.i64.bits x&&&BitVec.ofInt IntKind.i64.bits 2147483647).toNat=x%2147483648:=by
 have hx:=zdt.1 hx
 obtain⟨n,rfl⟩:=Int.eq_ofNat_of_zero_le hx.1
 have h1:(BitVec.ofInt IntKind.i64.bits ((n:Nat):Int)&&&BitVec.ofInt IntKind.i64.bits 2147483647).toNat=n%2147483648:=by
  rw[BitVec.toNat_and]
  have a1:(BitVec.ofInt IntKind.i64.bits (n:Int)).toNat=n:=by
   rw[BitVec.toNat_ofInt]
   have:IntKind.i64.bits=64:=rfl
   rw[this]
   omega
  have a2:(BitVec.ofInt IntKind.i64.bits 2147483647).toNat=2^31-1:=by decide
  rw[a1,a2,Nat.and_two_pow_sub_one_eq_mod]
 rw[h1,zai (by omega) (by omega)]
 omega
theorem zA1 {l:List Int}(hl:l.length≤1000000000000) (hd:l.all za8=true):zg4 l=some (zmO l):=by
 unfold zg4
 have hd2:((l.length:Int)::l).all za8=true:=by
  rw[List.all_cons,hd,Bool.and_true]
  exact zdt.2 ⟨by omega,by omega⟩
 refine zal (zak (by simp only[List.length_cons,List.length_nil];omega) (zae rfl (zaf (ψ:=fun p=>p=((l.length:Int)::l).foldl zjD (1,2)) (zbi (fun n p=>p=(((l.length:Int)::l).take n).foldl zjD (1,2)) rfl ?_ ?_) ?_)))
 ·rintro n p hn rfl
  have ok:=zjg ((((l.length:Int)::l)).take n) (1,2) ⟨by decide,by decide⟩
  have dg:=zsB hd2 hn
  have b:=zdt.1 dg
  have ef:(((l.length:Int)::l)[n]).fdiv 2147483648=((l.length:Int)::l)[n]/2147483648:=Int.fdiv_eq_ediv_of_nonneg _ (by omega)
  have hn':n<((l.length:Int)::l).length:=hn
  refine za6 hn (zab ?_)
  show(_,_)=_
  simp only[List.singleton_append]
  rw[zxk dg,ef,zir (.inl rfl) ok.1 (by omega),zir (.inr rfl) ok.2 (by omega),zir (.inl rfl) (zkt _ _ _) (by omega),zir (.inr rfl) (zkt _ _ _) (by omega),
   ←List.take_append_getElem hn',List.foldl_append]
  rfl
 ·rintro p rfl
  show((((l.length:Int)::l).take ([(l.length:Int)]++l).length).foldl zjD (1,2))=_
  rw[List.singleton_append,List.take_length]
 rintro p rfl
 obtain⟨h1,h2⟩:=zjg ((l.length:Int)::l) (1,2) ⟨by decide,by decide⟩
 refine zab ?_
 rw[zai (n:=_*2147483648) (by omega) (by omega),zai (by omega) (by omega)]
 rfl
def zj9 (s:ByteArray) (l:List Int):Int:=zmO ((s.size:Int)::byL s++l)
theorem zif (s:ByteArray) (l:List Int):za8 (zj9 s l)=true:=zwd _
def zhd (s:ByteArray) (l:List Int):Bool:=decide (s.size≤40)&&decide (1+s.size+l.length≤400)&&l.all za8
theorem ztk {s:ByteArray}{l:List Int}(hs:s.size≤1000000):((s.size:Int)::byL s++l).all za8=l.all za8:=by
 rw[List.cons_append,List.all_cons,List.all_append,zyC,zdt.2 ⟨by omega,by omega⟩,Bool.true_and,Bool.true_and]
theorem ziq {s:ByteArray}{l:List Int}(hs:s.size≤1000000) (hl:l.length≤100000000000) (hd:l.all za8=true):zdf s l=some (zj9 s l):=by
 unfold zdf
 rw[zvE s l hs (by omega),Option.bind_some,zsM (by simp[zih];omega) (by rw[ztk hs];exact hd)]
 rfl
theorem zqS (l:List Int):zeA l=some (decide (l.length≤400)&&l.all za8):=by
 unfold zeA
 have h1:za0 l=some (l.all za8):=zgI (f:=zaF) fun x _=>by
  unfold zaF
  rw[zhL];rfl
 rw[h1]
 by_cases h:l.length≤400
 ·rw[if_pos (by simp;omega)];simp[h]
 rw[if_neg (by simp;omega)];simp[h]
theorem ztx (l:List Int):zfl l=some (if(decide (l.length≤400)&&l.all za8)=true then(zmO l,true)else(0,false)):=by
 unfold zfl
 rw[zqS,Option.bind_some]
 cases h:(decide (l.length≤400)&&l.all za8)with
 |true=>
  simp only[Bool.and_eq_true,decide_eq_true_eq]at h
  rw[zA1 (by omega) h.2];rfl
 |false=>rfl
theorem zh7 (s:ByteArray) (l:List Int):zcp s l=some (if zhd s l=true then(zj9 s l,true)else(0,false)):=by
 unfold zcp
 by_cases h1:s.size≤40
 ·by_cases h2:l.length≤400
  ·rw[if_neg (by simp;omega),Option.bind_some,if_neg (by simp;omega),ztQ s l (by omega) (by omega),Option.bind_some,ztx,ztk (by omega)]
   have e:((s.size:Int)::byL s++l).length=1+s.size+l.length:=by simp[zih];omega
   rw[e]
   have e2:zhd s l=(decide (1+s.size+l.length≤400)&&l.all za8):=by simp[zhd,h1]
   rw[e2]
   cases decide (1+s.size+l.length≤400)<;>cases l.all za8<;>rfl
  rw[if_neg (by simp;omega),Option.bind_some,if_pos (by simp;omega)]
  have:zhd s l=false:=by
   have:¬1+s.size+l.length≤400:=by omega
   simp[zhd,this]
  rw[this];rfl
 rw[if_pos (by simp;omega),Option.bind_some,if_pos rfl]
 have:zhd s l=false:=by simp[zhd,h1]
 rw[this];rfl
theorem ceq {n:Int}{k:Nat}(h:n=(k:Int)) (hk:k≤4194304):IntKind.i64.wrap n=(k:Int):=by rw[zai (by omega) (by omega),h]
theorem zvt {α β γ:Type}{l:List α}{f:α→β}{body:Int→List β→Option (Stp (List β) γ)}{stop:List β→γ}(a0:List β) (hs:∀k (h:k<l.length) (s:List β),s.length=a0.length+k→body (k:Int) s=some (.go (s++[f l[k]]))):
 zap body stop l.length 0 a0=some (stop (a0++l.map f)):=by
 refine zal (zbi (fun k s=>s=a0++(l.take k).map f∧k≤l.length) ⟨by simp,by omega⟩ ?_ ?_)
 ·rintro k s hk ⟨rfl,_⟩
  refine⟨_,hs k hk _ (by simp;omega),?_,hk⟩
  rw[List.take_succ_eq_append_getElem hk,List.map_append,List.append_assoc];rfl
 rintro s ⟨rfl,_⟩
 simp
structure OkC (ct:Contest):Prop where
 lo:0≤ct.Least∧ct.Least≤ct.Most
 k:((ct.Kind=1∨ct.Kind=3)∧(1≤ct.Options∧ct.Options≤8)∧ct.Most≤ct.Options∧ct.Points=0)∨(ct.Kind=2∧(1≤ct.Options∧ct.Options≤8)∧(1≤ct.Points∧ct.Points≤5)∧ct.Most≤ct.Options*ct.Points)∨(ct.Kind=4∧ct.Options=0∧ct.Most≤5∧ct.Points=0)
open Classical in
def okC (ct:Contest):Bool:=decide (OkC ct)
theorem zp1 {ct:Contest}:okC ct=true↔OkC ct:=by simp[okC]
theorem ztE {a b:Int}(h:1≤a∧a≤8) (h2:1≤b∧b≤5):1≤a*b∧a*b≤40:=by
 have h3:a*b≤8*5:=Int.mul_le_mul h.2 h2.2 (by omega) (by omega)
 have h4:1*1≤a*b:=Int.mul_le_mul h.1 h2.1 (by omega) (by omega)
 omega
theorem zjs (ct:Contest):zcA ct=some (okC ct):=by
 have e:∀b:Bool,(b=true↔OkC ct)→b=okC ct:=fun b h=>by
  rw[Bool.eq_iff_iff,h,zp1]
 have f:¬OkC ct→okC ct=false:=fun h=>by simp[okC,h]
 unfold zcA
 simp only[zdH,Option.bind_some]
 by_cases l1:ct.Least<0
 ·simp[l1];exact f fun h=>by have:=h.lo;omega
 by_cases l2:ct.Most<ct.Least
 ·simp[l1,l2];exact f fun h=>by have:=h.lo;omega
 simp only[l1,l2,decide_false,Bool.false_eq_true,if_false,Option.bind_some]
 by_cases k13:ct.Kind=1∨ct.Kind=3
 ·have:(if(ct.Kind==1)=true then some (ct.Kind==1)else some (ct.Kind==3))=some true:=by
   rcases k13 with h|h<;>simp[h]
  rw[this,Option.bind_some,if_pos rfl]
  by_cases o:1≤ct.Options∧ct.Options≤8
  ·by_cases m:ct.Most≤ct.Options
   ·simp[o,m]
    refine e _ ⟨fun h=>⟨by omega,.inl ⟨k13,o,m,by simpa using h⟩⟩,fun h=>?_⟩
    rcases h.k with h|h|h
    ·simp[h.2.2.2]
    ·omega
    omega
   simp[o,m]
   exact f fun h=>by rcases h.k with h|h|h<;>omega
  have:(decide (1≤ct.Options)&&decide (ct.Options≤8))=false:=by simp;omega
  rw[this];simp
  exact f fun h=>by rcases h.k with h|h|h<;>omega
 have:(if(ct.Kind==1)=true then some (ct.Kind==1)else some (ct.Kind==3))=some false:=by
  simp only[not_or]at k13;simp[k13]
 rw[this,Option.bind_some,if_neg (by simp)]
 by_cases k2:ct.Kind=2
 ·simp only[k2]
  by_cases o:1≤ct.Options∧ct.Options≤8
  ·by_cases p:1≤ct.Points∧ct.Points≤5
   ·have b:=ztE o p
    simp only[o,p]
    simp[zai (n:=ct.Options*ct.Points) (by omega) (by omega)]
    refine e _ ⟨fun h=>⟨by omega,.inr (.inl ⟨k2,o,p,by simpa using h⟩)⟩,fun h=>?_⟩
    rcases h.k with h|h|h
    ·omega
    ·simpa using h.2.2.2
    omega
   have:(decide (1≤ct.Points)&&decide (ct.Points≤5))=false:=by simp;omega
   rw[this];simp[o]
   exact f fun h=>by rcases h.k with h|h|h<;>omega
  have:(decide (1≤ct.Options)&&decide (ct.Options≤8))=false:=by simp;omega
  rw[this];simp
  exact f fun h=>by rcases h.k with h|h|h<;>omega
 have k2':(ct.Kind==2)=false:=by simpa using k2
 simp only[k2',Bool.false_eq_true,if_false]
 by_cases k4:ct.Kind=4
 ·have k4':(ct.Kind==4)=true:=by simpa using k4
  simp only[k4',if_true]
  by_cases o:ct.Options=0
  ·by_cases m:ct.Most≤5
   ·simp[o,m]
    refine e _ ⟨fun h=>⟨by omega,.inr (.inr ⟨k4,o,m,by simpa using h⟩)⟩,fun h=>?_⟩
    rcases h.k with h|h|h
    ·omega
    ·omega
    simp[h.2.2.2]
   simp[o,m]
   exact f fun h=>by rcases h.k with h|h|h<;>omega
  simp[o]
  exact f fun h=>by rcases h.k with h|h|h<;>omega
 have k4':(ct.Kind==4)=false:=by simpa using k4
 simp only[k4',Bool.false_eq_true,if_false]
 rw[f fun h=>by rcases h.k with h|h|h<;>omega]
theorem zn8 (ct:Contest):zff ct=some (okC ct):=by
 rw[←zjs]
 unfold zff zcA
 simp only[zdH,zg0,Option.bind_some]
 cases h:ct.Kind==4<;>simp
theorem zA7 {γ:Type}{m:Nat}(p:Nat→Bool) (c d:γ) {body:Int→Unit→Option (Stp Unit (Unit ⊕ γ))}(h:∀k,k<m→body (k:Int) ()=some (if p k=true then .go ()else .out (.inr c))):
 (zap body (fun _=>.inl ()) m 0 ()).bind (Sum.elim (fun _=>some d) some)=some (if(List.range m).all p=true then d else c):=by
 rcases zji (body:=body) m p (fun _=>c) h with⟨e,h1⟩|⟨k,h1,h2,h3,e⟩
 ·have:(List.range m).all p=true:=by
   rw[List.all_eq_true];intro x hx;exact h1 x (List.mem_range.1 hx)
  rw[e,this];rfl
 have:(List.range m).all p=false:=by
  rw[List.all_eq_false];exact⟨k,List.mem_range.2 h1,by simp[h2]⟩
 rw[e,this];rfl
theorem zzP {α:Type}{l:List α}{p:α→Bool}{f:α→Option Bool}(hf:∀x∈l,f x=some (p x)):
 ((((zap (σ:=Unit) (β:=Unit ⊕ Int) (fun i8 s7=>(ix l i8).bind fun x17=>(f x17).bind fun z20=>if z20=true then(some (.out (.inr i8)))else(some (.go ()))) (fun s7=>.inl ()) (l.length) 0 ():Option (Unit ⊕ Int)).bind (Sum.elim (fun(x5:Unit)=>some (-1)) some)).bind fun z1=>some (decide (0≤z1))))=some (l.any p):=by
 rcases zji l.length (fun k=> !(l[k]?).any p) (fun k=>(k:Int)) (body:=fun i8 s7=>(ix l i8).bind fun x17=>(f x17).bind fun z20=>if z20=true then(some (.out (.inr i8)))else(some (.go ()))) (fun k hk=>by
  rw[zeG hk,Option.bind_some,hf _ (List.getElem_mem hk),Option.bind_some,List.getElem?_eq_getElem hk]
  cases h:p l[k]<;>simp[h])with⟨e,h1⟩|⟨k,h1,h2,h3,e⟩
 ·rw[e]
  have:l.any p=false:=by
   rw[List.any_eq_false]
   intro x hx
   obtain⟨k,hk,rfl⟩:=List.mem_iff_getElem.1 hx
   have:=h1 k hk
   rw[List.getElem?_eq_getElem hk]at this
   simpa using this
  rw[this];rfl
 rw[e]
 have:l.any p=true:=by
  rw[List.any_eq_true]
  refine⟨l[k],List.getElem_mem h1,?_⟩
  rw[List.getElem?_eq_getElem h1]at h2
  simpa using h2
 rw[this]
 simp
def inB (a b x:Int):Bool:=decide (a≤x)&&decide (x≤b)
theorem zcM {a b x:Int}:inB a b x=true↔a≤x∧x≤b:=by simp[inB]
theorem zyi (l:List Int) (k o a b p:Int):zbI l k o a b p=some (l.all (inB 0 p)):=zgI (f:=fun x=>zbf x k o a b p) fun x _=>by
 unfold zbf zdF
 rw[zdH];rfl
theorem zy8 (l:List Int) (a b:Int):zbJ l a b=some (l.all (inB a b)):=zgI (f:=fun x=>zbg x a b) fun x _=>by
 unfold zbg zdB
 rw[zdH];rfl
theorem zu4 {R:Int→Int→Prop}(tr:∀a b c,R a b→R b c→R a c) {l:List Int}(h:∀i (h:i+1<l.length),R l[i] l[i+1]):l.Pairwise R:=by
 rw[List.pairwise_iff_getElem]
 intro i j hi hj hij
 obtain⟨d,rfl⟩:∃d,j=i+1+d:=⟨j-(i+1),by omega⟩
 induction d with
 |zero=>exact h i hj
 |succ d ih=>exact tr _ _ _ (ih (by omega) (by omega)) (h (i+1+d) hj)
open Classical in
def zk8 (l:List Int):Bool:=decide (l.Pairwise (·≤ ·))
theorem ztt {l:List Int}(hl:l.length≤1048576):zcv l=some (zk8 l):=by
 unfold zcv
 have cl:∀a b:Int,zfA a b=some (decide (a<b)):=fun a b=>by
  unfold zfA zfg
  simp
 refine zal (zaf (ψ:=fun x=>(x=.inl ()∧zk8 l=true)∨(x=.inr false∧zk8 l=false)) (zdg (fun s=>s<l.length∧(-1≤s)∧∀i (h:i+1<l.length),s≤i→l[i]≤l[i+1]) (fun s=>s.toNat) ?_ ?_) ?_)
 ·rw[zai (by omega) (by omega)];exact⟨by omega,by omega,fun i h1 h2=>by omega⟩
 ·rintro s ⟨h1,h0,h2⟩
  refine zao (fun h=>?_) fun h=>zab (.inl ⟨rfl,?_⟩)
  ·have h:0<s:=by simpa using h
   obtain⟨k,rfl⟩:∃k:Nat,s=((k+1:Nat):Int):=⟨(s-1).toNat,by omega⟩
   have e:IntKind.i64.wrap (((k+1:Nat):Int)-1)=(k:Int):=ceq (by omega) (by omega)
   refine za6 (by omega) ?_
   rw[e]
   refine za6 (by omega) (zae (cl _ _) (zao (fun h=>zab (.inr ⟨rfl,?_⟩)) fun h=>zab ⟨⟨by omega,by omega,fun i hi h3=>?_⟩,by omega⟩))
   ·unfold zk8
    rw[decide_eq_false_iff_not,List.pairwise_iff_getElem]
    intro hp
    have:=hp k (k+1) (by omega) (by omega) (by omega)
    simp at h;omega
   rcases Nat.lt_or_ge k i with h4|h4
   ·exact h2 i hi (by omega)
   have:i=k:=by omega
   subst this
   simpa using h
  have h:¬0<s:=by simpa using h
  unfold zk8
  rw[decide_eq_true_eq]
  exact zu4 (R:=(·≤ ·)) (fun a b c h1 h2=>Int.le_trans h1 h2) fun i hi=>h2 i hi (by omega)
 rintro x (⟨rfl,h⟩|⟨rfl,h⟩)<;>exact zab h.symm
open Classical in
theorem zxm (l:List Int):l.Pairwise (· < ·)↔(zk8 l&&ziH l)=true:=by
 unfold zk8 ziH
 simp only[Bool.and_eq_true,decide_eq_true_eq,List.nodup_iff_pairwise_ne]
 rw[←List.pairwise_and_iff]
 constructor<;>intro h<;>exact h.imp fun h=>by omega
theorem zAH {l:List Int}(hl:l.length≤1048576) (a b:Int):zfo l a b=some (l.all (inB a b)&&(zk8 l&&ziH l)):=by
 unfold zfo
 rw[zA7 (fun k=>(l[k]?).any (inB a b)&&(decide (k=0)||decide (l.getD (k-1) 0<l.getD k 0))) false true]
 ·congr 1
  rw[Bool.eq_iff_iff,Bool.and_eq_true (l.all (inB a b)),←zxm]
  simp only[Bool.if_false_right,Bool.and_true,Bool.if_true_left,Bool.or_false,Bool.decide_eq_true,decide_eq_true_eq,List.all_eq_true,List.mem_range,Bool.and_eq_true,Bool.or_eq_true]
  constructor
  ·refine fun h=>⟨fun x hx=>?_,zu4 (R:=(· < ·)) (fun a b c h1 h2=>Int.lt_trans h1 h2) fun i hi=>?_⟩
   ·obtain⟨k,hk,rfl⟩:=List.mem_iff_getElem.1 hx
    have:=(h k hk).1
    rwa [List.getElem?_eq_getElem hk]at this
   have:=(h (i+1) hi).2
   have h1:i<l.length:=by omega
   simp[hi,h1]at this
   exact this
  refine fun h k hk=>⟨?_,?_⟩
  ·rw[List.getElem?_eq_getElem hk];exact h.1 _ (List.getElem_mem hk)
  rcases Nat.eq_zero_or_pos k with h0|h0
  ·exact .inl h0
  right
  have h1:k-1<l.length:=by omega
  simp[hk,h1]
  exact List.pairwise_iff_getElem.1 h.2 _ _ _ _ (by omega)
 intro k hk
 rw[zeG hk,Option.bind_some,zg0,Option.bind_some,List.getElem?_eq_getElem hk,Option.any_some]
 show((if(!inB a b l[k])=true then _ else _:Option Bool).bind _)=_
 cases h:inB a b l[k]with
 |false=>simp
 |true=>
  rcases Nat.eq_zero_or_pos k with h0|h0
  ·subst h0;simp
  ·have e:IntKind.i64.wrap ((k:Int)-1)=((k-1:Nat):Int):=ceq (by omega) (by omega)
   have h1:k-1<l.length:=by omega
   have h2:¬k=0:=by omega
   rw[e,zeG h1]
   by_cases h3:l[k]≤l[k-1]
   ·have:¬l[k-1]<l[k]:=by omega
    simp[h0,hk,h1,h2,h3,this]
   ·have:l[k-1]<l[k]:=by omega
    simp[h0,hk,h1,h2,h3,this]
theorem zja (a b:Bool):(if a=true then some b else some false)=some (a&&b):=by cases a<;>rfl
theorem ziB (a b:Bool):(if a=true then some true else some b)=some (a||b):=by cases a<;>rfl
theorem zz6 (l:List Int) (a b:Int):zb9 l a b=some (l.all (inB a b)):=zkO l a b
theorem zuJ (x a b:Int):zaX x a b=some (inB a b x):=zg0 x a b
theorem zqR (x a b:Int):zaB x a b=some (inB a b x):=zdH x a b
theorem zyJ {l:List Int}(hl:l.length≤1000000000000):zfw l=some (ziH l):=zq3 ztg l hl
theorem zs2:∀{l:List Int}{c:Int},l.all (inB 0 c)=true→0≤l.sum∧l.sum≤l.length*c
 |[],_,_=>by simp
 |x::l,c,h=>by
  rw[List.all_cons,Bool.and_eq_true]at h
  have h1:=zcM.1 h.1
  have h2:=zs2 h.2
  rw[List.sum_cons,List.length_cons]
  push_cast
  rw[Int.add_mul]
  omega
theorem zxc {α:Type}{l:List α}{p:α→Bool}(h:l.all p=true) (k:Nat):(l.take k).all p=true:=by
 rw[List.all_eq_true]at h⊢
 exact fun x hx=>h x (List.mem_of_mem_take hx)
theorem zwB {l:List Int}{k:Nat}(h:k<l.length):(l.take (k+1)).sum=(l.take k).sum+l[k]:=by
 rw[List.take_succ_eq_append_getElem h,List.sum_append];simp
theorem zrt {β:Type}{v:List Int}(hv:v.all (inB 0 5)=true) (hl:v.length≤1000) (stop:Int→β):zap (fun i s=>(ix v i).bind fun x=>some (.go (IntKind.i64.wrap (s+x)))) stop v.length 0 0=some (stop v.sum):=by
 refine zal (zbi (fun k s=>s=(v.take k).sum) (by simp) ?_ ?_)
 ·rintro k s hk rfl
  refine za6 hk (zab ?_)
  have h:=zs2 (zxc hv (k+1))
  have h2:(v.take (k+1)).length≤1000:=by simp;omega
  show IntKind.i64.wrap _=(v.take (k+1)).sum
  rw[←zwB hk,zai (by omega) (by omega)]
 rintro s rfl
 simp
def zfv (ct:Contest) (v:List Int):Bool:=
 if ct.Kind=1 then v.all (inB 0 (ct.Options-1))&&(zk8 v&&ziH v)&&inB ct.Least ct.Most v.length
 else if ct.Kind=2 then decide ((v.length:Int)=ct.Options)&&(v.all (inB 0 ct.Points)&&inB ct.Least ct.Most v.sum)
 else if ct.Kind=3 then v.all (inB 0 (ct.Options-1))&&(ziH v&&inB ct.Least ct.Most v.length)
 else v.all (inB 1 26)&&inB ct.Least ct.Most v.length
theorem zfu {l:List Int}{a b a' b':Int}(ha:a'≤a) (hb:b≤b') (h:l.all (inB a b)=true):l.all (inB a' b')=true:=by
 rw[List.all_eq_true]at h⊢
 intro x hx
 have:=zcM.1 (h x hx)
 exact zcM.2 (by omega)
theorem zzk {ct:Contest}(k:OkC ct) {v:List Int}(hl:v.length≤1048576):zgs ct v=some (zfv ct v):=by
 have w1:IntKind.i64.wrap (ct.Options-1)=ct.Options-1:=by rcases k.k with h|h|h<;>exact zai (by omega) (by omega)
 unfold zgs zfv
 simp only[zAH hl,zuJ,zz6,zyJ (l:=v) (by omega),w1,Option.bind_some,zja]
 by_cases k1:ct.Kind=1
 ·simp[k1]
 by_cases k2:ct.Kind=2
 ·simp only[k2]
  by_cases hn:(v.length:Int)=ct.Options
  ·cases ha:v.all (inB 0 ct.Points)with
   |false=>simp[hn]
   |true=>
    have hp:ct.Points≤5∧ct.Options≤8:=by rcases k.k with h|h|h<;>omega
    have e:zf5 v=some v.sum:=by
     unfold zf5
     rw[zrt (zfu (by omega) hp.1 ha) (by omega) (fun s=>s)];rfl
    simp[hn,e]
  simp[hn]
 by_cases k3:ct.Kind=3
 ·simp[k3]
 simp[k1,k2,k3]
theorem zw8 {ct:Contest}(k:OkC ct) {v:List Int}(hl:v.length≤1048576):zdm ct v=some (zfv ct v):=by
 have w1:IntKind.i64.wrap (ct.Options-1)=ct.Options-1:=by rcases k.k with h|h|h<;>exact zai (by omega) (by omega)
 unfold zdm zfv
 simp only[ztt hl,zqR,zyi,zy8,zAA v (by omega),w1,Option.bind_some,zja,ziB]
 by_cases k2:ct.Kind=2
 ·have k1:¬ct.Kind=1:=by omega
  have k3:¬ct.Kind=3:=by omega
  simp only[k2]
  by_cases hn:(v.length:Int)=ct.Options
  ·cases ha:v.all (inB 0 ct.Points)with
   |false=>simp[hn]
   |true=>
    have hp:ct.Points≤5∧ct.Options≤8:=by rcases k.k with h|h|h<;>omega
    have e:=zrt (zfu (by omega) hp.1 ha) (by omega) (fun s=>(Sum.inl (s,0,ct.Points):(Int×Int×Int) ⊕ Bool))
    simp only[hn,bne_self_eq_false,Bool.not_true,Bool.or_false,Bool.false_eq_true,if_false,beq_self_eq_true,if_true,e,Option.bind_some,Sum.elim_inl,ha]
    cases inB ct.Least ct.Most v.sum<;>simp
  have:((v.length:Int) !=ct.Options)=true:=by simpa using hn
  simp[this,hn]
 by_cases k1:ct.Kind=1
 ·simp[k1,-List.all_eq_true,-List.all_eq_false]
  cases inB ct.Least ct.Most v.length<;>cases v.all (inB 0 (ct.Options-1))<;>simp
 by_cases k3:ct.Kind=3
 ·simp[k3,-List.all_eq_true,-List.all_eq_false]
  cases inB ct.Least ct.Most v.length<;>cases v.all (inB 0 (ct.Options-1))<;>simp
 have k4:ct.Kind=4:=by rcases k.k with h|h|h<;>omega
 simp[k4,-List.all_eq_true,-List.all_eq_false]
 cases inB ct.Least ct.Most v.length<;>cases v.all (inB 1 26)<;>simp
def num (b:Int):List Int→Int
 |[]=>0
 |d::l=>num b l*b+d
theorem zvj {b:Int}(hb:0≤b∧b≤40):∀{l:List Int},l.all (inB 0 40)=true→0≤num b l∧num b l≤64^(l.length+1)
 |[],_=>by simp[num]
 |d::l,h=>by
  rw[List.all_cons,Bool.and_eq_true]at h
  have h1:=zcM.1 h.1
  have h2:=zvj hb h.2
  have h3:num b l*b≤64^(l.length+1)*40:=Int.mul_le_mul h2.2 hb.2 hb.1 (by omega)
  have h4:=Int.mul_nonneg h2.1 hb.1
  have h5:(1:Int)≤64^(l.length+1):=Int.pow_pos (by omega)
  simp only[num,List.length_cons]
  rw[Int.pow_succ (64:Int) (l.length+1)]
  omega
theorem zzg {b:Int}(hb:0≤b∧b≤40) {l:List Int}(hl:l.length≤8) (h:l.all (inB 0 40)=true):0≤num b l∧num b l≤18014398509481984:=by
 have:=zvj hb h
 have h2:(64:Nat)^(l.length+1)≤64^9:=Nat.pow_le_pow_right (by omega) (by omega)
 have h3:((64^(l.length+1):Nat):Int)=(64:Int)^(l.length+1):=Int.natCast_pow 64 _
 omega
theorem zqE {l:List Int}{b m:Int}(hb:0≤b∧b≤40) (hl:l.length≤8) (h:(l.map (· +m)).all (inB 0 40)=true) {step:Int×Int→Option (Stp (Int×Int) Int)}
 (hs:∀(k:Nat) (h:k<l.length) (a:Int),0≤a→a≤18014398509481984→step (a,(k:Int))=some (.go (a*b+(l[k]+m),(k:Int)-1))) (he:∀a,step (a,-1)=some (.out a)):
 zaQ step (0,(l.length:Int)-1)=some (num b (l.map (· +m))):=by
 refine zal (zie l.length (fun j p=>p=(num b ((l.drop (l.length-j)).map (· +m)),((l.length-j:Nat):Int)-1)∧j≤l.length) ⟨by simp[num],by omega⟩ ?_ ?_)
 ·rintro j p hj ⟨rfl,_⟩
  obtain⟨k,hk,e1,e2⟩:∃k:Nat,k<l.length∧l.length-j=k+1∧l.length-(j+1)=k:=⟨l.length-j-1,by omega,by omega,by omega⟩
  rw[e1]
  have hd:((l.drop (k+1)).map (· +m)).all (inB 0 40)=true:=by
   rw[List.all_eq_true]at h⊢
   intro x hx
   obtain⟨y,hy,rfl⟩:=List.mem_map.1 hx
   exact h _ (List.mem_map.2 ⟨y,List.mem_of_mem_drop hy,rfl⟩)
  have bd:=zzg hb (by simp;omega) hd
  refine⟨.go (num b ((l.drop (k+1)).map (· +m))*b+(l[k]+m),(k:Int)-1),by rw[show((k+1:Nat):Int)-1=(k:Int)by omega];exact hs k hk _ bd.1 bd.2,?_,hj⟩
  rw[e2,List.drop_eq_getElem_cons hk]
  rfl
 rintro p ⟨rfl,_⟩
 refine⟨.out (num b (l.map (· +m))),?_,rfl⟩
 rw[Nat.sub_self,List.drop_zero]
 exact he _
theorem zva {l:List Int}{m a b:Int}(h:(l.map (· +m)).all (inB a b)=true) {k:Nat}(hk:k<l.length):a≤l[k]+m∧l[k]+m≤b:=by
 rw[List.all_eq_true]at h
 exact zcM.1 (h _ (List.mem_map.2 ⟨l[k],List.getElem_mem hk,rfl⟩))
theorem zfP {l:List Int}{b m:Int}(hb:0≤b∧b≤40) (hm:0≤m∧m≤1) (hl:l.length≤8) (h:(l.map (· +m)).all (inB 0 40)=true):zdu l b m=some (num b (l.map (· +m))):=by
 unfold zdu
 rw[zai (n:=(l.length:Int)-1) (by omega) (by omega),zqE hb hl h,Option.bind_some]
 ·intro k hk a h0 h1
  have h2:a*b≤18014398509481984*40:=Int.mul_le_mul h1 hb.2 hb.1 (by omega)
  have h3:=Int.mul_nonneg h0 hb.1
  have h4:=zva h hk
  rw[if_pos (by simp),zeG hk,Option.bind_some,zai (n:=a*b) (by omega) (by omega),zai (n:=a*b+l[k]) (by omega) (by omega),zai (n:=a*b+l[k]+m) (by omega) (by omega),zai (n:=(k:Int)-1) (by omega) (by omega),Int.add_assoc]
 intro a;rfl
theorem zjz {l:List Int}{b:Int}(hb:0≤b∧b≤40) (hl:l.length≤8) (h:l.all (inB 0 40)=true):ze9 l b=some (num b l):=by
 have e:l.map (· +0)=l:=by simp
 unfold ze9
 rw[zai (n:=(l.length:Int)-1) (by omega) (by omega),zqE (m:=0) hb hl (by rw[e];exact h),Option.bind_some,e]
 ·intro k hk a h0 h1
  have h2:a*b≤18014398509481984*40:=Int.mul_le_mul h1 hb.2 hb.1 (by omega)
  have h3:=Int.mul_nonneg h0 hb.1
  have h4:=zva (m:=0) (by rw[e];exact h) hk
  rw[if_pos (by simp),zeG hk,Option.bind_some,zai (n:=a*b) (by omega) (by omega),zai (n:=a*b+l[k]) (by omega) (by omega),zai (n:=(k:Int)-1) (by omega) (by omega),Int.add_zero]
 intro a;rfl
def ze5 (n:Nat) (v:List Int):List Int:=(List.range n).map fun(i:Nat)=>if v.contains (i:Int)=true then 1 else 0
theorem ziw (n:Nat) (v:List Int):(ze5 n v).length=n:=by simp[ze5]
theorem zk6 {ct:Contest}(ho:0≤ct.Options∧ct.Options≤8) {v:List Int}(h:v.all (inB 0 (ct.Options-1))=true):zeu ct v=some (ze5 ct.Options.toNat v):=by
 unfold zeu
 refine zal (zak (by omega) (zae rfl (zaf (ψ:=fun b=>b=_) (zbi (fun k s=>s=ze5 ct.Options.toNat (v.take k)) ?_ ?_ ?_) fun b hb=>zab hb)))
 ·simp[ze5,List.map_const']
 ·rintro k s hk rfl
  have hv:=zcM.1 (List.all_eq_true.1 h _ (List.getElem_mem hk))
  obtain⟨x,hx⟩:∃x:Nat,v[k]=(x:Int):=⟨v[k].toNat,by omega⟩
  refine za6 hk ?_
  rw[hx]
  refine za6 (by rw[ziw];omega) (zab ?_)
  show(ze5 _ (v.take k)).set x 1=ze5 _ (v.take (k+1))
  rw[List.take_succ_eq_append_getElem hk]
  apply List.ext_getElem (by simp[ziw])
  intro i hi hi2
  rw[List.getElem_set]
  simp only[ze5,List.getElem_map,List.getElem_range,List.contains_eq_mem,List.mem_append,List.mem_singleton,decide_eq_true_eq]
  by_cases e:x=i
  ·subst e;simp[hx]
  have:¬(i:Int)=v[k]:=by omega
  simp[e,this]
 rintro s rfl
 rw[List.take_length]
theorem zts (ct:Contest) (v:List Int):zed ct v=zeu ct v:=rfl
def rng (a:Int) (n:Nat):List Int:=(List.range n).map fun(i:Nat)=>a+(i:Int)
theorem ztf (a:Int) (n:Nat):(rng a n).length=n:=by simp[rng]
theorem ztd {a x:Int}{n:Nat}:x∈rng a n↔a≤x∧x<a+n:=by
 simp only[rng,List.mem_map,List.mem_range]
 constructor
 ·rintro⟨i,hi,rfl⟩;omega
 exact fun h=>⟨(x-a).toNat,by omega,by omega⟩
theorem zta {a b c:Int}{n:Nat}(h1:b≤a) (h2:a+n-1≤c):(rng a n).all (inB b c)=true:=by
 rw[List.all_eq_true]
 intro x hx
 have:=ztd.1 hx
 exact zcM.2 (by omega)
theorem zow {β:Type}{step:List Int×Int→Option (Stp (List Int×Int) β)}{f:Nat→Int}{out:List Int→β}{a:Int}(n:Nat) (hs:∀(k:Nat) (s:List Int),k<n→s.length=k→step (s,a+(k:Int))=some (.go (s++[f k],a+(k:Int)+1))) (he:∀s,step (s,a+(n:Int))=some (.out (out s))):
 zaQ step ([],a)=some (out ((List.range n).map f)):=by
 refine zal (zie n (fun k p=>p=((List.range k).map f,a+(k:Int))) (by simp) ?_ ?_)
 ·rintro k p hk rfl
  refine⟨_,hs k _ hk (by simp),?_⟩
  show(_,_)=_
  rw[List.range_succ,List.map_append]
  have e:a+(k:Int)+1=a+((k+1:Nat):Int):=by omega
  rw[e];rfl
 rintro p rfl
 exact⟨_,he _,rfl⟩
theorem zAv {step:List Int×Int×Int→Option (Stp (List Int×Int×Int) (List Int))}{n:Nat}{m:Int}(hn:n≤8) (p:Int) (hp:0≤p∧p≤5) (hm:0≤m)
 (hs:∀(k:Nat) (s:List Int) (r:Int),k<n→s.length=n→0≤r→r≤m→step (s,r,(k:Int))=some (.go (s.set k (if p<r then p else r),r-(if p<r then p else r),(k:Int)-1))) (he:∀s r,step (s,r,-1)=some (.out s)):
 ∃l,zaQ step (List.replicate n 0,m,(n:Int)-1)=some l∧l.length=n∧l.all (inB 0 5)=true:=by
 refine zie n (fun j x=>x.1.length=n∧x.1.all (inB 0 5)=true∧(0≤x.2.1∧x.2.1≤m)∧x.2.2=((n-j:Nat):Int)-1∧j≤n) ⟨by simp,?_,⟨hm,Int.le_refl _⟩,by simp,by omega⟩ ?_ ?_
 ·rw[List.all_eq_true]
  intro x hx
  have:x=0:=(List.mem_replicate.1 hx).2
  subst this;rfl
 ·rintro j ⟨s,r,c⟩ hj ⟨h1,h2,h3,h4,_⟩
  simp only at h1 h2 h3 h4
  obtain⟨k,hk,e1,e2⟩:∃k:Nat,k<n∧n-j=k+1∧n-(j+1)=k:=⟨n-j-1,by omega,by omega,by omega⟩
  have:c=(k:Int):=by omega
  subst this
  have b:0≤(if p<r then p else r)∧(if p<r then p else r)≤5∧(if p<r then p else r)≤r:=by split<;>omega
  refine⟨.go (s.set k (if p<r then p else r),r-(if p<r then p else r),(k:Int)-1),hs k s r hk h1 h3.1 h3.2,by simpa using h1,?_,⟨by dsimp only;omega,by dsimp only;omega⟩,by dsimp only;omega,hj⟩
  rw[List.all_eq_true]at h2⊢
  intro x hx
  rcases List.mem_or_eq_of_mem_set hx with h|rfl
  ·exact h2 x h
  exact zcM.2 ⟨b.1,b.2.1⟩
 rintro⟨s,r,c⟩ ⟨h1,h2,h3,h4,_⟩
 simp only at h1 h2 h3 h4
 have:c=-1:=by omega
 subst this
 exact⟨_,he s r,h1,h2⟩
theorem znW {ct:Contest}(k:OkC ct):∃n,zd6 ct=some n∧zb5 ct=some n:=by
 have lo:=k.lo
 unfold zd6 zb5
 rcases k.k with⟨k13,ho,hm,hp⟩|⟨k2,ho,hp,hm⟩|⟨k4,ho,hm,hp⟩
 ·obtain⟨o,eo⟩:∃o:Nat,ct.Options=(o:Int):=⟨ct.Options.toNat,by omega⟩
  obtain⟨m,em⟩:∃m:Nat,ct.Most=(m:Int):=⟨ct.Most.toNat,by omega⟩
  have w:IntKind.i64.wrap (ct.Options-ct.Most)=ct.Options-ct.Most:=zai (by omega) (by omega)
  have e1:∀{β:Type}(out:List Int→β),zaQ (fun s5:List Int×Int=>if decide (s5.2<ct.Options)=true then(gd ((s5.1.length+1)*8≤140737488355328∧s5.1.length+1≤4611686018427387904)<|some (.go (s5.1++[s5.2],IntKind.i64.wrap (s5.2+1))))else(some (.out (out s5.1)))) ([],ct.Options-ct.Most)=some (out (rng (ct.Options-ct.Most) m)):=fun{β} out=>by
   refine zow m ?_ ?_
   ·intro c s hc hs
    rw[if_pos (by simp;omega),zcx (by rw[hs];omega),zai (by dsimp only;omega) (by dsimp only;omega)]
   ·intro s
    rw[if_neg (by simp;omega)]
  have hall:(rng (ct.Options-ct.Most) m).all (inB 0 (ct.Options-1))=true:=zta (by omega) (by omega)
  rcases k13 with k1|k3
  ·rw[k1]
   simp only[show((1:Int)==1)=true from rfl,if_true,w]
   have e2:zaQ (σ:=List Int×Int) (β:=List Int) (fun s5=>if decide (s5.2<ct.Options)=true then(((if decide (ct.Options-ct.Most≤s5.2)=true then(some 1)else(some 0):Option Int).bind fun x13=>
    gd ((s5.1.length+1)*8≤140737488355328∧s5.1.length+1≤4611686018427387904)<|some (.go (s5.1++[x13],IntKind.i64.wrap (s5.2+1)))))else(some (.out s5.1))) ([],0)=some ((List.range o).map fun(i:Nat)=>if decide (ct.Options-ct.Most≤(i:Int))=true then 1 else 0):=by
    refine zow (out:=fun s=>s) (a:=0) o ?_ ?_
    ·intro c s hc hs
     have hg:∀x:Int,gd ((s.length+1)*8≤140737488355328∧s.length+1≤4611686018427387904) (some (Stp.go (β:=List Int) (s++[x],IntKind.i64.wrap (0+(c:Int)+1))))=some (.go (s++[x],0+(c:Int)+1)):=fun x=>by
      rw[zcx (by rw[hs];omega),zai (by omega) (by omega)]
     rw[if_pos (by simp;omega)]
     dsimp only
     by_cases h:ct.Options-ct.Most≤(c:Int)
     ·rw[if_pos (by simpa using h),Option.bind_some,hg,if_pos (by simpa using h)]
     ·rw[if_neg (by simpa using h),Option.bind_some,hg,if_neg (by simpa using h)]
    ·intro s
     rw[if_neg (by simp;omega)]
   have em2:ze5 ct.Options.toNat (rng (ct.Options-ct.Most) m)=(List.range o).map fun(i:Nat)=>if decide (ct.Options-ct.Most≤(i:Int))=true then 1 else 0:=by
    have:ct.Options.toNat=o:=by omega
    rw[this]
    unfold ze5
    refine List.map_congr_left fun i hi=>?_
    have hi:=List.mem_range.1 hi
    congr 1
    rw[List.contains_eq_mem,decide_eq_true_eq,decide_eq_true_eq,ztd]
    exact propext ⟨fun h=>h.1,fun h=>⟨h,by omega⟩⟩
   have ha:((List.range o).map fun(i:Nat)=>if decide (ct.Options-ct.Most≤(i:Int))=true then(1:Int)else 0).all (inB 0 40)=true:=by
    rw[List.all_map,List.all_eq_true]
    intro i _
    show inB 0 40 (if _ then _ else _)=true
    split<;>rfl
   have hb:zaK ct=some 2:=by unfold zaK;rw[k1];rfl
   refine⟨?_,?_,?_⟩
   rotate_left 2
   ·rw[e2,Option.bind_some,hb,Option.bind_some,zjz (by omega) (by simp;omega) ha];rfl
   rw[e1 (fun s=>s),Option.bind_some]
   unfold zcI
   rw[k1,if_pos (show((1:Int)==1)=true from rfl),zk6 (by omega) hall,Option.bind_some,em2,zfP (by omega) (by omega) (by simp;omega) (by simpa using ha)]
   simp
   rfl
  rw[k3]
  simp only[show((3:Int)==1)=false from rfl,show((3:Int)==2)=false from rfl,show((3:Int)==3)=true from rfl,Bool.false_eq_true,if_false,if_true,w]
  have ee:(rng (ct.Options-ct.Most) m).map (· +1)=rng (ct.Options-ct.Most+1) m:=by
   simp only[rng,List.map_map]
   refine List.map_congr_left fun i hi=>?_
   show ct.Options-ct.Most+(i:Int)+1=ct.Options-ct.Most+1+(i:Int);omega
  have e2:zaQ (σ:=List Int×Int) (β:=List Int) (fun s40=>if decide (s40.2<ct.Most)=true then(gd ((s40.1.length+1)*8≤140737488355328∧s40.1.length+1≤4611686018427387904)<|
   some (.go (s40.1++[IntKind.i64.wrap ((IntKind.i64.wrap (ct.Options-ct.Most+1))+s40.2)],IntKind.i64.wrap (s40.2+1))))else(some (.out s40.1))) ([],0)=some (rng (ct.Options-ct.Most+1) m):=by
   refine zow (out:=fun s=>s) (a:=0) (f:=fun i=>ct.Options-ct.Most+1+(i:Int)) m ?_ ?_
   ·intro c s hc hs
    rw[if_pos (by simp;omega),zcx (by rw[hs];omega),zai (n:=ct.Options-ct.Most+1) (by omega) (by omega),zai (n:=0+(c:Int)+1) (by omega) (by omega),zai (by dsimp only;omega) (by dsimp only;omega),Int.zero_add]
   ·intro s
    rw[if_neg (by simp;omega)]
  have ha:(rng (ct.Options-ct.Most+1) m).all (inB 0 40)=true:=zta (by omega) (by omega)
  have hb:zaK ct=some (ct.Options+1):=by unfold zaK;rw[k3,zai (n:=ct.Options+1) (by omega) (by omega)];rfl
  refine⟨?_,?_,?_⟩
  rotate_left 2
  ·rw[e2,Option.bind_some,hb,Option.bind_some,zjz (by omega) (by rw[ztf];omega) ha];rfl
  rw[e1 (fun s=>s),Option.bind_some]
  unfold zcI
  rw[k3,zai (n:=ct.Options+1) (by omega) (by omega)]
  simp only[show((3:Int)==1)=false from rfl,show((3:Int)==2)=false from rfl,show((3:Int)==3)=true from rfl,Bool.false_eq_true,if_false,if_true]
  rw[zfP (by omega) (by omega) (by rw[ztf];omega) (by rw[ee];exact ha),ee]
  rfl
 ·obtain⟨o,eo⟩:∃o:Nat,ct.Options=(o:Int):=⟨ct.Options.toNat,by omega⟩
  have mb:=ztE ho hp
  rw[k2]
  simp only[show((2:Int)==1)=false from rfl,show((2:Int)==2)=true from rfl,Bool.false_eq_true,if_false,if_true]
  rw[zcx (by omega),zcx (by omega),Option.bind_some,Option.bind_some,zai (n:=ct.Options-1) (by omega) (by omega)]
  have hl:∀a b:Int,zch a b=some (if a<b then a else b):=fun a b=>by unfold zch;by_cases h:a<b<;>simp[h]
  have hmin:∀a b:Int,(if b<a then b else a)=(if a<b then a else b):=fun a b=>by split<;>split<;>omega
  have eS:=zAv (step:=fun s26:List Int×Int×Int=>
   if decide (0≤s26.2.2)=true then(
   (zch s26.2.1 ct.Points).bind fun z32=>
   (ix s26.1 s26.2.2).bind fun x33=>
   (ix (s26.1.set s26.2.2.toNat z32) s26.2.2).bind fun x34=>
   some (.go (s26.1.set s26.2.2.toNat z32,IntKind.i64.wrap (s26.2.1-x34),IntKind.i64.wrap (s26.2.2-1))))else(
   some (.out s26.1))) (n:=o) (m:=ct.Most) (by omega) ct.Points (by omega) (by omega) ?_ (fun s r=>rfl)
  ·obtain⟨l,h1,h2,h3⟩:=eS
   have e:(fun s26:List Int×Int×Int=>
    if decide (0≤s26.2.2)=true then(
    (zch s26.2.1 ct.Points).bind fun z32=>
    (ix s26.1 s26.2.2).bind fun x33=>
    (ix (s26.1.set s26.2.2.toNat z32) s26.2.2).bind fun x34=>
    some (.go (s26.1.set s26.2.2.toNat z32,IntKind.i64.wrap (s26.2.1-x34),IntKind.i64.wrap (s26.2.2-1))))else(
    some (.out s26.1)))=(fun s29:List Int×Int×Int=>
    if decide (0≤s29.2.2)=true then(
    (ix s29.1 s29.2.2).bind fun x35=>
    (ix (s29.1.set s29.2.2.toNat (if ct.Points<s29.2.1 then ct.Points else s29.2.1)) s29.2.2).bind fun x36=>
    some (Stp.go (s29.1.set s29.2.2.toNat (if ct.Points<s29.2.1 then ct.Points else s29.2.1),IntKind.i64.wrap (s29.2.1-x36),IntKind.i64.wrap (s29.2.2-1))))else(
    some (.out s29.1))):=by
    funext s
    simp only[hl,hmin,Option.bind_some]
   rw[←e]
   have:ct.Options.toNat=o:=by omega
   rw[this,eo,h1,Option.bind_some,Option.bind_some]
   have hb:zaK ct=some (ct.Points+1):=by unfold zaK;rw[k2,zai (by omega) (by omega)];rfl
   have ha:=zfu (a:=0) (a':=0) (b:=5) (b':=40) (by omega) (by omega) h3
   refine⟨?_,?_,?_⟩
   rotate_left 2
   ·rw[hb,Option.bind_some,zjz (by omega) (by omega) ha];rfl
   unfold zcI
   rw[k2,zai (n:=ct.Points+1) (by omega) (by omega)]
   simp only[show((2:Int)==1)=false from rfl,show((2:Int)==2)=true from rfl,Bool.false_eq_true,if_false,if_true]
   rw[zfP (by omega) (by omega) (by omega) (by simpa using ha)]
   simp
  intro c s r hc hs h0 h1
  have hc2:c<(s.set c (if ct.Points<r then ct.Points else r)).length:=by simp;omega
  dsimp only
  rw[if_pos (by simp),hl,Option.bind_some,zeG (by omega),Option.bind_some,←hmin,Int.toNat_natCast,zeG hc2,Option.bind_some]
  have b:0≤(if ct.Points<r then ct.Points else r)∧(if ct.Points<r then ct.Points else r)≤r:=by split<;>omega
  rw[List.getElem_set_self,zai (by omega) (by omega),zai (by omega) (by omega)]
 obtain⟨m,em⟩:∃m:Nat,ct.Most=(m:Int):=⟨ct.Most.toNat,by omega⟩
 rw[k4]
 simp only[show((4:Int)==1)=false from rfl,show((4:Int)==2)=false from rfl,show((4:Int)==3)=false from rfl,Bool.false_eq_true,if_false,if_true]
 have e1:zaQ (σ:=List Int×Int) (β:=List Int) (fun s46=>if decide (s46.2<ct.Most)=true then(gd ((s46.1.length+1)*8≤140737488355328∧s46.1.length+1≤4611686018427387904)<|
  some (.go (s46.1++[26],IntKind.i64.wrap (s46.2+1))))else(some (.out s46.1))) ([],0)=some ((List.range m).map fun _=>26):=by
  refine zow (out:=fun s=>s) (a:=0) m ?_ ?_
  ·intro c s hc hs
   rw[if_pos (by simp;omega),zcx (by rw[hs];omega),zai (by dsimp only;omega) (by dsimp only;omega)]
  ·intro s
   rw[if_neg (by simp;omega)]
 have ha:((List.range m).map fun _=>(26:Int)).all (inB 0 40)=true:=by
  rw[List.all_map,List.all_eq_true];intro i _;rfl
 have hb:zaK ct=some 27:=by unfold zaK;rw[k4];rfl
 rw[e1,Option.bind_some,Option.bind_some]
 refine⟨?_,?_,?_⟩
 rotate_left 2
 ·rw[hb,Option.bind_some,zjz (by omega) (by simp;omega) ha];rfl
 unfold zcI
 rw[k4]
 simp only[show((4:Int)==1)=false from rfl,show((4:Int)==2)=false from rfl,show((4:Int)==3)=false from rfl,Bool.false_eq_true,if_false,if_true]
 rw[zfP (by omega) (by omega) (by simp;omega) (by simpa using ha)]
 simp
 rfl
theorem zmC (ct:Contest):zbX ct=some (ct.Kind==1||ct.Kind==2):=by
 unfold zbX
 rw[ziB];rfl
theorem zkC (ct:Contest):zeT ct=some (ct.Kind==1||ct.Kind==2):=by
 unfold zeT
 rw[ziB];rfl
theorem zkX (gr:Group) (ct:Contest):∃b,zc7 gr ct=some b∧zeC gr ct=some b∧(b=true→OkG gr∧OkC ct):=by
 unfold zc7 zeC
 rw[zqJ,znr]
 simp only[zn8,zjs,zkC,zmC,Option.bind_some]
 cases hg:okG gr with
 |false=>exact⟨false,rfl,rfl,fun h=>by cases h⟩
 |true=>
  cases hc:okC ct with
  |false=>exact⟨false,rfl,rfl,fun h=>by cases h⟩
  |true=>
   obtain⟨n,h1,h2⟩:=znW (zp1.1 hc)
   simp only[h1,h2,Bool.not_true,Bool.false_eq_true,if_false,Option.bind_some]
   have k:=And.intro (zmz.1 hg) (zp1.1 hc)
   simp only[ziB,zja,Option.bind_some]
   cases decide (100000<n)||decide (gr.Q≤n)with
   |true=>exact⟨false,rfl,rfl,fun h=>by cases h⟩
   |false=>exact⟨_,rfl,rfl,fun _=>k⟩
theorem ztl {l:List Int}(h:l.length≤1048576):zgu l=some l:=zcx (by omega)
theorem zhT {α:Type}{L:List (List α)}{i:Nat}(h:i<L.length):(L.take (i+1)).flatten=(L.take i).flatten++L[i]:=by
 rw[List.take_succ_eq_append_getElem h,List.flatten_append];simp
theorem znq {α:Type}(L:List (List α)) (i:Nat):(L.take i).flatten.length≤L.flatten.length:=by
 have e:L.flatten=(L.take i).flatten++(L.drop i).flatten:=by rw[←List.flatten_append,List.take_append_drop]
 rw[e,List.length_append];omega
theorem zl2 (L:List (List Int)) (h:L.flatten.length≤1000000000000):zbE L=some L.flatten:=by
 unfold zbE
 refine zal (zaf (ψ:=fun n=>n=(L.flatten.length:Int)) (zbi (fun i s=>s=((L.take i).flatten.length:Int)) rfl ?_ ?_) ?_)
 ·rintro i s hi rfl
  have e:=congrArg List.length (zhT hi)
  rw[List.length_append]at e
  have hl:=znq L (i+1)
  refine za6 hi ?_
  rw[zai (by omega) (by omega)]
  refine zbl (by simp only[decide_eq_false_iff_not];omega) (zab ?_)
  show _=_
  omega
 ·rintro s rfl
  rw[List.take_length]
 rintro n rfl
 refine zak (by omega) (zaf (ψ:=fun r=>r=L.flatten) (zbi (fun i s=>s=(L.take i).flatten) rfl ?_ ?_) fun r hr=>zab hr)
 ·rintro i s hi rfl
  have e:=congrArg List.length (zhT hi)
  rw[List.length_append]at e
  have hl:=znq L (i+1)
  refine za6 hi (zak (by omega) (zab ?_))
  show _=_
  rw[zhT hi]
 rintro s rfl
 rw[List.take_length]
def chG (gr:Group) (s:ByteArray) (l:List Int):Int:=zj9 s ([gr.P,gr.Q,gr.G]++l)%gr.Q
theorem zvZ {gr:Group}(k:OkG gr) (s:ByteArray) (l:List Int):0≤chG gr s l∧chG gr s l<gr.Q:=by
 have:=k.q
 exact⟨Int.emod_nonneg _ (by omega),Int.emod_lt_of_pos _ (by omega)⟩
theorem zsX {gr:Group}(k:OkG gr) {l:List Int}:([gr.P,gr.Q,gr.G]++l).all za8=l.all za8:=by
 have hp:=k.p
 have hq:=k.q
 have hg:=k.g
 rw[List.all_append]
 have:[gr.P,gr.Q,gr.G].all za8=true:=by
  simp only[List.all_cons,List.all_nil,Bool.and_true,Bool.and_eq_true]
  exact⟨zdt.2 (by omega),zdt.2 (by omega),zdt.2 (by omega)⟩
 rw[this,Bool.true_and]
theorem zrL {gr:Group}(k:OkG gr) {s:ByteArray}{l:List Int}(hs:s.size≤1000000) (hl:l.length≤10000000000) (hd:l.all za8=true):zbR gr s l=some (chG gr s l):=by
 have hq:=k.q
 have hb:=zdt.1 (zif s ([gr.P,gr.Q,gr.G]++l))
 unfold zbR
 rw[zcx (by simp only[List.length_cons,List.length_nil];omega),ziq hs (by simp only[List.length_append,List.length_cons,List.length_nil];omega) (by rw[zsX k];exact hd),Option.bind_some,zcx (by omega),Int.tmod_eq_emod_of_nonneg hb.1]
 rfl
theorem zvo {gr:Group}(k:OkG gr) (s:ByteArray) {l:List Int}(hl:l.length≤10000000000):zbw gr s l=some (if zhd s ([gr.P,gr.Q,gr.G]++l)=true then(chG gr s l,true)else(0,false)):=by
 have hq:=k.q
 have hb:=zdt.1 (zif s ([gr.P,gr.Q,gr.G]++l))
 unfold zbw
 rw[zcx (by simp only[List.length_cons,List.length_nil];omega),zh7,Option.bind_some]
 cases zhd s ([gr.P,gr.Q,gr.G]++l)with
 |false=>rfl
 |true=>
  simp only[if_true,Bool.not_true,Bool.false_eq_true,if_false]
  rw[zcx (by omega),Int.tmod_eq_emod_of_nonneg hb.1]
  rfl
theorem zx4 {gr:Group}(k:OkG gr) {s:ByteArray}{l:List Int}(hs:s.size≤40) (hl:4+s.size+l.length≤400) (hd:l.all za8=true):zhd s ([gr.P,gr.Q,gr.G]++l)=true:=by
 unfold zhd
 rw[zsX k,hd,Bool.and_true,Bool.and_eq_true,decide_eq_true_eq,decide_eq_true_eq]
 simp only[List.length_append,List.length_cons,List.length_nil]
 omega
def zhI (gr:Group):List Int→List Int→Int→Int
 |x::l,e::m,o=>zhI gr l m (o*zav gr x e%gr.P)
 |_,_,o=>o
theorem zps (gr:Group):∀(l m:List Int) (x e o:Int),l.length=m.length→zhI gr (l++[x]) (m++[e]) o=zhI gr l m o*zav gr x e%gr.P
 |[],[],x,e,o,_=>rfl
 |y::l,f::m,x,e,o,h=>zps gr l m x e _ (by simpa using h)
theorem zrN (gr:Group):∀(l m:List Int) (o:Int),zhI gr l (m.take l.length) o=zhI gr l m o
 |[],m,o=>by cases m<;>rfl
 |y::l,[],o=>rfl
 |y::l,f::m,o=>zrN gr l m _
theorem zsW {gr:Group}(h:0<gr.P):∀(l m:List Int) (o:Int),0≤o∧o<gr.P→0≤zhI gr l m o∧zhI gr l m o<gr.P
 |x::l,e::m,o,_=>zsW h l m _ ⟨Int.emod_nonneg _ (by omega),Int.emod_lt_of_pos _ h⟩
 |[],_,o,ho=>ho
 |_::_,[],o,ho=>ho
theorem ztb {gr:Group}(k:OkG gr) {x y:Int}(hx:0≤x∧x<gr.P) (hy:0≤y):zeL gr [x,y]=x*y%gr.P:=by
 have hp:=k.p
 simp only[zeL,List.foldl_cons,List.foldl_nil,Int.one_mul]
 rw[Int.emod_eq_of_lt hx.1 hx.2]
theorem zvu {gr:Group}(k:OkG gr) {l m:List Int}(hl:∀x∈l,0≤x∧x≤2000000000) (hm:l.length≤m.length):zdV gr l m=some (zhI gr l m 1):=by
 have hp:=k.p
 unfold zdV
 refine zal (zaf (ψ:=fun b=>b=zhI gr l m 1) (zbi (fun i s=>s=zhI gr (l.take i) (m.take i) 1) rfl ?_ ?_) fun b hb=>zab hb)
 ·rintro i s hi rfl
  have bd:=zsW (gr:=gr) (by omega) (l.take i) (m.take i) 1 (by omega)
  have hx:=hl l[i] (List.getElem_mem hi)
  have pb:=zhq k l[i] (m[i]'(by omega))
  refine za6 hi (za6 (show i<m.length by omega) (zae (zom k hx.1 hx.2 _).1 (zae (zp3 k ?_) (zab ?_))))
  ·intro y hy
   simp only[List.mem_cons,List.not_mem_nil,or_false]at hy
   rcases hy with rfl|rfl<;>omega
  show _=zhI gr (l.take (i+1)) (m.take (i+1)) 1
  rw[List.take_succ_eq_append_getElem hi,List.take_succ_eq_append_getElem (show i<m.length by omega),zps _ _ _ _ _ _ (by simp;omega),ztb k bd pb.1]
 rintro s rfl
 rw[List.take_length,zrN]
structure LinS (gr:Group) (bs:List (List Int)):Prop where
 n:1≤bs.length∧bs.length≤8
 m:1≤(bs.headD []).length∧(bs.headD []).length≤8
 r:∀r∈bs,r.length=(bs.headD []).length∧r.all (zaL gr)=true
theorem LinS.hd {gr:Group}{bs:List (List Int)}(h:LinS gr bs):ix bs 0=some (bs.headD []):=by
 cases bs with
 |nil=>have:=h.n;simp at this
 |cons r l=>rfl
theorem zys {gr:Group}(k:OkG gr) {l:List Int}(h:l.all (zaL gr)=true):∀x∈l,0≤x∧x≤2000000000:=fun x hx=>by
 have hp:=k.p
 have:=zkq (List.all_eq_true.1 h x hx)
 omega
theorem zzY {bs:List (List Int)}{im cs:List Int}(h1:bs.flatten.length≤1000000) (h2:im.length≤1048576) (h3:cs.length≤1048576):zeD bs im cs=some (bs.flatten++im++cs):=by
 unfold zeD
 refine zal (zaf (ψ:=fun r=>r=bs.flatten) (zbi (fun i s=>s=(bs.take i).flatten) rfl ?_ ?_) ?_)
 ·rintro i s hi rfl
  have e:=congrArg List.length (zhT hi)
  rw[List.length_append]at e
  have hl:=znq bs (i+1)
  refine za6 hi (zak (by omega) (zab ?_))
  show _=_
  rw[zhT hi]
 ·rintro s rfl
  rw[List.take_length]
 rintro r rfl
 exact zak (by omega) (zak (by rw[List.length_append];omega) (zab rfl))
theorem zqL {gr:Group}(k:OkG gr) {bs:List (List Int)}{es:List Int}(hb:LinS gr bs) (he:es.length=(bs.headD []).length):zc3 gr bs es=some (bs.map fun r=>zhI gr r es 1):=by
 unfold zc3
 have hn:=hb.n
 rw[zvt (f:=fun r=>zhI gr r es 1) []]
 ·rfl
 intro i hi s hs
 have hr:=hb.r _ (List.getElem_mem hi)
 rw[zeG hi,Option.bind_some,zvu k (zys k hr.2) (by omega),Option.bind_some,zcx (by simp at hs;omega)]
theorem zgb {gr:Group}(k:OkG gr):zaL gr gr.G=true:=by
 have hg:=k.g
 simp only[zaL,Bool.and_eq_true,decide_eq_true_eq]
 exact⟨by omega,k.o⟩
theorem zwy {gr:Group}{x:Int}(h:zaL gr x=true):LinS gr [[x]]:=⟨by simp,by simp,fun r hr=>by
 rw[List.mem_singleton.1 hr]
 simp[h]⟩
def zca (l:List Int):List Int:=(l.length:Int)::l
def zfr (p:Proof):List Int:=zca p.Commits++zca p.Challenges++zca p.Responses
theorem zmx {a l:List Int}(ha:a.length≤10000000) (hl:l.length≤10000000):zbS a l=some (a++zca l):=by
 unfold zbS
 rw[zcx (by omega),zcx (by simp;omega)]
 simp[zca]
theorem zre {p:Proof}(h1:p.Commits.length≤1048576) (h2:p.Challenges.length≤1048576) (h3:p.Responses.length≤1048576):zev p=some (zfr p):=by
 unfold zev
 rw[zmx (by simp) (by omega),Option.bind_some,zmx (by simp[zca];omega) (by omega),Option.bind_some,zmx (by simp[zca];omega) (by omega),Option.bind_some]
 simp[zfr]
theorem zn9 {l:List Int}(h:l.length≤10000000):zcK l=some (zca l):=by
 unfold zcK
 rw[zcx (by simp;omega)];rfl
def zjA (l:List Int):Bool:=decide ((l.length:Int)≤400)&&l.all za8
theorem zt2 (l:List Int):zfj l=some (zjA l):=by
 unfold zfj
 have h1:za0 l=some (l.all za8):=zgI (f:=zaF) fun x _=>by
  unfold zaF
  rw[zhL];rfl
 rw[h1,Option.bind_some,zja];rfl
theorem znK (l:List Int):zdN l=some (if zjA l=true then(l,true)else([],false)):=by
 unfold zdN
 rw[zt2]
 cases zjA l<;>rfl
theorem zpK {p:Proof}(h1:p.Commits.length≤1048576) (h2:p.Challenges.length≤1048576) (h3:p.Responses.length≤1048576):zdl p=some (if zjA (zfr p)=true then(zfr p,true)else([],false)):=by
 have e:[zca p.Commits,zca p.Challenges,zca p.Responses].flatten=zfr p:=by simp[zfr]
 unfold zdl
 rw[zn9 (by omega),Option.bind_some,zn9 (by omega),Option.bind_some,zn9 (by omega),Option.bind_some,zl2 _ (by rw[e];simp[zfr,zca];omega),Option.bind_some,e,znK]
 cases zjA (zfr p)<;>rfl
theorem zza {β:Type}{f:Nat→Option β}{n:Nat}{b:β}(h:f n=some b) (mono:∀n b,f n=some b→f (n+1)=some b):zpe f=some b:=by
 obtain⟨b',m,h1,h2⟩:=zyr h
 have up:∀k n b,f n=some b→f (n+k)=some b:=by
  intro k
  induction k with
  |zero=>intro n b h;exact h
  |succ k ih=>intro n b h;exact mono _ _ (ih n b h)
 have a:=up m n b h
 have c:=up n m b' h2
 rw[Nat.add_comm m n,a]at c
 cases c;exact h1
theorem zCc {α:Type}{l:List α}{i:Int}(h0:0≤i) (h:i<l.length):ix l i=some (l[i.toNat]'(by omega)):=by
 obtain⟨k,rfl⟩:=Int.eq_ofNat_of_zero_le h0
 exact zeG (by omega)
def zDf {α:Type}(f:α→Int) (L:List α) (T:Nat):List α:=(List.range T).flatMap fun i=>L.filter fun e=>f e==((i+1:Nat):Int)
theorem zn0 {gr:Group}(k:OkG gr) {a:Int}(ha:0≤a):zav gr gr.G a=((gr.G.toNat^a.toNat%gr.P.toNat:Nat):Int):=by
 have hq:=k.q
 obtain⟨n,rfl⟩:=Int.eq_ofNat_of_zero_le ha
 obtain⟨q,hQ⟩:=Int.eq_ofNat_of_zero_le (show 0≤gr.Q by omega)
 unfold zav
 have ho:=k.o
 rw[hQ]at ho⊢
 rw[Int.toNat_natCast]at ho
 rw[←Int.natCast_emod,Int.toNat_natCast,Int.toNat_natCast,zkF ho]
theorem zxw {gr:Group}(k:OkG gr) {a b:Int}(ha:0≤a) (hb:0≤b):zeL gr [zav gr gr.G a,zav gr gr.G b]=zav gr gr.G (a+b):=by
 have hp:=k.p
 obtain⟨P,hP⟩:=Int.eq_ofNat_of_zero_le (show 0≤gr.P by omega)
 have hx:=zhq k gr.G a
 rw[ztb k (by omega) (zhq k gr.G b).1,zn0 k ha,zn0 k hb,zn0 k (by omega),hP]
 rw[←Int.natCast_mul,←Int.natCast_emod,Int.toNat_natCast,←Nat.mul_mod,←Nat.pow_add,Int.toNat_add ha hb]
theorem zv3 {gr:Group}(k:OkG gr):zav gr gr.G 0=1:=by
 have hp:=k.p
 rw[zn0 k (Int.le_refl 0)]
 show((1%gr.P.toNat:Nat):Int)=1
 rw[Nat.mod_eq_of_lt (by omega)];rfl
theorem zyI (a b:Int):zch a b=some (if a<b then a else b):=by unfold zch;by_cases h:a<b<;>simp[h]
theorem zmn {code c0:List Int}{at_ seed n:Int}(hb:Bt code) (h:Cu code n (c0,at_,seed)) (hn:n≤5000000000000000):Rn (zbt c0 at_ seed) (fun z=>Cu code (n+12) z.2):=by
 unfold zbt
 refine zaf (zc5 hb h (by omega)) fun z1 ⟨_,_,_,_,y1⟩=>?_
 refine zaf (zc5 hb y1 (by omega)) fun z2 ⟨_,_,_,_,y2⟩=>?_
 refine zaf (zn6 hb y2 (by omega)) fun z3 y3=>?_
 refine zaf (ψ:=fun _=>True) (zao (fun _=>zab trivial) fun _=>zab trivial) fun x6 _=>?_
 refine zaf (ψ:=fun x=>Cu code (n+8) x.1) (zao (fun _=>zaf (zc5 hb y3 (by omega)) fun z ⟨_,_,_,_,y⟩=>zab (y.mono (by omega))) fun _=>zao (fun _=>zab (y3.mono (by omega))) fun _=>zab (y3.mono (by omega))) fun x10 w=>?_
 refine zae (zyI _ _) ?_
 refine zaf (zc5 hb w (by omega)) fun z4 ⟨_,_,_,_,y4⟩=>?_
 refine zaf (zc5 hb y4 (by omega)) fun z5 ⟨_,_,_,_,y5⟩=>?_
 exact zab (y5.mono (by omega))
theorem zrq {code c0:List Int}{at_ seed n:Int}(hb:Bt code) (h:Cu code n (c0,at_,seed)) (hn:n≤4000000000000000):Rn (zb0 c0 at_ seed) (fun z=>Cu code (n+16) z.2):=by
 unfold zb0
 refine zaf (zmn hb h (by omega)) fun z1 y1=>?_
 refine zaf (zc5 hb y1 (by omega)) fun z2 ⟨_,_,_,_,y2⟩=>?_
 have am:∀l:List Int,l≠[]→Rn (zaq z2.2.1 z2.2.2.1 z2.2.2.2 l) (fun z=>Cu code (n+16) z.2):=fun l hl=>by
  obtain⟨v,v1,v2⟩:=zh3 (l:=l) hb y2 (by omega) hl
  exact⟨v,v1,v2.2.mono (by omega)⟩
 refine zaf (ψ:=fun x=>Cu code (n+16) x.1) ?_ fun x hx=>zab hx
 refine zao (fun _=>zaf (am _ (by simp)) fun z hz=>zab hz) fun _=>?_
 refine zao (fun _=>zaf (am _ (by simp)) fun z hz=>zab hz) fun _=>?_
 refine zao (fun _=>zaf (am _ (by simp)) fun z hz=>zab hz) fun _=>?_
 refine zao (fun _=>zaf (am _ (by simp)) fun z hz=>zab hz) fun _=>?_
 refine zao (fun _=>zaf (am _ (by simp)) fun z hz=>zab hz) fun _=>?_
 exact zab (y2.mono (by omega))
theorem zlV {code c0:List Int}{at_ seed n:Int}(hb:Bt code) (h:Cu code n (c0,at_,seed)) (hn:n≤5000000000000000):Rn (zbz c0 at_ seed) (fun z=>Cu code (n+4) z.2):=by
 unfold zbz
 refine zaf (zc5 hb h (by omega)) fun z1 ⟨_,_,_,_,y1⟩=>?_
 refine zao (fun _=>zaf (zh3 hb y1 (by omega) (by simp)) fun z ⟨_,hz⟩=>zab (hz.mono (by omega))) fun _=>?_
 refine zaf (ψ:=fun _=>True) (zao (fun _=>zab trivial) fun _=>zao (fun _=>zab trivial) fun _=>zab trivial) fun x6 _=>?_
 refine zao (fun _=>?_) fun _=>zaf (zc5 hb y1 (by omega)) fun z ⟨_,_,_,_,hz⟩=>zab (hz.mono (by omega))
 refine zaf (zc5 hb y1 (by omega)) fun z ⟨h0,_,_,h1,hz⟩=>?_
 exact zae (zsM (by simp) (by simp[za8];omega)) (zab (hz.mono (by omega)))
theorem zze {gr:Group}(k:OkG gr) (x e:Int):zhI gr [x] [e] 1=zav gr x e:=by
 have hb:=zhq k x e
 show 1*zav gr x e%gr.P=_
 rw[Int.one_mul,Int.emod_eq_of_lt hb.1 (by omega)]
def ziI (gr:Group) (s:ByteArray) (x w:Int):Int:=chG gr s ([[gr.G]].flatten++[zav gr gr.G x]++[zav gr gr.G w])
def ziL (gr:Group) (s:ByteArray) (x w:Int):Proof:=⟨[zav gr gr.G w],[ziI gr s x w],[(w+ziI gr s x w*x)%gr.Q]⟩
structure Gb (gr:Group):Prop where
 p:1≤gr.P∧gr.P≤2000000000
 q:1≤gr.Q∧gr.Q≤2000000000
 g:0≤gr.G∧gr.G≤2000000000
theorem OkG.gb {gr:Group}(k:OkG gr):Gb gr:=by
 have hp:=k.p
 have hq:=k.q
 have hg:=k.g
 exact⟨by omega,by omega,by omega⟩
theorem zqj {gr:Group}(k:Gb gr) (x e:Int):0≤zav gr x e∧zav gr x e≤gr.P-1:=by
 have hp:=k.p
 unfold zav
 have:=Nat.mod_lt (x.toNat^(e%gr.Q).toNat) (show 0<gr.P.toNat by omega)
 omega
theorem zyK {gr:Group}(k:Gb gr) {x:Int}(h0:0≤x) (h1:x≤2000000000) (e:Int):zaA gr x e=some (zav gr x e):=by
 have hp:=k.p
 have hq:=k.q
 have b1:=Int.emod_nonneg e (show gr.Q≠0 by omega)
 have b2:=Int.emod_lt_of_pos e (show 0<gr.Q by omega)
 unfold zaA
 rw[zos (by omega) hq.2,Option.bind_some,(zhD h0 h1 hp.1 hp.2 b1 (by omega)).2];rfl
theorem zxr {gr:Group}(k:Gb gr) (w:Int):zfz gr [gr.G] [w]=some (zav gr gr.G w):=by
 have hp:=k.p
 have hg:=k.g
 have hb:=zqj k gr.G w
 unfold zfz
 refine zal (zaf (ψ:=fun s=>s=zav gr gr.G w) (zbi (fun i s=>s=if i=0 then 1 else zav gr gr.G w) rfl ?_ fun s h=>h) fun s h=>zab h)
 rintro i s hi rfl
 have hi:i<1:=hi
 obtain rfl:i=0:=by omega
 refine za6 (l:=[gr.G]) (by simp) (za6 (l:=[w]) (by simp) (zae (zyK k hg.1 hg.2 _) (zak (by omega) (zab ?_))))
 show(IntKind.i64.wrap (1*zav gr gr.G w)).tmod gr.P=zav gr gr.G w
 rw[Int.one_mul,zai (by omega) (by omega),Int.tmod_eq_emod_of_nonneg hb.1,Int.emod_eq_of_lt hb.1 (by omega)]
theorem zpH {gr:Group}(k:Gb gr) (w:Int):zeQ gr [[gr.G]] [w]=some [zav gr gr.G w]:=by
 unfold zeQ
 rw[zvt (l:=[[gr.G]]) (f:=fun _=>zav gr gr.G w) []]
 ·rfl
 intro i hi s hs
 have hi:i<1:=hi
 obtain rfl:i=0:=by omega
 rw[zeG (l:=[[gr.G]]) (k:=0) (by simp),Option.bind_some]
 show(zfz gr [gr.G] [w]).bind _=_
 rw[zxr k,Option.bind_some,zcx (by have:=hs;simp only[List.length_nil]at this;omega)]
theorem zxQ {gr:Group}(k:Gb gr) (x w:Int):([gr.P,gr.Q,gr.G]++([[gr.G]].flatten++[zav gr gr.G x]++[zav gr gr.G w])).all za8=true:=by
 have hp:=k.p
 have hq:=k.q
 have hg:=k.g
 have b1:=zqj k gr.G x
 have b2:=zqj k gr.G w
 simp[za8];omega
theorem zpb {gr:Group}(k:Gb gr) (s:ByteArray) (x w:Int):0≤ziI gr s x w∧ziI gr s x w<gr.Q:=by
 have hq:=k.q
 exact⟨Int.emod_nonneg _ (by omega),Int.emod_lt_of_pos _ (by omega)⟩
theorem zyZ {gr:Group}(k:OkG gr):zcL gr [[gr.G]]=some true:=by
 have h1:zaJ [[gr.G]] [[gr.G]] gr.P gr.Q gr.G=some (-1):=by
  unfold zaJ
  refine zal (zaf (ψ:=fun v=>v=.inl ()) (zbi (fun _ _=>True) trivial ?_ fun s _=>rfl) ?_)
  ·rintro i s hi _
   have hi:i<1:=hi
   obtain rfl:i=0:=by omega
   refine za6 (l:=[[gr.G]]) (by simp) ?_
   have e:zcR [gr.G] [[gr.G]] gr.P gr.Q gr.G=some false:=by
    unfold zcR
    have hh:zcr ⟨gr.P,gr.Q,gr.G⟩ [gr.G]=some true:=by
     rw[show(⟨gr.P,gr.Q,gr.G⟩:Group)=gr from rfl,zq2 k]
     simp[zgb k]
    simp[ix,hh]
   exact zae e (zbl rfl (zab trivial))
  ·rintro _ rfl
   exact zab rfl
 unfold zcL zaW
 rw[zqR,show ix [[gr.G]] 0=some [gr.G]from rfl,h1]
 rfl
theorem zxu (gr:Group) {s:ByteArray}(hs:s.size≤40) (x w:Int):zcC gr s gr.G x w=some (if(okG gr&&(zhg gr x&&zhg gr w))=true then(ziL gr s x w,true)else(⟨[],[],[]⟩,false)):=by
 unfold zcC zcf zdi
 rw[znr]
 cases hg:okG gr with
 |false=>rfl
 |true=>
  have k:=zmz.1 hg
  have hq:=k.q
  have hp:=k.p
  have ha:∀y,za5 gr [y]=some (zhg gr y):=fun y=>by
   rw[zlY (gr:=gr) (by omega) (by omega)];simp
  have e:decide ((s.size:Int)≤40)=true:=decide_eq_true (by omega)
  rw[zyZ k,ha,ha,e,show ix [[gr.G]] 0=some [gr.G]from rfl]
  cases h1:zhg gr x with
  |false=>rfl
  |true=>
   cases h2:zhg gr w with
   |false=>rfl
   |true=>
    simp only[zhg,Bool.and_eq_true,decide_eq_true_eq]at h1 h2
    have hb:=zwy (zgb k)
    have b1:=zhq k gr.G x
    have b2:=zhq k gr.G w
    have hc:zbw gr s ([[gr.G]].flatten++[zav gr gr.G x]++[zav gr gr.G w])=some (ziI gr s x w,true):=by
     rw[zvo k s (by simp),if_pos (zx4 k hs (by simp;omega) ?_)]
     ·rfl
     ·have:=zxQ k.gb x w
      rw[List.all_append]at this
      exact(Bool.and_eq_true_iff.1 this).2
    have he:=zpb k.gb s x w
    simp only[Option.bind_some,Bool.not_true,Bool.false_eq_true,if_false,Bool.and_self,if_true,List.length_cons,List.length_nil,bne_self_eq_false]
    rw[show ziL gr s x w=⟨[zav gr gr.G w],[ziI gr s x w],[(w+ziI gr s x w*x)%gr.Q]⟩from rfl]
    unfold zcG
    rw[zqL k (es:=[w]) hb rfl,zqL k (es:=[x]) hb rfl,zl2 _ (by simp)]
    simp only[List.map_cons,List.map_nil,zze k,Option.bind_some]
    rw[zl2 _ (by simp)]
    simp only[Option.bind_some]
    rw[show[[[gr.G]].flatten,[zav gr gr.G x],[zav gr gr.G w]].flatten=[[gr.G]].flatten++[zav gr gr.G x]++[zav gr gr.G w]from rfl,hc]
    simp only[Option.bind_some,Bool.not_true,Bool.false_eq_true,if_false]
    generalize ziI gr s x w=c at he hc
    have hm:0≤c*x:=Int.mul_nonneg he.1 h1.1
    have hm2:c*x≤2000000000*2100000000:=Int.mul_le_mul (by omega) (by omega) h1.1 (by omega)
    have hl:zap (σ:=List Int×List Int×List Int) (β:=List Int×List Int×List Int) (fun i21 s20=>(ix [w] i21).bind fun x27=>(ix [x] i21).bind fun x28=>(zbr gr (IntKind.i64.wrap (x27+(IntKind.i64.wrap (c*x28))))).bind fun z29=>gd ((s20.2.2.length+1)*8≤140737488355328∧s20.2.2.length+1≤4611686018427387904)<|
     some (.go (s20.1,s20.2.1,s20.2.2++[z29]))) (fun s20=>(s20.1,s20.2.1,s20.2.2)) ([w].length) 0 ([zav gr gr.G w],[c],[])=some ([zav gr gr.G w],[c],[(w+c*x)%gr.Q]):=by
     refine zal (zbi (fun i s=>s=if i=0 then([zav gr gr.G w],[c],[])else([zav gr gr.G w],[c],[(w+c*x)%gr.Q])) rfl ?_ fun s h=>h)
     rintro i s hi rfl
     have hi:i<1:=hi
     obtain rfl:i=0:=by omega
     refine za6 (l:=[w]) (by simp) (za6 (l:=[x]) (by simp) ?_)
     show Rn ((zbr gr (IntKind.i64.wrap (w+IntKind.i64.wrap (c*x)))).bind _) _
     unfold zbr
     rw[zai (n:=c*x) (by omega) (by omega),zai (n:=w+c*x) (by omega) (by omega),zuf (by omega) (by omega)]
     exact zak (by simp) (zab rfl)
    rw[hl]
    rfl
theorem Gb.w {gr:Group}(k:Gb gr):Gw gr:=by
 have a:=k.p
 have b:=k.q
 have c:=k.g
 exact⟨by omega,by omega,by omega⟩
theorem ztp {b:Int}:∀{l:List Int},l.all (inB 0 b)=true→0≤l.sum
 |[],_=>by simp
 |x::l,h=>by
  rw[List.all_cons,Bool.and_eq_true,zcM]at h
  have:=ztp h.2
  rw[List.sum_cons];omega
theorem zlH:∀{l v:List Int},l.Nodup→(∀x∈l,x∈v)→l.length≤v.length
 |[],v,_,_=>by simp
 |x::l,v,hn,hs=>by
  obtain⟨h1,h2⟩:=List.nodup_cons.1 hn
  have hx:=hs x (by simp)
  have:=zlH (l:=l) (v:=v.erase x) h2 fun y hy=>(List.mem_erase_of_ne (show y≠x from fun e=>h1 (e▸hy))).2 (hs y (List.mem_cons_of_mem _ hy))
  rw[List.length_erase_of_mem hx]at this
  have:=List.length_pos_of_mem hx
  rw[List.length_cons];omega
theorem zvc (n:Nat) (p:Nat→Bool):(((List.range n).filter p).map fun(i:Nat)=>(i:Int)).Nodup:=by
 rw[List.Nodup,List.pairwise_map]
 exact((List.nodup_range (n:=n)).filter p).imp fun h=>by omega
theorem zwj (n:Nat) (v:List Int):(ze5 n v).sum≤v.length:=by
 have e:∀l:List Nat,(l.map fun(i:Nat)=>if v.contains (i:Int)=true then(1:Int)else 0).sum=((List.filter (fun(i:Nat)=>v.contains (i:Int)) l).length:Int):=by
  intro l
  induction l with
  |nil=>rfl
  |cons i l ih=>
   rw[List.map_cons,List.sum_cons,ih,List.filter_cons]
   cases v.contains (i:Int)<;>simp<;>omega
 unfold ze5
 rw[e]
 have:=zlH (v:=v) (zvc n fun i=>v.contains (i:Int)) fun x hx=>by
  obtain⟨i,hi,rfl⟩:=List.mem_map.1 hx
  simpa using(List.mem_filter.1 hi).2
 rw[List.length_map]at this
 omega
theorem zml (n:Nat) (v:List Int):(ze5 n v).all (inB 0 1)=true:=by
 unfold ze5
 rw[List.all_map,List.all_eq_true]
 intro i _
 show inB 0 1 (if _ then _ else _)=true
 split<;>rfl
def zlo (ct:Contest):Int:=if ct.Kind=1 then 2 else if ct.Kind=2 then ct.Points+1 else if ct.Kind=3 then ct.Options+1 else 27
def zep (ct:Contest) (v:List Int):List Int:=if ct.Kind=1 then ze5 ct.Options.toNat v else if ct.Kind=3 then v.map (· +1)else v
def zlT (ct:Contest) (v:List Int):Int:=num (zlo ct) (zep ct v)
theorem zqo {ct:Contest}(k:OkC ct) {v:List Int}(hv:zfv ct v=true):zcI ct v=some (zlT ct v)∧(zep ct v).all (inB 0 (zlo ct-1))=true∧(zep ct v).length≤8:=by
 unfold zcI zlT zlo zep
 unfold zfv at hv
 rcases k.k with⟨k1|k3,ho,hm,hp⟩|⟨k2,ho,hp,hm⟩|⟨k4,ho,hm,hp⟩
 ·simp only[k1,if_true,Bool.and_eq_true]at hv⊢
  have hl:=zcM.1 hv.2
  refine⟨?_,zml _ _,by rw[ziw];omega⟩
  rw[if_pos (show((1:Int)==1)=true from rfl),zk6 (by omega) hv.1.1,Option.bind_some,zfP (by omega) (by omega) (by rw[ziw];omega) (by simpa using zfu (Int.le_refl 0) (by omega) (zml _ _))]
  simp
 ·simp only[k3,show¬(3:Int)=1 by omega,show¬(3:Int)=2 by omega,if_false,if_true,Bool.and_eq_true]at hv⊢
  have hl:=zcM.1 hv.2.2
  have ha:(v.map (· +1)).all (inB 0 (ct.Options+1-1))=true:=by
   rw[List.all_map,List.all_eq_true]
   intro x hx
   have:=zcM.1 (List.all_eq_true.1 hv.1 x hx)
   exact zcM.2 (show 0≤x+1∧x+1≤ct.Options+1-1 by omega)
  refine⟨?_,ha,by simp;omega⟩
  rw[zai (n:=ct.Options+1) (by omega) (by omega)]
  simp only[show((3:Int)==1)=false from rfl,show((3:Int)==2)=false from rfl,show((3:Int)==3)=true from rfl,Bool.false_eq_true,if_false,if_true]
  rw[zfP (by omega) (by omega) (by omega) (zfu (Int.le_refl 0) (by omega) ha)];rfl
 ·simp only[k2,show¬(2:Int)=1 by omega,show¬(2:Int)=3 by omega,if_false,if_true,Bool.and_eq_true,decide_eq_true_eq]at hv⊢
  refine⟨?_,zfu (Int.le_refl 0) (by omega) hv.2.1,by omega⟩
  rw[zai (n:=ct.Points+1) (by omega) (by omega)]
  simp only[show((2:Int)==1)=false from rfl,show((2:Int)==2)=true from rfl,Bool.false_eq_true,if_false,if_true]
  rw[zfP (by omega) (by omega) (by omega) (by simpa using zfu (Int.le_refl 0) (by omega) hv.2.1)]
  simp
 simp only[k4,show¬(4:Int)=1 by omega,show¬(4:Int)=2 by omega,show¬(4:Int)=3 by omega,if_false,Bool.and_eq_true]at hv⊢
 have hl:=zcM.1 hv.2
 refine⟨?_,zfu (by omega) (by omega) hv.1,by omega⟩
 simp only[show((4:Int)==1)=false from rfl,show((4:Int)==2)=false from rfl,show((4:Int)==3)=false from rfl,Bool.false_eq_true,if_false]
 rw[zfP (by omega) (by omega) (by omega) (by simpa using zfu (by omega) (by omega) hv.1)]
 simp
theorem zAe {l:List Int}(x:Int) (hl:l.Pairwise (· < ·)) (hn:l.length≤1000):Rn (zeE l x) (fun r=>r.Pairwise (· < ·)∧(∀y,y∈r↔y∈l∨y=x)∧r.length≤l.length+1):=by
 unfold zeE
 refine zaf (ψ:=fun v=>∃k:Nat,v=(k:Int)∧k≤l.length∧(∀j (h:j<l.length),j<k→l[j]<x)∧∀h:k<l.length,¬l[k]<x) (zdg (fun s=>∃k:Nat,s=(k:Int)∧k≤l.length∧∀j (h:j<l.length),j<k→l[j]<x) (fun s=>l.length-s.toNat) ⟨0,rfl,by omega,fun j h hj=>by omega⟩ ?_) ?_
 ·rintro s ⟨k,rfl,h1,h2⟩
  by_cases hk:k<l.length
  ·refine zaf (ψ:=fun v=>v=decide (l[k]<x)) (zgl (decide_eq_true (by omega)) (za6 hk (zab rfl))) ?_
   rintro _ rfl
   refine zao (fun g=>zab ⟨⟨k+1,?_,by omega,fun j h hj=>?_⟩,?_⟩) fun g=>zab ⟨k,rfl,h1,h2,fun _=>of_decide_eq_false g⟩
   ·rw[zai (by omega) (by omega)];rfl
   ·rcases Nat.lt_or_ge j k with c|c
    ·exact h2 j h c
    obtain rfl:j=k:=by omega
    exact of_decide_eq_true g
   rw[zai (by omega) (by omega)];omega
  refine zaf (ψ:=fun v=>v=false) (zbl (decide_eq_false (by omega)) (zab rfl)) ?_
  rintro _ rfl
  exact zbl rfl (zab ⟨k,rfl,h1,h2,fun h=>absurd h hk⟩)
 rintro _ ⟨k,rfl,h1,h2,h3⟩
 refine zaf (ψ:=fun v=>(v=true→x∈l)∧(v=false→∀h:k<l.length,x<l[k])) ?_ fun v hv=>?_
 ·by_cases hk:k<l.length
  ·refine zgl (decide_eq_true (by omega)) (za6 hk (zab ⟨fun g=>?_,fun g h=>?_⟩))
   ·rw[←eq_of_beq g];exact List.getElem_mem hk
   have:=ne_of_beq_false g
   have:=h3 hk
   omega
  exact zbl (decide_eq_false (by omega)) (zab ⟨fun g=>(by cases g),fun _ h=>absurd h hk⟩)
 refine zao (fun g=>zab ⟨hl,fun y=>⟨.inl,fun h=>?_⟩,by omega⟩) fun g=>?_
 ·rcases h with h|rfl
  ·exact h
  exact hv.1 g
 have hgt:=hv.2 g
 rw[List.drop_zero,List.take_length,show(k:Int).toNat=k from rfl]
 refine zak (by omega) (zak (by omega) (zak (by simp;omega) (zak (by simp;omega) (zak (by omega) (zak (by omega) (zak (by simp;omega) (zab ⟨?_,fun y=>?_,by simp;omega⟩)))))))
 ·have ht:∀y∈l.take k,y<x:=fun y hy=>by
   obtain⟨j,hj,rfl⟩:=List.getElem_of_mem hy
   rw[List.length_take]at hj
   rw[List.getElem_take]
   exact h2 j (by omega) (by omega)
  have hd:∀y∈l.drop k,x<y:=fun y hy=>by
   obtain⟨j,hj,rfl⟩:=List.getElem_of_mem hy
   rw[List.length_drop]at hj
   rw[List.getElem_drop]
   have h0:=hgt (by omega)
   rcases Nat.eq_zero_or_pos j with rfl|c
   ·exact h0
   ·have:=List.pairwise_iff_getElem.1 hl k (k+j) (by omega) (by omega) (by omega)
    omega
  rw[List.pairwise_append,List.pairwise_append]
  refine⟨⟨hl.sublist (List.take_sublist _ _),by simp,fun a ha b hb=>?_⟩,hl.sublist (List.drop_sublist _ _),fun a ha b hb=>?_⟩
  ·rw[List.mem_singleton.1 hb];exact ht a ha
  rcases List.mem_append.1 ha with ha|ha
  ·have:=ht a ha;have:=hd b hb;omega
  rw[List.mem_singleton.1 ha];exact hd b hb
 rw[List.mem_append,List.mem_append,List.mem_singleton]
 constructor
 ·rintro((h|h)|h)
  ·exact .inl (List.mem_of_mem_take h)
  ·exact .inr h
  exact .inl (List.mem_of_mem_drop h)
 rintro(h|h)
 ·rw[←List.take_append_drop k l]at h
  rcases List.mem_append.1 h with h|h
  ·exact .inl (.inl h)
  exact .inr h
 exact .inl (.inr h)
theorem zwN {l:List Int}(h:l.Pairwise (· < ·)):l.Nodup:=h.imp fun h=>by omega
theorem zIJ {v:List Int}{n:Nat}(h:v.length<n):∃i:Nat,i<n∧¬(i:Int)∈v:=by
 refine Classical.byContradiction fun hc=>?_
 have hc:∀i:Nat,i<n→(i:Int)∈v:=fun i hi=>Classical.byContradiction fun hm=>hc ⟨i,hi,hm⟩
 have:=zlH (v:=v) (zvc n fun _=>true) fun x hx=>by
  obtain⟨i,hi,rfl⟩:=List.mem_map.1 hx
  exact hc i (List.mem_range.1 (List.mem_filter.1 hi).1)
 rw[List.length_map,List.filter_eq_self.2 (fun _ _=>rfl),List.length_range]at this
 omega
theorem zry {n:Nat}{p:Nat→Bool}{k0:Int}{step:Int→Option (Stp Int Int)}(h0:0≤k0∧k0<n) (hn:n≤1000) (hp:∃i,i<n∧p i=true)
 (hs:∀k:Nat,k<n→step (k:Int)=some (if p k=true then .out (k:Int)else .go (((k:Int)+1).tmod n))):Rn (zaQ step k0) (fun z=>∃k:Nat,z=(k:Int)∧k<n∧p k=true):=by
 obtain⟨i,hi,hpi⟩:=hp
 refine zdg (fun s=>0≤s∧s<n) (fun s=>if s.toNat≤i then i-s.toNat else i+n-s.toNat) h0 ?_
 rintro s ⟨s0,s1⟩
 obtain⟨k,rfl⟩:=Int.eq_ofNat_of_zero_le s0
 have hk:k<n:=by omega
 refine⟨_,hs k hk,?_⟩
 cases e:p k with
 |true=>exact⟨k,rfl,hk,e⟩
 |false=>
  have hne:k≠i:=fun e2=>by rw[e2,hpi]at e;cases e
  show(0≤((k:Int)+1).tmod n∧((k:Int)+1).tmod n<n)∧_<_
  have e1:((k:Int)+1).tmod n=(((k+1)%n:Nat):Int):=by
   rw[show(k:Int)+1=((k+1:Nat):Int)by omega];rfl
  rw[e1]
  have hm:(k+1)%n<n:=Nat.mod_lt _ (by omega)
  refine⟨by omega,?_⟩
  rw[Int.toNat_natCast,Int.toNat_natCast]
  rcases Nat.lt_or_ge (k+1) n with c|c
  ·rw[Nat.mod_eq_of_lt c]
   split<;>split<;>omega
  ·have:k+1=n:=by omega
   rw[this,Nat.mod_self]
   split<;>split<;>omega
theorem zid {code c0:List Int}{at_ seed n m:Int}(hb:Bt code) (h:Cu code n (c0,at_,seed)) (hn:n≤8000000000000000) (hm:1≤m):Rn (zag c0 at_ seed m) (fun z=>(0≤z.1∧z.1<m)∧Cu code (n+2) z.2):=by
 obtain⟨z,e,h0,h1,h2,_,h3⟩:=zc5 (m:=m) hb h hn
 refine⟨z,e,⟨h0,?_⟩,h3⟩
 rcases Int.lt_or_le 1 m with g|g
 ·exact h2 g
 have:=h1 g;omega
theorem zs0:∀{l:List Int}{k:Nat}(x:Int) (h:k<l.length),(l.set k x).sum=l.sum-l[k]+x
 |a::l,0,x,_=>by simp;omega
 |a::l,k+1,x,h=>by
  rw[List.set_cons_succ,List.sum_cons,List.sum_cons,zs0 x (by simpa using h)]
  simp;omega
theorem zrJ {p:Int}:∀{l:List Int},(∀x∈l,x=p)→l.sum=l.length*p
 |[],_=>by simp
 |a::l,h=>by
  rw[List.sum_cons,zrJ fun x hx=>h x (List.mem_cons_of_mem _ hx),h a (by simp),List.length_cons]
  push_cast
  grind
theorem zuY {code c0:List Int}{at_ seed n:Int}{ct:Contest}(hb:Bt code) (h:Cu code n (c0,at_,seed)) (hn:n≤1000000000000000) (k:OkC ct):Rn (zci c0 at_ seed ct) (fun z=>z.1.length≤40∧Cu code (n+200) z.2):=by
 have lo:=k.lo
 have hM:ct.Most≤40:=by
  rcases k.k with⟨_,ho,hm,hp⟩|⟨_,ho,hp,hm⟩|⟨_,ho,hm,hp⟩
  ·omega
  ·have:=ztE ho hp;omega
  ·omega
 unfold zci
 rw[zai (n:=ct.Most-ct.Least) (by omega) (by omega),zai (n:=ct.Most-ct.Least+1) (by omega) (by omega)]
 refine zaf (zid hb h (by omega) (by omega)) fun z1 ⟨⟨p0,p1⟩,y1⟩=>?_
 rw[zai (n:=ct.Least+z1.1) (by omega) (by omega)]
 generalize hN:ct.Least+z1.1=N
 have hN0:0≤N∧N≤ct.Most:=by omega
 rcases k.k with⟨k13,ho,hm,hp⟩|⟨k2,ho,hp,hm⟩|⟨k4,ho,hm,hp⟩
 ·obtain⟨o,eo⟩:∃o:Nat,ct.Options=(o:Int):=⟨ct.Options.toNat,by omega⟩
  have n2:(ct.Kind==2)=false:=by rcases k13 with e|e<;>rw[e]<;>rfl
  have n4:(ct.Kind==4)=false:=by rcases k13 with e|e<;>rw[e]<;>rfl
  refine zbl n2 (zbl n4 (zaf (ψ:=fun v=>v.2.length≤40∧Cu code (n+200) v.1) (zdg (fun s=>(s.2.length:Int)≤N∧(ct.Kind=1→s.2.Pairwise (· < ·))∧Cu code (n+2+4*s.2.length) s.1) (fun s=>(N-s.2.length).toNat) ⟨by simp;omega,fun _=>by simp,y1.mono (by simp)⟩ ?_) fun v hv=>zab hv))
  rintro s ⟨s1,s2,s3⟩
  refine zao (fun g=>?_) fun _=>zab ⟨by show s.2.length≤40;omega,s3.mono (by omega)⟩
  have g:=of_decide_eq_true g
  refine zaf (zid hb s3 (by omega) (by omega)) fun z2 ⟨q1,y2⟩=>?_
  have hmi:∃i,i<o∧(!s.2.contains (i:Int))=true:=by
   obtain⟨i,i1,i2⟩:=zIJ (v:=s.2) (n:=o) (by omega)
   exact⟨i,i1,by simpa using i2⟩
  refine zaf (zry (n:=o) (p:=fun i=> !s.2.contains (i:Int)) (by rw[←eo];exact q1) (by omega) hmi fun i hi=>?_) fun x ⟨i,e,hi,hpi⟩=>?_
  ·rw[ztg,Option.bind_some,zai (n:=(i:Int)+1) (by omega) (by omega),zcx (by omega),eo]
   cases s.2.contains (i:Int)<;>rfl
  subst e
  have hni:¬(i:Int)∈s.2:=by simpa using hpi
  refine zao (fun g3=>zak (by omega) (zab ⟨⟨?_,fun e=>?_,?_⟩,?_⟩)) fun g3=>?_
  ·show((s.2++[(i:Int)]).length:Int)≤N
   rw[List.length_append];simp;omega
  ·rw[e]at g3;cases g3
  ·refine y2.mono ?_
   show _≤n+2+4*((s.2++[(i:Int)]).length:Int)
   rw[List.length_append];simp;omega
  ·show(N-((s.2++[(i:Int)]).length:Int)).toNat<(N-(s.2.length:Int)).toNat
   rw[List.length_append];simp;omega
  have hk1:ct.Kind=1:=by
   rcases k13 with e|e
   ·exact e
   ·rw[e]at g3;cases g3
  refine zaf (zAe (i:Int) (s2 hk1) (by omega)) fun r ⟨r1,r2,r3⟩=>?_
  have r4:=zlH (l:=(i:Int)::s.2) (v:=r) (List.nodup_cons.2 ⟨hni,zwN (s2 hk1)⟩) fun y hy=>(r2 y).2 (by
   rcases List.mem_cons.1 hy with e|e
   ·exact .inr e
   ·exact .inl e)
  rw[List.length_cons]at r4
  exact zab ⟨⟨by show(r.length:Int)≤N;omega,fun _=>r1,y2.mono (by show _≤n+2+4*(r.length:Int);omega)⟩,by show(N-(r.length:Int)).toNat<(N-(s.2.length:Int)).toNat;omega⟩
 ·obtain⟨o,eo⟩:∃o:Nat,ct.Options=(o:Int):=⟨ct.Options.toNat,by omega⟩
  have mb:=ztE ho hp
  refine zgl (by rw[k2];rfl) (zak (by omega) ?_)
  rw[Option.bind_some,show ct.Options.toNat=o by omega]
  refine zaf (ψ:=fun v=>v.2.length≤40∧Cu code (n+200) v.1) (zdg (fun s=>(0≤s.2.1∧s.2.2.sum+s.2.1=N)∧(s.2.2.length=o∧s.2.2.all (inB 0 ct.Points)=true)∧Cu code (n+2+4*s.2.2.sum) s.1) (fun s=>s.2.1.toNat) ⟨⟨hN0.1,by simp⟩,⟨by simp,?_⟩,y1.mono (by simp)⟩ ?_) fun v hv=>zab hv
  ·rw[List.all_eq_true]
   intro x hx
   rw[List.eq_of_mem_replicate hx]
   exact zcM.2 (by omega)
  rintro s ⟨⟨s1,s2⟩,⟨s3,s4⟩,s5⟩
  have hs0:=ztp s4
  refine zao (fun g=>?_) fun _=>zab ⟨by show s.2.2.length≤40;omega,s5.mono (by omega)⟩
  have g:0<s.2.1:=of_decide_eq_true g
  refine zaf (zid hb s5 (by omega) (by omega)) fun z2 ⟨q1,y2⟩=>?_
  have hmi:∃i,i<o∧(!(s.2.2.getD i 0==ct.Points))=true:=by
   refine Classical.byContradiction fun hc=>?_
   have:∀x∈s.2.2,x=ct.Points:=fun x hx=>by
    obtain⟨i,hi,rfl⟩:=List.getElem_of_mem hx
    refine Classical.byContradiction fun hne=>hc ⟨i,by omega,?_⟩
    rw[show s.2.2.getD i 0=s.2.2[i]by simp[hi]]
    simpa using hne
   have:=zrJ this
   rw[s3,←eo]at this
   omega
  refine zaf (zry (n:=o) (p:=fun i=> !(s.2.2.getD i 0==ct.Points)) (by rw[←eo];exact q1) (by omega) hmi fun i hi=>?_) fun x ⟨i,e,hi,hpi⟩=>?_
  ·have hi2:i<s.2.2.length:=by omega
   rw[zeG hi2,Option.bind_some,zai (n:=(i:Int)+1) (by omega) (by omega),zcx (by omega),eo,show s.2.2.getD i 0=s.2.2[i]by simp[hi2]]
   cases s.2.2[i]==ct.Points<;>rfl
  subst e
  have hi2:i<s.2.2.length:=by omega
  rw[show s.2.2.getD i 0=s.2.2[i]by simp[hi2]]at hpi
  have hne:s.2.2[i]≠ct.Points:=by simpa using hpi
  have hb2:=zcM.1 (List.all_eq_true.1 s4 _ (List.getElem_mem hi2))
  refine za6 hi2 (zab ?_)
  rw[zai (n:=s.2.1-1) (by omega) (by omega),zai (n:=s.2.2[i]+1) (by omega) (by omega),Int.toNat_natCast]
  have hss:=zs0 (s.2.2[i]+1) hi2
  refine⟨⟨⟨by show 0≤s.2.1-1;omega,?_⟩,⟨?_,?_⟩,y2.mono ?_⟩,by show(s.2.1-1).toNat<s.2.1.toNat;omega⟩
  ·show(s.2.2.set i (s.2.2[i]+1)).sum+(s.2.1-1)=N
   omega
  ·show(s.2.2.set i _).length=o
   rw[List.length_set];exact s3
  ·show(s.2.2.set i (s.2.2[i]+1)).all (inB 0 ct.Points)=true
   rw[List.all_eq_true]
   intro x hx
   rcases List.mem_or_eq_of_mem_set hx with e|rfl
   ·exact List.all_eq_true.1 s4 x e
   exact zcM.2 (by omega)
  show _≤n+2+4*(s.2.2.set i (s.2.2[i]+1)).sum
  omega
 refine zbl (by rw[k4];rfl) (zgl (by rw[k4];rfl) (zaf (ψ:=fun v=>v.2.length≤40∧Cu code (n+200) v.1) (zdg (fun s=>(0≤s.2.1∧(s.2.2.length:Int)+s.2.1=N)∧Cu code (n+2+4*s.2.2.length) s.1) (fun s=>s.2.1.toNat) ⟨⟨hN0.1,by simp⟩,y1.mono (by simp)⟩ ?_) fun v hv=>zab hv))
 rintro s ⟨⟨s1,s2⟩,s5⟩
 refine zao (fun g=>?_) fun _=>zab ⟨by show s.2.2.length≤40;omega,s5.mono (by omega)⟩
 have g:0<s.2.1:=of_decide_eq_true g
 refine zaf (zid hb s5 (by omega) (by omega)) fun z2 ⟨q1,y2⟩=>zak (by omega) (zab ?_)
 rw[zai (n:=s.2.1-1) (by omega) (by omega)]
 exact⟨⟨⟨by show 0≤s.2.1-1;omega,by show((s.2.2++[_]).length:Int)+(s.2.1-1)=N;rw[List.length_append];simp;omega⟩,y2.mono (by show _≤n+2+4*((s.2.2++[_]).length:Int);rw[List.length_append];simp;omega)⟩,by show(s.2.1-1).toNat<s.2.1.toNat;omega⟩
def zdw (ct:Contest):Int:=if ct.Kind=1 then 1 else ct.Points
def zd9 (ct:Contest):Bool:=ct.Kind==1||ct.Kind==2
def zjr (ct:Contest):Int:=if zd9 ct=true then ct.Options*(2*zdw ct+2)+2*(ct.Most-ct.Least)+1 else 2
theorem zwe (ct:Contest):zga ct=some (zdw ct):=by
 unfold zga zdw
 by_cases h:ct.Kind=1
 ·rw[if_pos h,h];rfl
 rw[if_neg h,if_neg (by simpa using h)]
theorem zmw {ct:Contest}(k:OkC ct) (h:zd9 ct=true):(1≤ct.Options∧ct.Options≤8)∧(1≤zdw ct∧zdw ct≤5)∧ct.Most≤ct.Options*zdw ct∧(0≤ct.Least∧ct.Least≤ct.Most):=by
 have lo:=k.lo
 unfold zd9 at h
 unfold zdw
 rcases k.k with⟨k1|k3,ho,hm,hp⟩|⟨k2,ho,hp,hm⟩|⟨k4,ho,hm,hp⟩
 ·rw[if_pos k1];omega
 ·rw[k3]at h;cases h
 ·rw[if_neg (by omega)];omega
 rw[k4]at h;cases h
theorem zqM {ct:Contest}(k:OkC ct):zeo ct=some (zjr ct)∧0≤zjr ct∧zjr ct≤300:=by
 unfold zeo zjr
 rw[zkC,show(ct.Kind==1||ct.Kind==2)=zd9 ct from rfl]
 cases h:zd9 ct with
 |false=>exact⟨rfl,by simp,by simp⟩
 |true=>
  obtain⟨h1,h2,h3,h4⟩:=zmw k h
  have e1:ct.Options*(2*zdw ct+2)≤8*12:=Int.mul_le_mul h1.2 (by omega) (by omega) (by omega)
  have e2:0≤ct.Options*(2*zdw ct+2):=Int.mul_nonneg (by omega) (by omega)
  have e3:ct.Options*zdw ct≤8*5:=Int.mul_le_mul h1.2 h2.2 (by omega) (by omega)
  rw[zwe]
  simp only[Option.bind_some,Bool.not_true,Bool.false_eq_true,if_false,if_true]
  rw[zai (n:=2*zdw ct) (by omega) (by omega),zai (n:=2*zdw ct+2) (by omega) (by omega),zai (n:=ct.Options*(2*zdw ct+2)) (by omega) (by omega),zai (n:=ct.Most-ct.Least) (by omega) (by omega),zai (n:=2*(ct.Most-ct.Least)) (by omega) (by omega),zai (n:=ct.Options*(2*zdw ct+2)+2*(ct.Most-ct.Least)) (by omega) (by omega),zai (by omega) (by omega)]
  exact⟨rfl,by omega,by omega⟩
theorem zqF:∀(n:Nat) (a:Int) (b:ByteArray),zbx n a=some b→zbx (n+1) a=some b
 |0,_,_,h=>by cases h
 |n+1,a,b,h=>by
  rw[zbx]at h⊢
  by_cases c:decide (a<10)=true
  ·rw[if_pos c]at h⊢;exact h
  ·rw[if_neg c]at h⊢
   cases e:zbx n (IntKind.i64.wrap (a.tdiv 10))with
   |none=>rw[e]at h;cases h
   |some z=>
    rw[e]at h
    rw[zqF n _ _ e]
    exact h
def zoO (ct:Contest) (v:List Int):List Int:=if zd9 ct=true then zep ct v else[zlT ct v]
theorem ztv {n:Nat}{v:List Int}(hn:v.Nodup) (hv:v.all (inB 0 ((n:Int)-1))=true):(ze5 n v).sum=v.length:=by
 have h1:=zwj n v
 have e:∀l:List Nat,(l.map fun(i:Nat)=>if v.contains (i:Int)=true then(1:Int)else 0).sum=((List.filter (fun(i:Nat)=>v.contains (i:Int)) l).length:Int):=by
  intro l
  induction l with
  |nil=>rfl
  |cons i l ih=>
   rw[List.map_cons,List.sum_cons,ih,List.filter_cons]
   cases v.contains (i:Int)<;>simp<;>omega
 have h2:=zlH (v:=(List.filter (fun(i:Nat)=>v.contains (i:Int)) (List.range n)).map fun(i:Nat)=>(i:Int)) hn fun x hx=>by
  have hb:=zcM.1 (List.all_eq_true.1 hv x hx)
  refine List.mem_map.2 ⟨x.toNat,List.mem_filter.2 ⟨List.mem_range.2 (by omega),?_⟩,by omega⟩
  rw[show((x.toNat:Nat):Int)=x by omega]
  simpa using hx
 rw[List.length_map]at h2
 unfold ze5 at h1⊢
 rw[e]at h1⊢
 omega
theorem zyy {ct:Contest}(k:OkC ct) {v:List Int}(hv:zfv ct v=true):zfN ct v=some (zoO ct v):=by
 have hc:=(zqo k hv).1
 unfold zfN zoO zd9
 unfold zfv at hv
 rcases k.k with⟨k1|k3,ho,hm,hp⟩|⟨k2,ho,hp,hm⟩|⟨k4,ho,hm,hp⟩
 ·simp only[k1,if_true,Bool.and_eq_true]at hv⊢
  rw[if_pos (show((1:Int)==1)=true from rfl),zk6 (by omega) hv.1.1]
  show some (ze5 ct.Options.toNat v)=some (zep ct v)
  unfold zep
  rw[if_pos k1]
 ·rw[hc,k3];rfl
 ·simp only[k2,show¬(2:Int)=1 by omega,if_false,if_true,Bool.and_eq_true,decide_eq_true_eq]at hv
  rw[k2]
  unfold zep
  rw[if_neg (show¬ct.Kind=1 by omega),if_neg (show¬ct.Kind=3 by omega)]
  simp only[show((2:Int)==1)=false from rfl,show((2:Int)==2)=true from rfl,Bool.false_eq_true,if_false,if_true,ztl (l:=v) (by omega)]
  rfl
 rw[hc,k4];rfl
theorem zAx {ct:Contest}(k:OkC ct) {v:List Int}(hf:zd9 ct=true) (hv:zfv ct v=true):((zep ct v).length:Int)=ct.Options∧(zep ct v).all (inB 0 (zdw ct))=true∧(ct.Least≤(zep ct v).sum∧(zep ct v).sum≤ct.Most)∧zlo ct=zdw ct+1:=by
 unfold zd9 at hf
 unfold zfv at hv
 unfold zep zdw zlo
 rcases k.k with⟨k1|k3,ho,hm,hp⟩|⟨k2,ho,hp,hm⟩|⟨k4,ho,hm,hp⟩
 ·rw[if_pos k1]at hv
  simp only[Bool.and_eq_true]at hv
  have hl:=zcM.1 hv.2
  have hs:=ztv (n:=ct.Options.toNat) (v:=v) (of_decide_eq_true (show decide v.Nodup=true from hv.1.2.2)) (by rw[show((ct.Options.toNat:Nat):Int)-1=ct.Options-1 by omega];exact hv.1.1)
  rw[if_pos k1,if_pos k1,if_pos k1]
  exact⟨by rw[ziw];omega,zml _ _,by omega,rfl⟩
 ·rw[k3]at hf;cases hf
 ·rw[if_neg (show¬ct.Kind=1 by omega),if_pos k2]at hv
  simp only[Bool.and_eq_true,decide_eq_true_eq]at hv
  have hl:=zcM.1 hv.2.2
  rw[if_neg (show¬ct.Kind=1 by omega),if_neg (show¬ct.Kind=3 by omega),if_neg (show¬ct.Kind=1 by omega),if_neg (show¬ct.Kind=1 by omega),if_pos k2]
  exact⟨hv.1,hv.2.1,hl,rfl⟩
 rw[k4]at hf;cases hf
theorem zwq {ct:Contest}(h:zd9 ct=true∨ct.Kind≠2):zbB ct=some (if zd9 ct=true then zdw ct else 1):=by
 unfold zbB zd9 zdw
 by_cases h2:ct.Kind=2
 ·rw[h2];rfl
 rw[if_neg (by simpa using h2)]
 by_cases h1:ct.Kind=1
 ·rw[h1];rfl
 have e1:(ct.Kind==1)=false:=beq_false_of_ne h1
 have e2:(ct.Kind==2)=false:=beq_false_of_ne h2
 rw[e1,e2];rfl
theorem zjc {gr:Group}{x:Int}:zhg gr x=true↔0≤x∧x<gr.Q:=by
 unfold zhg
 simp only[Bool.and_eq_true,decide_eq_true_eq]
 omega
theorem zrm {gr:Group}(k:OkG gr) (v:Int):zbr gr v=some (v%gr.Q):=by
 have hp:=k.p
 have hq:=k.q
 unfold zbr
 rw[zuf (by omega) (by omega)];rfl
theorem zkQ {α:Type}{l:List α}{d:α}{i:Nat}(h:i<l.length):l.getD i d=l[i]:=by
 rw[List.getD_eq_getElem?_getD,List.getElem?_eq_getElem h];rfl
def R9 (x:Int):Prop:=0≤x∧x≤2000000000
theorem zej {gr:Group}(k:OkG gr) {x:Int}(h:zaL gr x=true):R9 x:=by
 have:=zkq h;have:=k.p;exact⟨by omega,by omega⟩
theorem zdA {gr:Group}(k:OkG gr) (x e:Int):R9 (zav gr x e):=by
 have:=zhq k x e;have:=k.p;exact⟨by omega,by omega⟩
theorem zub {x y:Int}(hx:R9 x) (hy:R9 y):∀z∈[x,y],0≤z∧z≤2000000000:=by
 intro z hz
 simp only[List.mem_cons,List.not_mem_nil,or_false]at hz
 rcases hz with rfl|rfl
 ·exact hx
 exact hy
theorem zBX {gr:Group}(k:OkG gr) {l:List Int}(h:∀x∈l,0≤x∧x≤2000000000):R9 (zeL gr l):=by
 have:=zyu k h;have:=k.p;exact⟨by omega,by omega⟩
theorem zzM {gr:Group}(k:OkG gr) {x y:Int}(hx:R9 x) (hy:R9 y):R9 (zeL gr [x,y]):=zBX k (zub hx hy)
theorem zqa {l:List Int}(h:∀x∈l,R9 x):l.all za8=true:=List.all_eq_true.2 fun x hx=>zdt.2 ⟨(h x hx).1,by have:=(h x hx).2;omega⟩
theorem m2I {gr:Group}(k:OkG gr) {x y:Int}(hx:R9 x) (hy:R9 y):zbk gr [x,y]=some (zeL gr [x,y]):=zp3 k (zub hx hy)
theorem m2S {gr:Group}(k:OkG gr) {x y:Int}(hx:R9 x) (hy:R9 y):zbL gr [x,y]=some (zeL gr [x,y]):=zwr k (zub hx hy)
theorem pwI {gr:Group}(k:OkG gr) {x:Int}(hx:R9 x) (e:Int):zau gr x e=some (zav gr x e):=(zom k hx.1 hx.2 e).1
theorem pwS {gr:Group}(k:OkG gr) {x:Int}(hx:R9 x) (e:Int):zaA gr x e=some (zav gr x e):=(zom k hx.1 hx.2 e).2
theorem r_G {gr:Group}(k:OkG gr):R9 gr.G:=zej k (zgb k)
theorem zzV {gr:Group}(k:OkG gr) {n:Nat}(h0:n<gr.P.toNat) (h:n^gr.Q.toNat%gr.P.toNat=1):zaL gr (n:Int)=true:=by
 have hp:=k.p
 have hq:=k.q
 have h1:1≤n:=by
  rcases Nat.eq_zero_or_pos n with h2|h2
  ·rw[h2,Nat.zero_pow (by omega),Nat.zero_mod]at h;omega
  ·exact h2
 simp only[zaL,Bool.and_eq_true,decide_eq_true_eq]
 exact⟨⟨by omega,by omega⟩,by rw[Int.toNat_natCast];exact h⟩
theorem zqK {gr:Group}(k:OkG gr) {x:Int}(hx:zaL gr x=true) (e:Int):zaL gr (zav gr x e)=true:=by
 have hp:=k.p
 refine zzV k (Nat.mod_lt _ (by omega)) ?_
 rw[←Nat.pow_mod,←Nat.pow_mul,Nat.mul_comm,Nat.pow_mul,Nat.pow_mod,(zmy hx).2.2,Nat.one_pow,Nat.mod_eq_of_lt (by omega)]
def hN (gr:Group) (h:Int) (es ts:List Int):Nat→Int
 |0=>h
 |i+1=>zeL gr [zav gr gr.G (ts.getD i 0),zav gr (hN gr h es ts i) (es.getD i 0)]
def E9 (q x:Int):Prop:=0≤x∧x<q
theorem zBm {q a z t:Int}(hq:q≤2000000000) (ha:E9 q a) (hz:E9 q z) (ht:E9 q t):IntKind.i64.wrap (a+IntKind.i64.wrap (z*t))=a+z*t∧(IntKind.i64.wrap (a+IntKind.i64.wrap (z*t))).tmod q=(a+z*t)%q:=by
 obtain⟨a1,a2⟩:=ha
 obtain⟨z1,z2⟩:=hz
 obtain⟨t1,t2⟩:=ht
 have h1:0≤z*t:=Int.mul_nonneg z1 t1
 have h2:z*t≤2000000000*2000000000:=Int.mul_le_mul (by omega) (by omega) t1 (by omega)
 rw[zai (n:=z*t) (by omega) (by omega),zai (n:=a+z*t) (by omega) (by omega)]
 exact⟨rfl,Int.tmod_eq_emod_of_nonneg (by omega)⟩
theorem zla {q:Int}(hq:0<q) (x:Int):E9 q (x%q):=⟨Int.emod_nonneg _ (by omega),Int.emod_lt_of_pos _ hq⟩
theorem zvN {α:Type}{l:List α}{P:α→Prop}(h:∀x∈l,P x) {i:Nat}(hi:i<l.length):P l[i]:=h _ (List.getElem_mem hi)
def smN (q:Int) (l:List Int):Nat→Int
 |0=>0
 |i+1=>(smN q l i+l.getD i 0)%q
theorem zoc {q:Int}(hq:0<q) (l:List Int):∀i,E9 q (smN q l i)
 |0=>⟨by show(0:Int)≤0;omega,hq⟩
 |i+1=>zla hq _
theorem zBc {q:Int}(hq:0<q∧q≤2000000000) {l:List Int}(hl:∀x∈l,E9 q x):zhN l q=some (smN q l l.length)∧znf l q=some (smN q l l.length):=by
 refine⟨?_,?_⟩
 ·unfold zhN
  refine zal (zaf (ψ:=(· =smN q l l.length)) (zbi (fun i s=>s=smN q l i) rfl ?_ fun s h=>h) fun x hx=>zab hx)
  rintro i s hi rfl
  have ha:=zoc hq.1 l i
  have h1:=zvN hl hi
  refine za6 hi (zak (by omega) (zab ?_))
  show _=(smN q l i+l.getD i 0)%q
  rw[zkQ hi,zai (by have:=ha.1;have:=h1.1;omega) (by have:=ha.2;have:=h1.2;omega),Int.tmod_eq_emod_of_nonneg (by have:=ha.1;have:=h1.1;omega)]
 unfold znf
 refine zal (zaf (ψ:=(· =smN q l l.length)) (zbi (fun i s=>s=smN q l i) rfl ?_ fun s h=>h) fun x hx=>zab hx)
 rintro i s hi rfl
 have ha:=zoc hq.1 l i
 have h1:=zvN hl hi
 refine za6 hi (zak (by omega) (zab ?_))
 show _=(smN q l i+l.getD i 0)%q
 rw[zkQ hi,zai (by have:=ha.1;have:=h1.1;omega) (by have:=ha.2;have:=h1.2;omega),Int.tmod_eq_emod_of_nonneg (by have:=ha.1;have:=h1.1;omega)]
def smL (f:Nat→Int):Nat→Int
 |0=>0
 |n+1=>smL f n+f n
theorem zhP {P:Int→Prop}{l:List Int}(h:∀x∈l,P x) {i:Nat}(hi:i<l.length):P (l.getD i 0):=by
 rw[zkQ hi];exact h _ (List.getElem_mem hi)
theorem zfx {l:List Int}{i:Nat}(hi:i<l.length):ix l (i:Int)=some (l.getD i 0):=by rw[zeG hi,zkQ hi]
theorem zhB {σ γ:Type}{body:Int→σ→Option (Stp σ γ)}{stop:σ→γ}{n:Nat}{s0:σ}(S:Nat→σ) (h0:s0=S 0) (hs:∀i,i<n→Rn (body (i:Int) (S i)) (· =.go (S (i+1)))):zap body stop n 0 s0=some (stop (S n)):=by
 refine zal (zbi (fun i y=>y=S i) h0 ?_ ?_)
 ·rintro i y hi rfl
  obtain⟨v,h1,rfl⟩:=hs i hi
  exact⟨_,h1,rfl⟩
 rintro y rfl;rfl
def pg (gr:Group) (a:Int):Int:=zav gr gr.G a
section
variable {gr:Group}
theorem zqf {a b:Int}(h:a%gr.Q=b%gr.Q):pg gr a=pg gr b:=by unfold pg zav;rw[h]
theorem zGY {x a b:Int}(h:a%gr.Q=b%gr.Q):zav gr x a=zav gr x b:=by unfold zav;rw[h]
theorem zt1 (a:Int):pg gr (a%gr.Q)=pg gr a:=zqf (Int.emod_emod _ _)
theorem zkK (k:OkG gr) (a b:Int):zeL gr [pg gr a,pg gr b]=pg gr (a+b):=by
 have hq:=k.q
 rw[←zt1 a,←zt1 b]
 unfold pg
 rw[zxw k (Int.emod_nonneg _ (by omega)) (Int.emod_nonneg _ (by omega))]
 exact zqf (Int.add_emod a b gr.Q).symm
theorem zvS (k:OkG gr) (a e:Int):zav gr (pg gr a) e=pg gr (a*e):=by
 have hq:=k.q
 rw[←zt1 a,zGY (b:=e%gr.Q) (Int.emod_emod _ _).symm]
 unfold pg
 rw[zxn k (zgb k) (Int.emod_nonneg _ (by omega)) (Int.emod_nonneg _ (by omega))]
 exact zqf (Int.mul_emod a e gr.Q).symm
theorem zA8 (k:OkG gr):pg gr 0=1:=zv3 k
theorem zkL (k:OkG gr) (a:Int):zaL gr (pg gr a)=true:=zqK k (zgb k) a
open Classical in
def dl (gr:Group) (x:Int):Int:=if h:∃a,x=pg gr a then Classical.choose h else 0
theorem zBj (k:OkG gr) {x:Int}(h:zaL gr x=true):x=pg gr (dl gr x):=by
 have hg:=k.g
 have hq:=k.q
 have he:∃a,x=pg gr a:=by
  obtain⟨s,hs⟩:=zzy k (zgb k) (show gr.G≠1 by omega) h
  have hx:=(zmy h).1
  refine⟨s,?_⟩
  unfold pg zav
  obtain⟨n,hn⟩:=Int.eq_ofNat_of_zero_le (show 0≤gr.Q by omega)
  have h3:=(zmy (zgb k)).2.2
  rw[hn]at h3⊢
  rw[Int.toNat_natCast]at h3
  rw[←Int.natCast_emod,Int.toNat_natCast,zkF h3,hs];omega
 unfold dl
 rw[dif_pos he]
 exact Classical.choose_spec he
end
theorem apL {P:Int→Prop}{l m:List Int}(h1:∀x∈l,P x) (h2:∀x∈m,P x):∀x∈l++m,P x:=fun x hx=>(List.mem_append.1 hx).elim (h1 x) (h2 x)
theorem wrL {gr:Group}(k:OkG gr) {z:Int}(hz:E9 gr.Q z):IntKind.i64.wrap (0-z)=0-z:=by
 have h1:=hz.1
 have h2:=hz.2
 have hq:=k.q
 have hp:=k.p
 exact zai (by omega) (by omega)
theorem exL {gr:Group}{l:List Int}(h:∀z∈l,E9 gr.Q z):l.all (zhg gr)=true:=List.all_eq_true.2 fun z hz=>zjc.2 (h z hz)
theorem chL {gr:Group}(k:OkG gr) {s:ByteArray}{L:List Int}(hs:s.size≤40) (hl:L.length≤300) (hd:L.all za8=true):zbw gr s L=some (chG gr s L,true)∧zbR gr s L=some (chG gr s L):=by
 refine⟨?_,zrL k (by omega) (by omega) hd⟩
 rw[zvo k _ (by omega),if_pos (zx4 k hs (by omega) hd)]
theorem wNL {m:Nat}(h:m≤1000000) {z:Int}(e:z=(m:Int)):IntKind.i64.wrap z=(m:Int):=by rw[e];exact zai (by omega) (by omega)
def zo4 (a:Int):ByteArray:=⟨(Lib.itoa a).toArray⟩
theorem zy9 (u:Nat):Lib.itoa (u:Int)=Lib.decDigits u:=by unfold Lib.itoa;rw[if_neg (by omega)];simp
theorem zqZ {d:Nat}(h:d<10):zem [IntKind.u8.wrap (IntKind.i64.wrap (48+(d:Int)))]=⟨#[UInt8.ofNat (48+d)]⟩:=by
 rw[zai (n:=48+(d:Int)) (by omega) (by omega)]
 have e:IntKind.u8.wrap (48+(d:Int))=((48+d:Nat):Int):=by
  unfold IntKind.wrap
  simp[IntKind.bits,IntKind.signed];omega
 rw[e]
 unfold zem
 simp only[List.map_cons,List.map_nil,Int.toNat_natCast]
theorem zx2:∀(n:Nat) {u:Nat},n≤17→u<10^(n+1)→zbx (n+1) (u:Int)=some ⟨(Lib.decDigits u).toArray⟩∧(Lib.decDigits u).length≤n+1
 |0,u,_,h=>by
  have h:u<10:=by simpa using h
  rw[zbx,if_pos (by simp;omega),Lib.decDigits,dif_pos h,zqZ h]
  exact⟨rfl,by simp⟩
 |n+1,u,hn,h=>by
  by_cases h10:u<10
  ·rw[zbx,if_pos (by simp;omega),Lib.decDigits,dif_pos h10,zqZ h10]
   exact⟨rfl,by simp⟩
  ·have hp:10^(n+1+1)=10^(n+1)*10:=Nat.pow_succ ..
   have hp2:(10:Nat)^(n+1+1)≤10^18*10:=by
    have:(10:Nat)^(n+1)≤10^18:=Nat.pow_le_pow_right (by omega) (by omega)
    omega
   obtain⟨i1,i2⟩:=zx2 n (u:=u/10) (by omega) (by omega)
   have e1:IntKind.i64.wrap ((u:Int).tdiv 10)=((u/10:Nat):Int):=by
    rw[Int.tdiv_eq_ediv_of_nonneg (by omega)]
    by_cases hb:u<9223372036854775807
    ·rw[zai (by omega) (by omega)];rfl
    ·rw[zai (n:=(u:Int)/10) (by omega) (by omega)];rfl
   have e2:(u:Int).tmod 10=((u%10:Nat):Int):=by rw[Int.tmod_eq_emod_of_nonneg (by omega)];rfl
   have e3:Lib.decDigits u=Lib.decDigits (u/10)++[UInt8.ofNat (48+u%10)]:=by rw[Lib.decDigits,dif_neg h10]
   rw[zbx,if_neg (by simp;omega),e1,i1,e2,zqZ (Nat.mod_lt _ (by omega)),e3]
   have hs:(⟨(Lib.decDigits (u/10)).toArray⟩:ByteArray).size=(Lib.decDigits (u/10)).length:=by simp[ByteArray.size]
   have hs1:(⟨#[UInt8.ofNat (48+u%10)]⟩:ByteArray).size=1:=rfl
   refine⟨?_,by simp;omega⟩
   rw[Option.bind_some,zcx (by rw[hs,hs1];omega)]
   congr 1
def labP:ByteArray:=⟨#[98,97,108,108,111,116,32]⟩
def zfY (a:Int):ByteArray:=labP++zo4 a
theorem ztF {a:Int}(h0:0≤a) (h1:a≤999999):zjF a=some (zo4 a)∧(zo4 a).size≤6:=by
 obtain⟨u,rfl⟩:=Int.eq_ofNat_of_zero_le h0
 obtain⟨e,hs⟩:=zx2 5 (u:=u) (by omega) (by omega)
 have hd:zo4 (u:Int)=⟨(Lib.decDigits u).toArray⟩:=by unfold zo4;rw[zy9]
 rw[hd]
 exact⟨zza (f:=fun n_=>zbx n_ (u:Int)) e fun n b=>zqF n _ b,by simp[ByteArray.size];omega⟩
theorem zzN {a:Int}(h0:0≤a) (h1:a≤999999):(zfY a).size≤13:=by
 have:=(ztF h0 h1).2
 have h7:labP.size=7:=rfl
 unfold zfY
 rw[ByteArray.size_append,h7];omega
theorem zvA {a:Int}(h0:0≤a) (h1:a≤999999):zef a=some (zfY a):=by
 have hs:=(ztF h0 h1).2
 have e:zfE a=some (zo4 a):=by unfold zfE;rw[zcx (by omega)];rfl
 have h7:(⟨#[98,97,108,108,111,116,32]⟩:ByteArray).size=7:=rfl
 unfold zef
 rw[e,Option.bind_some,zcx (by rw[h7];omega)];rfl
theorem zvJ {a:Int}(h0:0≤a) (h1:a≤999999):zf9 a=some (zfY a):=by
 obtain⟨e,hs⟩:=ztF h0 h1
 have h7:(⟨#[98,97,108,108,111,116,32]⟩:ByteArray).size=7:=rfl
 unfold zf9
 rw[e,Option.bind_some,zcx (by rw[h7];omega)];rfl
section
variable {gr:Group}
theorem zEg (k:Gb gr) {s:ByteArray}(hs:s.size≤1000) {x w:Int}(hx:0≤x∧x≤2100000000) (hw:0≤w∧w≤2100000000):zf6 gr s [[gr.G]] [x] [w]=some (ziL gr s x w):=by
 have hq:=k.q
 have he:=zpb k s x w
 have hc:zbR gr s ([[gr.G]].flatten++[zav gr gr.G x]++[zav gr gr.G w])=some (ziI gr s x w):=by
  unfold zbR
  rw[zcx (by simp),ziq (by omega) (by simp) (zxQ k x w),Option.bind_some,zcx (by omega),Int.tmod_eq_emod_of_nonneg (zdt.1 (zif s _)).1];rfl
 unfold zf6
 rw[show ziL gr s x w=⟨[zav gr gr.G w],[ziI gr s x w],[(w+ziI gr s x w*x)%gr.Q]⟩from rfl]
 rw[zpH k,zpH k,Option.bind_some,Option.bind_some,zzY (by simp) (by simp) (by simp),Option.bind_some,hc,Option.bind_some]
 generalize ziI gr s x w=c at he hc
 have hm:0≤c*x:=Int.mul_nonneg he.1 hx.1
 have hm2:c*x≤2000000000*2100000000:=Int.mul_le_mul (by omega) hx.2 hx.1 (by omega)
 have hl:zap (σ:=List Int×List Int×List Int) (β:=List Int×List Int×List Int) (fun i18 s17=>(ix [x] i18).bind fun x24=>(ix [w] i18).bind fun x25=>gd (gr.Q≠0)<|gd ((s17.2.2.length+1)*8≤140737488355328∧s17.2.2.length+1≤4611686018427387904)<|
  some (.go (s17.1,s17.2.1,s17.2.2++[(IntKind.i64.wrap (x25+(IntKind.i64.wrap (c*x24)))).tmod gr.Q]))) (fun s17=>(s17.1,s17.2.1,s17.2.2)) ([x].length) 0 ([zav gr gr.G w],[c],[])=some ([zav gr gr.G w],[c],[(w+c*x)%gr.Q]):=by
  refine zal (zbi (fun i s=>s=if i=0 then([zav gr gr.G w],[c],[])else([zav gr gr.G w],[c],[(w+c*x)%gr.Q])) rfl ?_ fun s h=>h)
  rintro i s hi rfl
  have hi:i<1:=hi
  obtain rfl:i=0:=by omega
  refine za6 (l:=[x]) (by simp) (za6 (l:=[w]) (by simp) (zak (by omega) (zak (by simp) (zab ?_))))
  show(_,_,[(IntKind.i64.wrap (w+IntKind.i64.wrap (c*x))).tmod gr.Q])=_
  rw[zai (n:=c*x) (by omega) (by omega),zai (by omega) (by omega),Int.tmod_eq_emod_of_nonneg (by omega)];rfl
 rw[hl,Option.bind_some]
def stV (gr:Group) (key:Int) (c:Cipher) (lo:Int) (n:Nat):List EqualLog:=(List.range n).map fun(i:Nat)=>⟨gr.G,c.A,key,zeL gr [c.B,zav gr gr.G (0-(lo+(i:Int)))]⟩
theorem zlO (gr:Group) (key:Int) (c:Cipher) (lo:Int) (n:Nat):(stV gr key c lo n).length=n:=by simp[stV]
theorem zto (k:OkG gr) {key:Int}{c:Cipher}(hc:zoN gr c=true) {lo:Int}(h0:0≤lo∧lo≤1000) {n:Nat}(hn:n≤1000) {PW:Int→Option Int}{ML:List Int→Option Int}(hP:∀e,PW e=some (zav gr gr.G e)) (hM:∀x y,R9 x→R9 y→ML [x,y]=some (zeL gr [x,y])):zaQ (σ:=(List EqualLog)×Int) (fun s4=>
 if decide (s4.2≤lo+(n:Int)-1)=true then(
 (PW (IntKind.i64.wrap (0-s4.2))).bind fun z10=>
 (ML [c.B,z10]).bind fun z11=>
 gd ((s4.1.length+1)*32≤140737488355328∧s4.1.length+1≤4611686018427387904)<|
 some (.go (s4.1++[(EqualLog.mk gr.G c.A key z11)],IntKind.i64.wrap (s4.2+1))))else(
 some (.out s4.1))) ([],lo)=some (stV gr key c lo n):=by
 have hb:R9 c.B:=by
  simp only[zoN,Bool.and_eq_true]at hc
  exact zej k hc.2
 refine zal (zie n (fun i s=>s=(stV gr key c lo i,lo+(i:Int))∧i≤n) ⟨by simp[stV],by omega⟩ ?_ ?_)
 ·rintro i s hi ⟨rfl,_⟩
  refine zgl (by simp;omega) ?_
  dsimp only
  rw[zai (n:=0-(lo+(i:Int))) (by omega) (by omega),hP,Option.bind_some,hM _ _ hb (zdA k _ _),Option.bind_some]
  refine zak (by rw[zlO];omega) (zab ⟨?_,by omega⟩)
  rw[zai (n:=lo+(i:Int)+1) (by omega) (by omega)]
  refine Prod.ext ?_ (by show lo+(i:Int)+1=lo+((i+1:Nat):Int);omega)
  show stV gr key c lo i++_=stV gr key c lo (i+1)
  simp[stV,List.range_succ]
 rintro s ⟨rfl,_⟩
 exact zbl (by simp;omega) (zab rfl)
theorem zxS (k:OkG gr) {key:Int}{c:Cipher}(hc:zoN gr c=true) {lo hi:Int}(h0:0≤lo∧lo≤1000) {n:Nat}(hn:n≤1000) (hh:hi=lo+(n:Int)-1):zbG gr key c lo hi=some (stV gr key c lo n):=by
 subst hh
 unfold zbG
 rw[zto k hc h0 hn (fun e=>pwI k (r_G k) e) (fun x y hx hy=>m2I k hx hy)];rfl
theorem zx0 (k:OkG gr) {key:Int}{c:Cipher}(hc:zoN gr c=true) {lo hi:Int}(h0:0≤lo∧lo≤1000) {n:Nat}(hn:n≤1000) (hh:hi=lo+(n:Int)-1):zcF gr key c lo hi=some (stV gr key c lo n):=by
 subst hh
 unfold zcF
 rw[zto k hc h0 hn (fun e=>pwS k (r_G k) e) (fun x y hx hy=>m2S k hx hy)];rfl
end
def q0:EqualLog:=⟨0,0,0,0⟩
def siV (gr:Group) (g y c z:Int):Int:=zeL gr [zav gr g z,zav gr y (0-c)]
def ooN (gr:Group) (l:List EqualLog) (m:Nat) (w:Int) (coins:List Int):Nat→List Int×List Int×List Int×Nat
 |0=>([],[],[],0)
 |i+1=>
  let s:=ooN gr l m w coins i
  let e:=l.getD i q0
  if i=m then(s.1++[zav gr e.G1 w,zav gr e.G2 w],s.2.1++[0],s.2.2.1++[0],s.2.2.2)
  else(s.1++[siV gr e.G1 e.Y1 (coins.getD s.2.2.2 0) (coins.getD (s.2.2.2+1) 0),siV gr e.G2 e.Y2 (coins.getD s.2.2.2 0) (coins.getD (s.2.2.2+1) 0)],s.2.1++[coins.getD s.2.2.2 0],s.2.2.1++[coins.getD (s.2.2.2+1) 0],s.2.2.2+2)
def flE (l:List EqualLog):List Int:=l.flatMap fun e=>[e.G1,e.Y1,e.G2,e.Y2]
def ooE (gr:Group) (s:ByteArray) (l:List EqualLog) (S:List Int×List Int×List Int×Nat):Int:=chG gr s (flE l++S.1)
def ooC (gr:Group) (s:ByteArray) (l:List EqualLog) (S:List Int×List Int×List Int×Nat):Int:=(ooE gr s l S-smN gr.Q S.2.1 l.length)%gr.Q
def ooV (gr:Group) (s:ByteArray) (l:List EqualLog) (m:Nat) (x:Int) (coins:List Int):Proof:=
 let w:=coins.getD (coins.length-1) 0
 let S:=ooN gr l m w coins l.length
 ⟨S.1,S.2.1.set m (ooC gr s l S),S.2.2.1.set m ((w+ooC gr s l S*x)%gr.Q)⟩
structure OoOk (gr:Group) (s:ByteArray) (l:List EqualLog) (m:Nat) (x:Int) (coins:List Int):Prop where
 hs:s.size≤40
 hn:1≤l.length∧l.length≤8
 hl:∀e∈l,zaL gr e.G1=true∧zaL gr e.Y1=true∧zaL gr e.G2=true∧zaL gr e.Y2=true
 hm:m<l.length
 hx:E9 gr.Q x
 cl:coins.length=2*l.length-1
 hc:∀z∈coins,E9 gr.Q z
 ht:zav gr (l.getD m q0).G1 x=(l.getD m q0).Y1∧zav gr (l.getD m q0).G2 x=(l.getD m q0).Y2
section
variable {gr:Group}{s:ByteArray}{l:List EqualLog}{m:Nat}{x w:Int}{coins:List Int}
theorem zqb {i:Nat}(hi:i<l.length):l.getD i q0=l[i]:=by simp[List.getD,hi]
theorem zob (gr:Group) (l:List EqualLog) (m:Nat) (w:Int) (coins:List Int):∀i,(ooN gr l m w coins i).2.2.2=if i≤m then 2*i else 2*(i-1)
 |0=>by simp[ooN]
 |i+1=>by
  have h:=zob gr l m w coins i
  rw[ooN]
  by_cases e:i=m
  ·subst e
   rw[if_pos rfl,if_neg (by omega)]
   show(ooN gr l i w coins i).2.2.2=_
   rw[h,if_pos (Nat.le_refl _)];omega
  ·rw[if_neg e]
   show(ooN gr l m w coins i).2.2.2+2=_
   rw[h]
   by_cases hl:i≤m
   ·rw[if_pos hl,if_pos (by omega)];omega
   ·rw[if_neg hl,if_neg (by omega)];omega
theorem zkv (gr:Group) (l:List EqualLog) (m:Nat) (w:Int) (coins:List Int):∀i,(ooN gr l m w coins i).1.length=2*i∧(ooN gr l m w coins i).2.1.length=i∧(ooN gr l m w coins i).2.2.1.length=i
 |0=>⟨rfl,rfl,rfl⟩
 |i+1=>by
  obtain⟨h1,h2,h3⟩:=zkv gr l m w coins i
  rw[ooN]
  by_cases e:i=m
  ·rw[if_pos e];simp[h1,h2,h3];omega
  ·rw[if_neg e];simp[h1,h2,h3];omega
theorem zCr (k:OkG gr) (g y c z:Int):R9 (siV gr g y c z):=zzM k (zdA k _ _) (zdA k _ _)
theorem zp0 (k:OkG gr) (O:OoOk gr s l m x coins) (w:Int):∀i,i≤l.length→(∀z∈(ooN gr l m w coins i).1,R9 z)∧∀z∈(ooN gr l m w coins i).2.1,E9 gr.Q z
 |0,_=>⟨by intro z hz;simp[ooN]at hz,by intro z hz;simp[ooN]at hz⟩
 |i+1,hi=>by
  obtain⟨h1,h2⟩:=zp0 k O w i (by omega)
  have hq:=k.q
  have hnx:=zob gr l m w coins i
  have hc:i≠m→(ooN gr l m w coins i).2.2.2+1<coins.length:=fun e=>by
   have:=O.cl;have:=O.hm
   rw[hnx];split<;>omega
  rw[ooN]
  by_cases e:i=m
  ·rw[if_pos e]
   refine⟨apL h1 fun z hz=>?_,apL h2 fun z hz=>?_⟩
   ·simp only[List.mem_cons,List.not_mem_nil,or_false]at hz
    rcases hz with rfl|rfl<;>exact zdA k _ _
   ·rw[List.mem_singleton]at hz;subst hz;exact⟨Int.le_refl 0,by omega⟩
  ·rw[if_neg e]
   refine⟨apL h1 fun z hz=>?_,apL h2 fun z hz=>?_⟩
   ·simp only[List.mem_cons,List.not_mem_nil,or_false]at hz
    rcases hz with rfl|rfl<;>exact zCr k _ _ _ _
   ·rw[List.mem_singleton]at hz;subst hz;exact zhP O.hc (by have:=hc e;omega)
theorem zqs (l:List EqualLog):(flE l).length=4*l.length:=by
 induction l with
 |nil=>rfl
 |cons e l ih=>show([e.G1,e.Y1,e.G2,e.Y2]++flE l).length=_;simp[ih];omega
theorem ztc {l:List EqualLog}(hl:l.length≤1000):zap (σ:=(List Int)) (fun i5 s4=>
 (ix l i5).bind fun x11=>
 gd ((s4.length+4)*8≤140737488355328∧s4.length+4≤4611686018427387904)<|
 some (.go (s4++[x11.G1,x11.Y1,x11.G2,x11.Y2]))) (fun s4=>s4) (l.length) 0 []=some (flE l):=by
 refine zal (zbi (fun i s=>s=flE (l.take i)∧i≤l.length) ⟨rfl,by omega⟩ ?_ fun s h=>by rw[h.1,List.take_length])
 rintro i s hi ⟨rfl,_⟩
 have hn:(flE (l.take i)).length=4*i:=by rw[zqs,List.length_take];omega
 refine za6 hi (zak (by omega) (zab ⟨?_,by omega⟩))
 rw[List.take_succ_eq_append_getElem hi]
 show flE (l.take i)++_=flE (l.take i++[l[i]])
 unfold flE
 rw[List.flatMap_append];rfl
theorem zvO (k:OkG gr) (O:OoOk gr s l m x coins) {S:List Int}(hS:∀z∈S,R9 z):(flE l++S).all za8=true:=by
 rw[List.all_append,zqa hS,Bool.and_true]
 refine zqa fun z hz=>?_
 obtain⟨e,he,hz⟩:=List.mem_flatMap.1 hz
 obtain⟨h1,h2,h3,h4⟩:=O.hl e he
 simp only[List.mem_cons,List.not_mem_nil,or_false]at hz
 rcases hz with rfl|rfl|rfl|rfl
 ·exact zej k h1
 ·exact zej k h2
 ·exact zej k h3
 exact zej k h4
theorem zAG (k:OkG gr) {e:EqualLog}{c z:Int}(he:zaL gr e.G1=true∧zaL gr e.Y1=true∧zaL gr e.G2=true∧zaL gr e.Y2=true) (hc:E9 gr.Q c):zck gr e c z=some (siV gr e.G1 e.Y1 c z,siV gr e.G2 e.Y2 c z):=by
 unfold zck
 rw[wrL k hc]
 exact zal (zae (pwI k (zej k he.1) _) (zae (pwI k (zej k he.2.1) _) (zae (m2I k (zdA k _ _) (zdA k _ _)) (zae (pwI k (zej k he.2.2.1) _) (zae (pwI k (zej k he.2.2.2) _) (zae (m2I k (zdA k _ _) (zdA k _ _)) (zab rfl)))))))
theorem zya (k:OkG gr) (O:OoOk gr s l m x coins):zcW gr s l (m:Int) x coins=some (ooV gr s l m x coins,true):=by
 have hq:=k.q
 have hp:=k.p
 have hn:=O.hn
 have hm:=O.hm
 have hcl:=O.cl
 have w1:IntKind.i64.wrap ((l.length:Int)-1)=(l.length:Int)-1:=zai (by omega) (by omega)
 have w2:IntKind.i64.wrap (IntKind.i64.wrap (2*(l.length:Int))-1)=((2*l.length-1:Nat):Int):=by
  rw[zai (n:=2*(l.length:Int)) (by omega) (by omega),zai (by omega) (by omega)];omega
 have w3:IntKind.i64.wrap ((coins.length:Int)-1)=((coins.length-1:Nat):Int):=by rw[zai (by omega) (by omega)];omega
 have hst:zcc gr l=some true:=by
  unfold zcc
  have hcf:zar l gr.P gr.Q gr.G=some (l.any fun _=>false):=zzP (f:=fun e=>zbN e gr.P gr.Q gr.G) fun e he=>by
   obtain⟨h1,h2,h3,h4⟩:=O.hl e he
   have hh:zcz gr e=some true:=by
    unfold zcz
    rw[zq2 k]
    simp[h1,h2,h3,h4]
   unfold zbN
   show(zcz gr e).bind _=_
   rw[hh];rfl
  rw[zdH,hcf]
  have:(decide ((1:Int)≤(l.length:Int))&&decide ((l.length:Int)≤8))=true:=by simp;omega
  rw[this]
  simp
 have hti:zdX gr (l.getD m q0) x=some true:=by
  have hg:=zqb hm
  obtain⟨h1,h2,h3,h4⟩:=O.hl _ (List.getElem_mem hm)
  rw[←hg]at h1 h3
  unfold zdX
  rw[pwI k (zej k h1),Option.bind_some,O.ht.1,beq_self_eq_true,if_pos rfl,pwI k (zej k h3),O.ht.2]
  simp
 have hc9:[x].all (zhg gr)=true:=by simp[zjc.2 O.hx]
 have hw:=O.hc
 unfold zcW
 have hlb:zdi s=some true:=by unfold zdi;rw[decide_eq_true (by have:=O.hs;omega)]
 have hwi:zaB (m:Int) 0 ((l.length:Int)-1)=some true:=by rw[zdH];congr 1;simp;omega
 rw[znr,zmz.2 k,hlb,hst,w1,hwi,zsP (by omega) (by omega),zjc.2 O.hx,w2,zlY (by omega) (by omega),exL O.hc,w3]
 have hS:=zhB (σ:=List Int×List Int×List Int×Int) (γ:=List Int×List Int×List Int) (n:=l.length) (stop:=fun s41=>(s41.1,s41.2.1,s41.2.2.1)) (s0:=([],[],[],0)) (body:=fun i42 s41=>
  (ix l i42).bind fun x48=>
  ((if(i42==(m:Int))=true then(
  (zau gr x48.G1 (coins.getD (coins.length-1) 0)).bind fun z53=>
  (zau gr x48.G2 (coins.getD (coins.length-1) 0)).bind fun z54=>
  some (s41.2.2.2,0,0,z53,z54))else(
  (ix coins s41.2.2.2).bind fun x55=>
  (ix coins (IntKind.i64.wrap (s41.2.2.2+1))).bind fun x56=>
  (zck gr x48 x55 x56).bind fun z57=>
  some (IntKind.i64.wrap (s41.2.2.2+2),x55,x56,z57.1,z57.2)):Option ((Int×Int×Int×Int×Int))).bind fun x51=>
  gd ((s41.1.length+2)*8≤140737488355328∧s41.1.length+2≤4611686018427387904)<|
  gd ((s41.2.1.length+1)*8≤140737488355328∧s41.2.1.length+1≤4611686018427387904)<|
  gd ((s41.2.2.1.length+1)*8≤140737488355328∧s41.2.2.1.length+1≤4611686018427387904)<|
  some (.go (s41.1++[x51.2.2.2.1,x51.2.2.2.2],s41.2.1++[x51.2.1],s41.2.2.1++[x51.2.2.1],x51.1))))
  (fun i=>let S:=ooN gr l m (coins.getD (coins.length-1) 0) coins i;(S.1,S.2.1,S.2.2.1,(S.2.2.2:Int))) rfl fun i hi=>by
    have hnx:=zob gr l m (coins.getD (coins.length-1) 0) coins i
    obtain⟨l1,l2,l3⟩:=zkv gr l m (coins.getD (coins.length-1) 0) coins i
    have hO:=O.hl _ (List.getElem_mem hi)
    have hg:=zqb hi
    refine za6 hi ?_
    dsimp only
    rw[ooN]
    by_cases e:i=m
    ·rw[if_pos e]
     refine zaf (ψ:=(· =(((ooN gr l m (coins.getD (coins.length-1) 0) coins i).2.2.2:Int),0,0,zav gr l[i].G1 (coins.getD (coins.length-1) 0),zav gr l[i].G2 (coins.getD (coins.length-1) 0)))) (zgl (by simp[e]) (zae (pwI k (zej k hO.1) _) (zae (pwI k (zej k hO.2.2.1) _) (zab rfl)))) ?_
     rintro _ rfl
     refine zak (by omega) (zak (by omega) (zak (by omega) (zab ?_)))
     rw[hg]
    ·rw[if_neg e]
     have hc:(ooN gr l m (coins.getD (coins.length-1) 0) coins i).2.2.2+1<coins.length:=by rw[hnx];split<;>omega
     generalize hS0:ooN gr l m (coins.getD (coins.length-1) 0) coins i=S at l1 l2 l3 hc⊢
     have w5:IntKind.i64.wrap ((S.2.2.2:Int)+1)=((S.2.2.2+1:Nat):Int):=wNL (by omega) (by omega)
     have w6:IntKind.i64.wrap ((S.2.2.2:Int)+2)=((S.2.2.2+2:Nat):Int):=wNL (by omega) (by omega)
     refine zaf (ψ:=(· =(((S.2.2.2+2:Nat):Int),coins.getD S.2.2.2 0,coins.getD (S.2.2.2+1) 0,siV gr l[i].G1 l[i].Y1 (coins.getD S.2.2.2 0) (coins.getD (S.2.2.2+1) 0),siV gr l[i].G2 l[i].Y2 (coins.getD S.2.2.2 0) (coins.getD (S.2.2.2+1) 0)))) (zbl (by simp;omega) (zae (zfx (by omega)) ?_)) ?_
     ·rw[w5,w6]
      exact zae (zfx (by omega)) (zae (zAG k hO (zhP O.hc (by omega))) (zab rfl))
     rintro _ rfl
     refine zak (by omega) (zak (by omega) (zak (by omega) (zab ?_)))
     rw[hg]
 have hx0:ix l (m:Int)=some (l.getD m q0):=by rw[zeG hm,zqb hm]
 have hE:((coins.length:Int) !=((2*l.length-1:Nat):Int))=false:=by rw[hcl];simp
 rw[hE]
 refine zal (zaf (ψ:=(· =false)) (zae rfl (zbl rfl (zae rfl (zbl rfl (zae rfl (zbl rfl (zae rfl (zbl rfl (zae rfl (zbl rfl (zbl rfl (zae rfl (zbl rfl (zae hx0 (zae hti (zab rfl)))))))))))))))) ?_)
 rintro _ rfl
 refine zbl rfl (zae (zfx (by omega)) (zae hS ?_))
 obtain⟨l1,l2,l3⟩:=zkv gr l m (coins.getD (coins.length-1) 0) coins l.length
 obtain⟨g1,g2⟩:=zp0 k O (coins.getD (coins.length-1) 0) l.length (Nat.le_refl _)
 have hV:ooV gr s l m x coins=(let w:=coins.getD (coins.length-1) 0;let S:=ooN gr l m w coins l.length;⟨S.1,S.2.1.set m (ooC gr s l S),S.2.2.1.set m ((w+ooC gr s l S*x)%gr.Q)⟩):=rfl
 rw[hV]
 dsimp only
 have hwb:E9 gr.Q (coins.getD (coins.length-1) 0):=zhP O.hc (by omega)
 generalize ooN gr l m (coins.getD (coins.length-1) 0) coins l.length=S at l1 l2 l3 g1 g2⊢
 generalize coins.getD (coins.length-1) 0=w at hwb⊢
 have hfl:=zqs l
 have hch:zb3 gr s l S.1=some (ooE gr s l S,true):=by
  unfold zb3
  rw[ztc (by omega)]
  exact zal (zae rfl (zak (by omega) (zae (chL k O.hs (by rw[List.length_append];omega) (zvO k O g1)).1 (zab rfl))))
 have hEb:E9 gr.Q (ooE gr s l S):=zvZ k _ _
 have hsm:E9 gr.Q (smN gr.Q S.2.1 S.2.1.length):=zoc (by omega) _ _
 refine zae hch (zbl rfl (zae (zBc (by omega) g2).1 ?_))
 have e1:(IntKind.i64.wrap (ooE gr s l S-smN gr.Q S.2.1 S.2.1.length))%gr.Q=ooC gr s l S:=by
  unfold ooC
  rw[l2]at hsm⊢
  have h1:=hEb.1;have h2:=hEb.2;have h3:=hsm.1;have h4:=hsm.2
  rw[zai (by omega) (by omega)]
 have hC:E9 gr.Q (ooC gr s l S):=zla (by omega) _
 refine zae (zrm k _) ?_
 rw[e1]
 have hmm:m<S.2.1.length:=by omega
 refine zae (zfx hmm) (zae (a:=ooC gr s l S) ?_ ?_)
 ·rw[Int.toNat_natCast,zeG (show m<(S.2.1.set m (ooC gr s l S)).length by simpa using hmm)];simp
 refine zae (zrm k _) (zae (zfx (show m<S.2.2.1.length by omega)) (zab ?_))
 rw[(zBm (q:=gr.Q) (by omega) hwb hC O.hx).1,Int.toNat_natCast]
theorem zwu {q:Int}{l m:List Int}:∀{i:Nat},i≤l.length→smN q (l++m) i=smN q l i
 |0,_=>rfl
 |i+1,h=>by
  show(smN q (l++m) i+(l++m).getD i 0)%q=(smN q l i+l.getD i 0)%q
  rw[zwu (by omega)]
  simp[List.getD,List.getElem?_append_left (show i<l.length by omega)]
theorem ztn {q a:Int}{l:List Int}{i:Nat}(h:l.length=i):smN q (l++[a]) (i+1)=(smN q l i+a)%q:=by
 show(smN q (l++[a]) i+(l++[a]).getD i 0)%q=_
 rw[zwu (by omega)]
 subst h;simp[List.getD]
theorem zx3 (k:OkG gr) (O:OoOk gr s l m x coins):zes gr s l (m:Int) x coins=some (ooV gr s l m x coins):=by
 have hq:=k.q
 have hp:=k.p
 have hn:=O.hn
 have hm:=O.hm
 have hcl:=O.cl
 have w3:IntKind.i64.wrap ((coins.length:Int)-1)=((coins.length-1:Nat):Int):=by rw[zai (by omega) (by omega)];omega
 unfold zes
 rw[w3]
 have hS:=zhB (σ:=List Int×List Int×List Int×List Int×Int) (γ:=List Int×List Int×List Int×Int) (n:=l.length) (stop:=fun s27=>(s27.2.1,s27.2.2.1,s27.2.2.2.1,s27.2.2.2.2)) (s0:=(coins,[],[],[],0)) (body:=fun i28 s27=>
  (((ix l i28).bind fun x37=>
  if(i28==(m:Int))=true then(
  (zaA gr x37.G1 (coins.getD (coins.length-1) 0)).bind fun z39=>
  (zaA gr x37.G2 (coins.getD (coins.length-1) 0)).bind fun z40=>
  gd ((s27.2.1.length+2)*8≤140737488355328∧s27.2.1.length+2≤4611686018427387904)<|
  gd ((s27.2.2.1.length+1)*8≤140737488355328∧s27.2.2.1.length+1≤4611686018427387904)<|
  gd ((s27.2.2.2.1.length+1)*8≤140737488355328∧s27.2.2.2.1.length+1≤4611686018427387904)<|
  some (s27.1,s27.2.1++[z39,z40],s27.2.2.1++[0],s27.2.2.2.1++[0],s27.2.2.2.2))else(
  (ix s27.1 0).bind fun x41=>
  (ix s27.1 1).bind fun x42=>
  gd (2≤s27.1.length∧s27.1.length≤s27.1.length)<|
  (zaA gr x37.G1 x42).bind fun z43=>
  (zaA gr x37.Y1 (IntKind.i64.wrap (0-x41))).bind fun z44=>
  (zbL gr [z43,z44]).bind fun z45=>
  (zaA gr x37.G2 x42).bind fun z46=>
  (zaA gr x37.Y2 (IntKind.i64.wrap (0-x41))).bind fun z47=>
  (zbL gr [z46,z47]).bind fun z48=>
  gd ((s27.2.1.length+2)*8≤140737488355328∧s27.2.1.length+2≤4611686018427387904)<|
  gd ((s27.2.2.1.length+1)*8≤140737488355328∧s27.2.2.1.length+1≤4611686018427387904)<|
  gd ((s27.2.2.2.1.length+1)*8≤140737488355328∧s27.2.2.2.1.length+1≤4611686018427387904)<|
  gd (gr.Q≠0)<|
  some ((s27.1.take s27.1.length).drop 2,s27.2.1++[z45,z48],s27.2.2.1++[x41],s27.2.2.2.1++[x42],(IntKind.i64.wrap (s27.2.2.2.2+x41)).tmod gr.Q)):Option ((List Int×List Int×List Int×List Int×Int))).bind fun x36=>
  some (.go (x36.1,x36.2.1,x36.2.2.1,x36.2.2.2.1,x36.2.2.2.2))))
  (fun i=>let S:=ooN gr l m (coins.getD (coins.length-1) 0) coins i;(coins.drop S.2.2.2,S.1,S.2.1,S.2.2.1,smN gr.Q S.2.1 i)) rfl fun i hi=>by
    have hnx:=zob gr l m (coins.getD (coins.length-1) 0) coins i
    obtain⟨l1,l2,l3⟩:=zkv gr l m (coins.getD (coins.length-1) 0) coins i
    have hO:=O.hl _ (List.getElem_mem hi)
    have hg:=zqb hi
    dsimp only
    rw[ooN]
    generalize hS0:ooN gr l m (coins.getD (coins.length-1) 0) coins i=S at hnx l1 l2 l3⊢
    have hse:=zoc (show 0<gr.Q by omega) S.2.1 i
    by_cases e:i=m
    ·rw[if_pos e]
     refine zaf (ψ:=(· =(coins.drop S.2.2.2,S.1++[zav gr l[i].G1 (coins.getD (coins.length-1) 0),zav gr l[i].G2 (coins.getD (coins.length-1) 0)],S.2.1++[0],S.2.2.1++[0],smN gr.Q S.2.1 i))) (za6 hi (zgl (by simp[e]) (zae (pwS k (zej k hO.1) _) (zae (pwS k (zej k hO.2.2.1) _) (zak (by omega) (zak (by omega) (zak (by omega) (zab rfl)))))))) ?_
     rintro _ rfl
     refine zab ?_
     dsimp only
     rw[hg,ztn l2,Int.add_zero,Int.emod_eq_of_lt hse.1 hse.2]
    ·rw[if_neg e]
     have hc:S.2.2.2+1<coins.length:=by rw[hnx];split<;>omega
     have hca:=zhP O.hc (i:=S.2.2.2) (by omega)
     have e0:ix (coins.drop S.2.2.2) 0=some (coins.getD S.2.2.2 0):=by
      rw[show(0:Int)=((0:Nat):Int)from rfl,zfx (by rw[List.length_drop];omega)];simp[List.getD]
     have e1:ix (coins.drop S.2.2.2) 1=some (coins.getD (S.2.2.2+1) 0):=by
      rw[show(1:Int)=((1:Nat):Int)from rfl,zfx (by rw[List.length_drop];omega)];simp[List.getD]
     have hse1:=hse.1
     have hse2:=hse.2
     have hca1:=hca.1
     have hca2:=hca.2
     have e2:(IntKind.i64.wrap (smN gr.Q S.2.1 i+coins.getD S.2.2.2 0)).tmod gr.Q=(smN gr.Q S.2.1 i+coins.getD S.2.2.2 0)%gr.Q:=by
      rw[zai (by omega) (by omega),Int.tmod_eq_emod_of_nonneg (by omega)]
     refine zaf (ψ:=(· =(coins.drop (S.2.2.2+2),S.1++[siV gr l[i].G1 l[i].Y1 (coins.getD S.2.2.2 0) (coins.getD (S.2.2.2+1) 0),siV gr l[i].G2 l[i].Y2 (coins.getD S.2.2.2 0) (coins.getD (S.2.2.2+1) 0)],S.2.1++[coins.getD S.2.2.2 0],S.2.2.1++[coins.getD (S.2.2.2+1) 0],(smN gr.Q S.2.1 i+coins.getD S.2.2.2 0)%gr.Q))) (za6 hi (zbl (by simp;omega) (zae e0 (zae e1 (zak (by rw[List.length_drop];omega) ?_))))) ?_
     ·rw[wrL k hca]
      refine zae (pwS k (zej k hO.1) _) (zae (pwS k (zej k hO.2.1) _) (zae (m2S k (zdA k _ _) (zdA k _ _)) (zae (pwS k (zej k hO.2.2.1) _) (zae (pwS k (zej k hO.2.2.2) _) (zae (m2S k (zdA k _ _) (zdA k _ _)) (zak (by omega) (zak (by omega) (zak (by omega) (zak (by omega) (zab ?_))))))))))
      rw[e2,List.take_length,List.drop_drop];rfl
     rintro _ rfl
     refine zab ?_
     dsimp only
     rw[hg,ztn l2]
 refine zal (zae (zfx (by omega)) (zae hS ?_))
 obtain⟨l1,l2,l3⟩:=zkv gr l m (coins.getD (coins.length-1) 0) coins l.length
 obtain⟨g1,g2⟩:=zp0 k O (coins.getD (coins.length-1) 0) l.length (Nat.le_refl _)
 have hV:ooV gr s l m x coins=(let w:=coins.getD (coins.length-1) 0;let S:=ooN gr l m w coins l.length;⟨S.1,S.2.1.set m (ooC gr s l S),S.2.2.1.set m ((w+ooC gr s l S*x)%gr.Q)⟩):=rfl
 rw[hV]
 dsimp only
 have hwb:E9 gr.Q (coins.getD (coins.length-1) 0):=zhP O.hc (by omega)
 generalize ooN gr l m (coins.getD (coins.length-1) 0) coins l.length=S at l1 l2 l3 g1 g2⊢
 generalize coins.getD (coins.length-1) 0=w at hwb⊢
 have hfl:=zqs l
 have hch:zf3 gr s l S.1=some (ooE gr s l S):=by
  unfold zf3
  rw[ztc (by omega)]
  exact zal (zae rfl (zak (by omega) (zae (chL k O.hs (by rw[List.length_append];omega) (zvO k O g1)).2 (zab rfl))))
 have hEb:E9 gr.Q (ooE gr s l S):=zvZ k _ _
 have hsm:E9 gr.Q (smN gr.Q S.2.1 l.length):=zoc (by omega) _ _
 have e1:(IntKind.i64.wrap (ooE gr s l S-smN gr.Q S.2.1 l.length))%gr.Q=ooC gr s l S:=by
  unfold ooC
  have h1:=hEb.1;have h2:=hEb.2;have h3:=hsm.1;have h4:=hsm.2
  rw[zai (by omega) (by omega)]
 have hC:E9 gr.Q (ooC gr s l S):=zla (by omega) _
 refine zae hch (zae (zos (by omega) (by omega)) ?_)
 rw[e1]
 refine zae (zfx (show m<S.2.1.length by omega)) (zak (by omega) (zae (zfx (show m<S.2.2.1.length by omega)) (zab ?_)))
 rw[(zBm (q:=gr.Q) (by omega) hwb hC O.hx).2,Int.toNat_natCast]
end
theorem zvV {ct:Contest}(k:OkC ct) {v:List Int}(hv:zfv ct v=true):zcB ct v=some (zep ct v):=by
 unfold zcB zep
 unfold zfv at hv
 rcases k.k with⟨k1|k3,ho,hm,hp⟩|⟨k2,ho,hp,hm⟩|⟨k4,ho,hm,hp⟩
 ·simp only[k1,if_true,Bool.and_eq_true]at hv⊢
  rw[zts,if_pos (show((1:Int)==1)=true from rfl),zk6 (by omega) hv.1.1];rfl
 ·simp only[k3,show¬(3:Int)=1 by omega,show¬(3:Int)=2 by omega,if_false,if_true,Bool.and_eq_true]at hv⊢
  have hl:=zcM.1 hv.2.2
  simp only[show((3:Int)==1)=false from rfl,show((3:Int)==3)=true from rfl,Bool.false_eq_true,if_false,if_true]
  have e:zap (σ:=(List Int)) (fun i8 s7=>(ix v i8).bind fun x14=>gd ((s7.length+1)*8≤140737488355328∧s7.length+1≤4611686018427387904)<|some (.go (s7++[IntKind.i64.wrap (x14+1)]))) (fun s7=>s7) (v.length) 0 []=some (v.map (· +1)):=by
   refine zal (zbi (fun i s=>s=(v.take i).map (· +1)∧i≤v.length) ⟨rfl,by omega⟩ ?_ fun s h=>by rw[h.1,List.take_length])
   rintro i s hi ⟨rfl,_⟩
   have hx:=zcM.1 (List.all_eq_true.1 hv.1 v[i] (List.getElem_mem hi))
   refine za6 hi (zak (by simp;omega) (zab ⟨?_,by omega⟩))
   rw[zai (n:=v[i]+1) (by omega) (by omega),List.take_succ_eq_append_getElem hi,List.map_append];rfl
  rw[e];rfl
 ·simp only[k2,show¬(2:Int)=1 by omega,show¬(2:Int)=3 by omega,if_false,if_true,Bool.and_eq_true,decide_eq_true_eq]at hv⊢
  have:=hv.1
  simp only[show((2:Int)==1)=false from rfl,show((2:Int)==3)=false from rfl,Bool.false_eq_true,if_false]
  unfold zda
  rw[zcx (by omega)];rfl
 simp only[k4,show¬(4:Int)=1 by omega,show¬(4:Int)=2 by omega,show¬(4:Int)=3 by omega,if_false,Bool.and_eq_true]at hv⊢
 have hl:=zcM.1 hv.2
 simp only[show((4:Int)==1)=false from rfl,show((4:Int)==3)=false from rfl,Bool.false_eq_true,if_false]
 unfold zda
 rw[zcx (by omega)];rfl
theorem zAt {ct:Contest}(k:OkC ct) {v:List Int}(hv:zfv ct v=true):zdY ct v=some (zlT ct v):=by
 obtain⟨_,h1,h2⟩:=zqo k hv
 have hb:zaK ct=some (zlo ct)∧1≤zlo ct∧zlo ct≤27:=by
  unfold zaK zlo
  rcases k.k with⟨k1|k3,ho,hm,hp⟩|⟨k2,ho,hp,hm⟩|⟨k4,ho,hm,hp⟩
  ·rw[k1];exact⟨rfl,by simp,by simp⟩
  ·rw[k3,zai (n:=ct.Options+1) (by omega) (by omega)];exact⟨rfl,by simp;omega,by simp;omega⟩
  ·rw[k2,zai (n:=ct.Points+1) (by omega) (by omega)];exact⟨rfl,by simp;omega,by simp;omega⟩
  ·rw[k4];exact⟨rfl,by simp,by simp⟩
 unfold zdY
 rw[zvV k hv,Option.bind_some,hb.1,Option.bind_some,zjz (by omega) h2 (zfu (Int.le_refl 0) (by omega) h1)];rfl
theorem zAm {ct:Contest}(k:OkC ct) {v:List Int}(hv:zfv ct v=true):zbW ct v=some (zoO ct v):=by
 unfold zbW zoO
 rw[ziB,Option.bind_some,show(ct.Kind==1||ct.Kind==2)=zd9 ct from rfl,zvV k hv,zAt k hv]
 cases zd9 ct<;>rfl
theorem zwZ {ct:Contest}(k:OkC ct):zdD ct=some (zjr ct):=by
 unfold zdD zjr
 rw[zmC,show(ct.Kind==1||ct.Kind==2)=zd9 ct from rfl]
 cases h:zd9 ct with
 |false=>rfl
 |true=>
  obtain⟨h1,h2,h3,h4⟩:=zmw k h
  have e1:(2*zdw ct+2)*ct.Options≤12*8:=Int.mul_le_mul (by omega) h1.2 (by omega) (by omega)
  have e2:0≤(2*zdw ct+2)*ct.Options:=Int.mul_nonneg (by omega) (by omega)
  have e3:ct.Options*zdw ct≤8*5:=Int.mul_le_mul h1.2 h2.2 (by omega) (by omega)
  rw[zwq (.inl h),if_pos h]
  simp only[Option.bind_some,Bool.not_true,Bool.false_eq_true,if_false,if_true]
  rw[zai (n:=2*zdw ct) (by omega) (by omega),zai (n:=2*zdw ct+2) (by omega) (by omega),zai (n:=(2*zdw ct+2)*ct.Options) (by omega) (by omega),zai (n:=ct.Most-ct.Least) (by omega) (by omega),zai (n:=2*(ct.Most-ct.Least)) (by omega) (by omega),zai (n:=(2*zdw ct+2)*ct.Options+2*(ct.Most-ct.Least)) (by omega) (by omega),zai (by omega) (by omega),Int.mul_comm]
def cK (gr:Group) (key e r:Int):Cipher:=⟨zav gr gr.G r,zeL gr [zav gr gr.G e,zav gr key r]⟩
theorem zxO {gr:Group}(k:OkG gr) {key:Int}(hk:zaL gr key=true) (e r:Int):zbK gr key (zav gr gr.G e) r=some (cK gr key e r):=(zpu k hk (zqK k (zgb k) e) r).1
theorem zte {gr:Group}(k:OkG gr) {key:Int}(hk:zaL gr key=true) (e r:Int):zfs gr key e r=some (cK gr key e r):=by
 unfold zfs
 rw[pwS k (r_G k),Option.bind_some,(zpu k hk (zqK k (zgb k) e) r).2];rfl
theorem zn5 {gr:Group}(k:OkG gr) {key:Int}(hk:zaL gr key=true) (e r:Int):cK gr key e r=⟨pg gr r,pg gr (e+dl gr key*r)⟩:=by
 have h:=zBj k hk
 unfold cK
 rw[←zkK k,←zvS k,←h];rfl
theorem zuX {gr:Group}(k:OkG gr) {key:Int}(hk:zaL gr key=true) (e r:Int):zoN gr (cK gr key e r)=true:=by
 rw[zn5 k hk]
 show(zaL gr (pg gr r)&&zaL gr (pg gr _))=true
 rw[zkL k,zkL k];rfl
theorem zxN {gr:Group}(k:OkG gr) {key:Int}(hk:zaL gr key=true) {s:ByteArray}{e r lo:Int}{m n:Nat}{c:Cipher}{coins:List Int}(hc:c=⟨pg gr r,pg gr (e+dl gr key*r)⟩) (he:e=lo+(m:Int)) (hs:s.size≤40) (hm:m<n) (hn:n≤8) (hr:E9 gr.Q r) (hl:coins.length=2*n-1) (ha:∀z∈coins,E9 gr.Q z):OoOk gr s (stV gr key c lo n) m r coins:=by
 have hd:=zBj k hk
 subst hc
 have hY:∀j:Int,zeL gr [pg gr (e+dl gr key*r),zav gr gr.G j]=pg gr (e+dl gr key*r+j):=fun j=>zkK k _ _
 refine⟨hs,⟨by rw[zlO];omega,by rw[zlO];omega⟩,?_,by rw[zlO];exact hm,hr,by rw[zlO];exact hl,ha,?_⟩
 ·intro x hx
  obtain⟨i,_,rfl⟩:=List.mem_map.1 hx
  dsimp only
  rw[hY]
  exact⟨zgb k,zkL k _,hk,zkL k _⟩
 have e1:(stV gr key ⟨pg gr r,pg gr (e+dl gr key*r)⟩ lo n).getD m q0=⟨gr.G,pg gr r,key,pg gr (dl gr key*r)⟩:=by
  unfold stV
  rw[List.getD,List.getElem?_map,List.getElem?_range hm]
  show EqualLog.mk gr.G (pg gr r) key (zeL gr [pg gr (e+dl gr key*r),zav gr gr.G (0-(lo+(m:Int)))])=_
  rw[hY,show e+dl gr key*r+(0-(lo+(m:Int)))=dl gr key*r by omega]
 rw[e1]
 refine⟨rfl,?_⟩
 show zav gr key r=pg gr (dl gr key*r)
 rw[←zvS k,←hd]
attribute [local irreducible] ooV stV chG
def smE (d:List Int):Nat→Int:=smL fun i=>d.getD i 0
def srN (Q:Int) (r:Nat→Int):Nat→Int
 |0=>0
 |i+1=>(srN Q r i+r i)%Q
def svR (coins:List Int) (q i:Nat):Int:=coins.getD (i*(2*q+2)) 0
def svC (gr:Group) (key:Int) (d coins:List Int) (q i:Nat):Cipher:=cK gr key (d.getD i 0) (svR coins q i)
def svP (gr:Group) (key:Int) (lab:ByteArray) (d coins:List Int) (q i:Nat):Proof:=ooV gr lab (stV gr key (svC gr key d coins q i) 0 (q+1)) (d.getD i 0).toNat (svR coins q i) (((coins.drop (i*(2*q+2))).take (2*q+2)).drop 1)
structure SvOk (gr:Group) (key:Int) (lab:ByteArray) (d coins:List Int) (q:Nat):Prop where
 k:OkG gr
 hk:zaL gr key=true
 hs:lab.size≤40
 hn:d.length≤8
 hq:1≤q∧q≤5
 hd:∀z∈d,0≤z∧z≤(q:Int)
 hl:d.length*(2*q+2)≤coins.length∧coins.length≤300
 hc:∀z∈coins,E9 gr.Q z
theorem zxd {Q:Int}(h:0<Q) (r:Nat→Int):∀n,E9 Q (srN Q r n)
 |0=>⟨Int.le_refl 0,h⟩
 |n+1=>zla h _
theorem zx5 (Q:Int) (r:Nat→Int):∀n,srN Q r n%Q=smL r n%Q
 |0=>rfl
 |n+1=>by
  show(srN Q r n+r n)%Q%Q=(smL r n+r n)%Q
  rw[Int.emod_emod,Int.add_emod,zx5 Q r n,←Int.add_emod]
section
variable {gr:Group}{key:Int}{lab:ByteArray}{d coins:List Int}{q:Nat}
theorem zuD (S:SvOk gr key lab d coins q) {i:Nat}(hi:i<d.length):i*(2*q+2)+(2*q+2)≤coins.length:=by
 have h:=Nat.mul_le_mul_right (2*q+2) (show i+1≤d.length by omega)
 rw[Nat.succ_mul]at h
 exact Nat.le_trans h S.hl.1
theorem ztO (S:SvOk gr key lab d coins q) {i:Nat}(hi:i<d.length):0≤d.getD i 0∧d.getD i 0≤(q:Int):=zhP S.hd hi
theorem zwx (S:SvOk gr key lab d coins q) {i:Nat}(hi:i<d.length):E9 gr.Q (svR coins q i):=zhP S.hc (by have:=zuD S hi;have:=S.hq;omega)
theorem zty (S:SvOk gr key lab d coins q):∀i,i≤d.length→0≤smE d i∧smE d i≤5*(i:Int)
 |0,_=>⟨Int.le_refl 0,Int.le_refl 0⟩
 |i+1,hi=>by
  have h:=zty S i (by omega)
  have hd:=ztO S (i:=i) (by omega)
  have hq:=S.hq
  show 0≤smE d i+d.getD i 0∧smE d i+d.getD i 0≤5*((i+1:Nat):Int)
  omega
theorem zux (S:SvOk gr key lab d coins q) {i:Nat}(hi:i<d.length):OoOk gr lab (stV gr key (svC gr key d coins q i) 0 (q+1)) (d.getD i 0).toNat (svR coins q i) (((coins.drop (i*(2*q+2))).take (2*q+2)).drop 1):=by
 have hd:=ztO S hi
 have ha:=zuD S hi
 have hq:=S.hq
 refine zxN S.k S.hk (zn5 S.k S.hk _ _) (by omega) S.hs (by omega) (by omega) (zwx S hi) ?_ fun z hz=>S.hc z (List.mem_of_mem_drop (List.mem_of_mem_take (List.mem_of_mem_drop hz)))
 rw[List.length_drop,List.length_take,List.length_drop];omega
theorem zJt (S:SvOk gr key lab d coins q) {ct:Contest}(hm:zbB ct=some (q:Int)) (voter:Int):zap (σ:=Int×List Cipher×List Proof×List Int×List Int×List Int×Int×Int) (β:=(Int×List Cipher×List Proof×List Int×List Int×List Int×Int×Int) ⊕ (Sealed×Bool)) (fun i62 s61=>
 (ix d i62).bind fun x68=>
 gd (0≤(IntKind.i64.wrap (i62*(IntKind.i64.wrap ((IntKind.i64.wrap (2*(q:Int)))+2)))))<|
 gd (0≤(IntKind.i64.wrap ((IntKind.i64.wrap (i62+1))*(IntKind.i64.wrap ((IntKind.i64.wrap (2*(q:Int)))+2)))))<|
 gd ((IntKind.i64.wrap (i62*(IntKind.i64.wrap ((IntKind.i64.wrap (2*(q:Int)))+2)))).toNat≤(IntKind.i64.wrap ((IntKind.i64.wrap (i62+1))*(IntKind.i64.wrap ((IntKind.i64.wrap (2*(q:Int)))+2)))).toNat∧(IntKind.i64.wrap ((IntKind.i64.wrap (i62+1))*(IntKind.i64.wrap ((IntKind.i64.wrap (2*(q:Int)))+2)))).toNat≤coins.length)<|
 (ix ((coins.take ((IntKind.i64.wrap ((IntKind.i64.wrap (i62+1))*(IntKind.i64.wrap ((IntKind.i64.wrap (2*(q:Int)))+2)))).toNat)).drop ((IntKind.i64.wrap (i62*(IntKind.i64.wrap ((IntKind.i64.wrap (2*(q:Int)))+2)))).toNat)) 0).bind fun x69=>
 (zau gr gr.G x68).bind fun z70=>
 (zbK gr key z70 x69).bind fun z71=>
 gd (1≤((coins.take ((IntKind.i64.wrap ((IntKind.i64.wrap (i62+1))*(IntKind.i64.wrap ((IntKind.i64.wrap (2*(q:Int)))+2)))).toNat)).drop ((IntKind.i64.wrap (i62*(IntKind.i64.wrap ((IntKind.i64.wrap (2*(q:Int)))+2)))).toNat)).length∧((coins.take ((IntKind.i64.wrap ((IntKind.i64.wrap (i62+1))*(IntKind.i64.wrap ((IntKind.i64.wrap (2*(q:Int)))+2)))).toNat)).drop ((IntKind.i64.wrap (i62*(IntKind.i64.wrap ((IntKind.i64.wrap (2*(q:Int)))+2)))).toNat)).length≤((coins.take ((IntKind.i64.wrap ((IntKind.i64.wrap (i62+1))*(IntKind.i64.wrap ((IntKind.i64.wrap (2*(q:Int)))+2)))).toNat)).drop ((IntKind.i64.wrap (i62*(IntKind.i64.wrap ((IntKind.i64.wrap (2*(q:Int)))+2)))).toNat)).length)<|
 (zbB ct).bind fun z72=>
 (zbG gr key z71 0 z72).bind fun z73=>
 (zcW gr lab z73 x68 x69 ((((coins.take ((IntKind.i64.wrap ((IntKind.i64.wrap (i62+1))*(IntKind.i64.wrap ((IntKind.i64.wrap (2*(q:Int)))+2)))).toNat)).drop ((IntKind.i64.wrap (i62*(IntKind.i64.wrap ((IntKind.i64.wrap (2*(q:Int)))+2)))).toNat)).take (((coins.take ((IntKind.i64.wrap ((IntKind.i64.wrap (i62+1))*(IntKind.i64.wrap ((IntKind.i64.wrap (2*(q:Int)))+2)))).toNat)).drop ((IntKind.i64.wrap (i62*(IntKind.i64.wrap ((IntKind.i64.wrap (2*(q:Int)))+2)))).toNat)).length)).drop 1)).bind fun z74=>
 if(!z74.2)=true then(
 some (.out (.inr ((Sealed.mk 0 [] [] (Proof.mk [] [] [])),false))))else(
 gd ((s61.2.1.length+1)*16≤140737488355328∧s61.2.1.length+1≤4611686018427387904)<|
 gd ((s61.2.2.1.length+1)*72≤140737488355328∧s61.2.2.1.length+1≤4611686018427387904)<|
 (zbr gr (IntKind.i64.wrap (s61.2.2.2.2.2.2.2+x69))).bind fun z76=>
 some (.go (s61.1,s61.2.1++[z71],s61.2.2.1++[z74.1],s61.2.2.2.1,s61.2.2.2.2.1,s61.2.2.2.2.2.1,IntKind.i64.wrap (s61.2.2.2.2.2.2.1+x68),z76)))) (fun s61=>.inl (s61.1,s61.2.1,s61.2.2.1,s61.2.2.2.1,s61.2.2.2.2.1,s61.2.2.2.2.2.1,s61.2.2.2.2.2.2.1,s61.2.2.2.2.2.2.2)) (d.length) 0 (voter,[],[],[],[],[],0,0)=some (.inl (voter,(List.range d.length).map (svC gr key d coins q),(List.range d.length).map (svP gr key lab d coins q),[],[],[],smE d d.length,srN gr.Q (svR coins q) d.length)):=by
 have hp:=S.k.p
 have hQ:=S.k.q
 have hq:=S.hq
 have hn:=S.hn
 have hcl:=S.hl.2
 refine zhB (fun i=>(voter,(List.range i).map (svC gr key d coins q),(List.range i).map (svP gr key lab d coins q),[],[],[],smE d i,srN gr.Q (svR coins q) i)) rfl fun i hi=>?_
 have ha:=zuD S hi
 have hd:=ztO S hi
 have hr:=zwx S hi
 have hsm:=zty S i (by omega)
 have hsr:=zxd (Q:=gr.Q) (by omega) (svR coins q) i
 have wT:IntKind.i64.wrap (IntKind.i64.wrap (2*(q:Int))+2)=((2*q+2:Nat):Int):=by
  rw[zai (n:=2*(q:Int)) (by omega) (by omega),zai (by omega) (by omega)];omega
 have wA:IntKind.i64.wrap ((i:Int)*((2*q+2:Nat):Int))=((i*(2*q+2):Nat):Int):=by
  rw[←Int.natCast_mul];exact zai (by omega) (by omega)
 have wB:IntKind.i64.wrap (IntKind.i64.wrap ((i:Int)+1)*((2*q+2:Nat):Int))=((i*(2*q+2)+(2*q+2):Nat):Int):=by
  rw[zai (n:=(i:Int)+1) (by omega) (by omega),show(i:Int)+1=((i+1:Nat):Int)by omega,←Int.natCast_mul,Nat.succ_mul];exact zai (by omega) (by omega)
 have eB:(coins.take (i*(2*q+2)+(2*q+2))).drop (i*(2*q+2))=(coins.drop (i*(2*q+2))).take (2*q+2):=by rw[List.drop_take,Nat.add_sub_cancel_left]
 have lB:((coins.drop (i*(2*q+2))).take (2*q+2)).length=2*q+2:=by rw[List.length_take,List.length_drop];omega
 have e0:ix ((coins.drop (i*(2*q+2))).take (2*q+2)) 0=some (svR coins q i):=by
  rw[show(0:Int)=((0:Nat):Int)from rfl,zfx (by omega)]
  simp[List.getD,svR]
 have hP:=zya S.k (zux S hi)
 rw[show(((d.getD i 0).toNat:Nat):Int)=d.getD i 0 by omega]at hP
 have hst:=zxS S.k (key:=key) (c:=svC gr key d coins q i) (zuX S.k S.hk _ _) (lo:=0) (hi:=(q:Int)) (n:=q+1) (by omega) (by omega) (by omega)
 dsimp only
 rw[wT,wA,wB,Int.toNat_natCast,Int.toNat_natCast,eB,lB]
 refine zae (zfx hi) (zak (by omega) (zak (by omega) (zak (by omega) (zae e0 (zae (pwI S.k (r_G S.k) _) (zae (zxO S.k S.hk _ _) (zak (by omega) (zae hm (zae hst ?_)))))))))
 rw[List.take_of_length_le (Nat.le_of_eq lB)]
 refine zae hP (zbl rfl (zak (by simp;omega) (zak (by simp;omega) (zae (zrm S.k _) (zab ?_)))))
 rw[zai (n:=smE d i+d.getD i 0) (by omega) (by omega),zai (n:=srN gr.Q (svR coins q) i+svR coins q i) (by have:=hsr.1;have:=hr.1;omega) (by have:=hsr.2;have:=hr.2;omega),List.range_succ,List.map_append,List.map_append]
 rfl
theorem zIY (S:SvOk gr key lab d coins q) (voter:Int):zap (σ:=(List Int)×Int×List Cipher×List Proof×List Int×List Int×List Int×Int×Int) (fun i38 s37=>
 (ix d i38).bind fun x44=>
 (ix s37.1 0).bind fun x45=>
 (zfs gr key x44 x45).bind fun z46=>
 gd ((s37.2.2.1.length+1)*16≤140737488355328∧s37.2.2.1.length+1≤4611686018427387904)<|
 gd (0≤(IntKind.i64.wrap ((IntKind.i64.wrap (2*(q:Int)))+2)))<|
 gd (1≤(IntKind.i64.wrap ((IntKind.i64.wrap (2*(q:Int)))+2)).toNat∧(IntKind.i64.wrap ((IntKind.i64.wrap (2*(q:Int)))+2)).toNat≤s37.1.length)<|
 (zcF gr key z46 0 (q:Int)).bind fun z47=>
 (zes gr lab z47 x44 x45 ((s37.1.take ((IntKind.i64.wrap ((IntKind.i64.wrap (2*(q:Int)))+2)).toNat)).drop 1)).bind fun z48=>
 gd ((s37.2.2.2.1.length+1)*72≤140737488355328∧s37.2.2.2.1.length+1≤4611686018427387904)<|
 gd (gr.Q≠0)<|
 gd (0≤(IntKind.i64.wrap ((IntKind.i64.wrap (2*(q:Int)))+2)))<|
 gd ((IntKind.i64.wrap ((IntKind.i64.wrap (2*(q:Int)))+2)).toNat≤s37.1.length∧s37.1.length≤s37.1.length)<|
 some (.go ((s37.1.take s37.1.length).drop ((IntKind.i64.wrap ((IntKind.i64.wrap (2*(q:Int)))+2)).toNat),s37.2.1,s37.2.2.1++[z46],s37.2.2.2.1++[z48],s37.2.2.2.2.1,s37.2.2.2.2.2.1,s37.2.2.2.2.2.2.1,IntKind.i64.wrap (s37.2.2.2.2.2.2.2.1+x44),(IntKind.i64.wrap (s37.2.2.2.2.2.2.2.2+x45)).tmod gr.Q))) (fun s37=>(s37.1,s37.2.1,s37.2.2.1,s37.2.2.2.1,s37.2.2.2.2.1,s37.2.2.2.2.2.1,s37.2.2.2.2.2.2.1,s37.2.2.2.2.2.2.2.1,s37.2.2.2.2.2.2.2.2)) (d.length) 0 (coins,voter,[],[],[],[],[],0,0)=some (coins.drop (d.length*(2*q+2)),voter,(List.range d.length).map (svC gr key d coins q),(List.range d.length).map (svP gr key lab d coins q),[],[],[],smE d d.length,srN gr.Q (svR coins q) d.length):=by
 have hp:=S.k.p
 have hQ:=S.k.q
 have hq:=S.hq
 have hn:=S.hn
 have hcl:=S.hl.2
 refine zhB (fun i=>(coins.drop (i*(2*q+2)),voter,(List.range i).map (svC gr key d coins q),(List.range i).map (svP gr key lab d coins q),[],[],[],smE d i,srN gr.Q (svR coins q) i)) (by rw[Nat.zero_mul];rfl) fun i hi=>?_
 have ha:=zuD S hi
 have hd:=ztO S hi
 have hr:=zwx S hi
 have hsm:=zty S i (by omega)
 have hsr:=zxd (Q:=gr.Q) (by omega) (svR coins q) i
 have wT:IntKind.i64.wrap (IntKind.i64.wrap (2*(q:Int))+2)=((2*q+2:Nat):Int):=by
  rw[zai (n:=2*(q:Int)) (by omega) (by omega),zai (by omega) (by omega)];omega
 have lB:(coins.drop (i*(2*q+2))).length=coins.length-i*(2*q+2):=List.length_drop
 have e0:ix (coins.drop (i*(2*q+2))) 0=some (svR coins q i):=by
  rw[show(0:Int)=((0:Nat):Int)from rfl,zfx (by omega)]
  simp[List.getD,svR]
 have hP:=zx3 S.k (zux S hi)
 rw[show(((d.getD i 0).toNat:Nat):Int)=d.getD i 0 by omega]at hP
 have hst:=zx0 S.k (key:=key) (c:=svC gr key d coins q i) (zuX S.k S.hk _ _) (lo:=0) (hi:=(q:Int)) (n:=q+1) (by omega) (by omega) (by omega)
 dsimp only
 rw[wT,Int.toNat_natCast,lB]
 refine zae (zfx hi) (zae e0 (zae (zte S.k S.hk _ _) (zak (by simp;omega) (zak (by omega) (zak (by omega) (zae hst (zae hP (zak (by simp;omega) (zak (by omega) (zak (by omega) (zak (by omega) (zab ?_))))))))))))
 rw[←lB,List.take_length,List.drop_drop,zai (n:=smE d i+d.getD i 0) (by omega) (by omega),zai (n:=srN gr.Q (svR coins q) i+svR coins q i) (by have:=hsr.1;have:=hr.1;omega) (by have:=hsr.2;have:=hr.2;omega),Int.tmod_eq_emod_of_nonneg (by have:=hsr.1;have:=hr.1;omega),List.range_succ,List.map_append,List.map_append,show(i+1)*(2*q+2)=i*(2*q+2)+(2*q+2)from Nat.succ_mul _ _]
 rfl
def zkT (gr:Group) (key:Int) (d coins:List Int) (q:Nat):Cipher:=⟨pg gr (srN gr.Q (svR coins q) d.length),pg gr (smE d d.length+dl gr key*srN gr.Q (svR coins q) d.length)⟩
theorem zsK (S:SvOk gr key lab d coins q):zkT gr key d coins q=⟨pg gr (smL (svR coins q) d.length),pg gr (smE d d.length+dl gr key*smL (svR coins q) d.length)⟩:=by
 have h:=zx5 gr.Q (svR coins q) d.length
 unfold zkT
 rw[zqf h,zqf (a:=smE d d.length+dl gr key*srN gr.Q (svR coins q) d.length) (b:=smE d d.length+dl gr key*smL (svR coins q) d.length) (by rw[Int.add_emod,Int.mul_emod,h,←Int.mul_emod,←Int.add_emod])]
theorem zE2 (k:OkG gr) (a b c d:Int):zc4 gr ⟨pg gr a,pg gr b⟩ ⟨pg gr c,pg gr d⟩=some ⟨pg gr (a+c),pg gr (b+d)⟩:=by
 unfold zc4
 dsimp only
 rw[m2I k (x:=pg gr a) (y:=pg gr c) (zdA k _ _) (zdA k _ _),Option.bind_some,m2I k (x:=pg gr b) (y:=pg gr d) (zdA k _ _) (zdA k _ _),Option.bind_some,zkK k,zkK k]
theorem zCL (S:SvOk gr key lab d coins q):zcT gr ((List.range d.length).map (svC gr key d coins q))=some (zkT gr key d coins q):=by
 rw[zsK S]
 unfold zcT
 have h:=zhB (σ:=Int×Int) (γ:=Int×Int) (n:=((List.range d.length).map (svC gr key d coins q)).length) (stop:=fun s13=>(s13.1,s13.2)) (s0:=(1,1)) (body:=fun i14 s13=>
  (ix ((List.range d.length).map (svC gr key d coins q)) i14).bind fun x20=>
  (zc4 gr (Cipher.mk s13.1 s13.2) x20).bind fun z21=>
  some (.go (z21.A,z21.B))) (fun i=>(pg gr (smL (svR coins q) i),pg gr (smE d i+dl gr key*smL (svR coins q) i))) (by
   show _=(pg gr 0,pg gr (0+dl gr key*0))
   rw[Int.mul_zero,Int.add_zero,zA8 S.k]) fun i hi=>by
  refine za6 hi ?_
  rw[List.getElem_map,List.getElem_range]
  unfold svC
  rw[zn5 S.k S.hk]
  refine zae (zE2 S.k _ _ _ _) (zab ?_)
  dsimp only
  rw[show smE d (i+1)=smE d i+d.getD i 0 from rfl,show smL (svR coins q) (i+1)=smL (svR coins q) i+svR coins q i from rfl,show smE d i+dl gr key*smL (svR coins q) i+(d.getD i 0+dl gr key*svR coins q i)=smE d i+d.getD i 0+dl gr key*(smL (svR coins q) i+svR coins q i)by rw[Int.mul_add];omega]
 rw[h]
 simp
theorem zEp (S:SvOk gr key lab d coins q):zgX gr ((List.range d.length).map (svC gr key d coins q))=some (zkT gr key d coins q):=by
 rw[zsK S]
 unfold zgX
 have h:=zhB (σ:=Int×Int) (γ:=Int×Int) (n:=((List.range d.length).map (svC gr key d coins q)).length) (stop:=fun s14=>(s14.1,s14.2)) (s0:=(1,1)) (body:=fun i15 s14=>
  (ix ((List.range d.length).map (svC gr key d coins q)) i15).bind fun x21=>
  (zbL gr [s14.1,x21.A]).bind fun z22=>
  (zbL gr [s14.2,x21.B]).bind fun z23=>
  some (.go (z22,z23))) (fun i=>(pg gr (smL (svR coins q) i),pg gr (smE d i+dl gr key*smL (svR coins q) i))) (by
   show _=(pg gr 0,pg gr (0+dl gr key*0))
   rw[Int.mul_zero,Int.add_zero,zA8 S.k]) fun i hi=>by
  refine za6 hi ?_
  rw[List.getElem_map,List.getElem_range]
  unfold svC
  rw[zn5 S.k S.hk]
  refine zae (m2S S.k (zdA S.k _ _) (zdA S.k _ _)) (zae (m2S S.k (zdA S.k _ _) (zdA S.k _ _)) (zab ?_))
  show Stp.go (zeL gr [pg gr _,pg gr _],zeL gr [pg gr _,pg gr _])=_
  rw[zkK S.k,zkK S.k,show smE d (i+1)=smE d i+d.getD i 0 from rfl,show smL (svR coins q) (i+1)=smL (svR coins q) i+svR coins q i from rfl,show smE d i+dl gr key*smL (svR coins q) i+(d.getD i 0+dl gr key*svR coins q i)=smE d i+d.getD i 0+dl gr key*(smL (svR coins q) i+svR coins q i)by rw[Int.mul_add];omega]
 rw[h]
 simp
end
end
end Go.Pm
