/-
  FnExactAuditSession: plain laws.
  No condition.
-/
import Derived.Test.YtnbbkiilkaebaaaGreatDoorM36b
import Derived.Test.YtnbbkiilkaebaaaGreatDoorPmZ
namespace Go.Pm
open Go.Am
set_option linter.unusedVariables false
noncomputable section
def zl5 (a0:List Int) (a1:Int):Option Int:=
 ((zak (σ:=Int) (fun i5 s4=>
 (ix a0 i5).bind fun x11=>
 gd (a1≠0)<|
 some (.go ((IntKind.i64.wrap (s4+x11)).tmod a1))) (fun s4=>s4) (a0.length) 0 0:Option Int).bind fun x3=>
 some x3)
set_option linter.unusedVariables false
set_option linter.unusedSimpArgs false
theorem zc3 (a b c:Int):zaw a b c=some (decide (b≤a)&&decide (a≤c)):=by
 unfold zaw
 by_cases h:b≤a<;>simp[h]
theorem zgW (a b c:Int):zaW a b c=some (decide (b≤a)&&decide (a≤c)):=by
 unfold zaW
 by_cases h:b≤a<;>simp[h]
theorem zl7 (a:Int):zen a=some (decide (2≤a)&&decide (a≤2000000000)):=by
 unfold zen
 rw[zc3];rfl
theorem zcy (a b:Nat):(a:Int).tmod (b:Int)=((a%b:Nat):Int):=by rw[Int.tmod_eq_emod_of_nonneg (by omega)];exact(Int.natCast_emod _ _).symm
theorem zu6 (a b:Nat):(a:Int).tdiv (b:Int)=((a/b:Nat):Int):=by rw[Int.tdiv_eq_ediv_of_nonneg (by omega)];exact(Int.natCast_ediv _ _).symm
theorem zgy (a b:Nat):(a:Int)*(b:Int)=((a*b:Nat):Int):=(Int.natCast_mul _ _).symm
theorem zxC {e:Nat}(he:e≤9223372036854775807):IntKind.i64.wrap (BitVec.ofInt IntKind.i64.bits (e:Int)&&&BitVec.ofInt IntKind.i64.bits 1).toNat=((e%2:Nat):Int):=by
 have h1:(BitVec.ofInt IntKind.i64.bits (e:Int)&&&BitVec.ofInt IntKind.i64.bits 1).toNat=e%2:=by
  rw[BitVec.toNat_and]
  have a1:(BitVec.ofInt IntKind.i64.bits (e:Int)).toNat=e:=by
   rw[BitVec.toNat_ofInt]
   have:IntKind.i64.bits=64:=rfl
   rw[this]
   omega
  have a2:(BitVec.ofInt IntKind.i64.bits 1).toNat=1:=by decide
  rw[a1,a2,Nat.and_one_is_mod]
 rw[h1,zag (by omega) (by omega)]
theorem zxD {a e m:Nat}(ha:a≤2000000000) (hm:1≤m) (hm2:m≤2000000000) (he:e≤9223372036854775807):zdF (a:Int) (e:Int) (m:Int)=some ((a^e%m:Nat):Int):=by
 unfold zdF
 refine zah (zap (by omega) (zaC (φ:=(· =((a^e%m:Nat):Int))) (ziq (φ:=(· =((a^e%m:Nat):Int))) (fun s=>∃x y o:Nat,s=((x:Int),(y:Int),(o:Int))∧x≤2000000000∧y≤e∧o<m∧o*x^y%m=a^e%m) (fun s=>s.2.1.toNat)
  ⟨a,e,1%m,by rw[show(1:Int)=((1:Nat):Int)from rfl,zcy],ha,Nat.le_refl _,Nat.mod_lt _ (by omega),by rw[Nat.mod_mul_mod,Nat.one_mul]⟩ ?_) fun x hx=>zae hx))
 rintro s ⟨x,y,o,rfl,hx,hy,ho,hi⟩
 refine zbv (fun h0=>?_) fun h0=>?_
 ·have h0:0<y:=by simpa using h0
  have hox:o*x≤4000000000000000000:=Nat.le_trans (Nat.mul_le_mul (show o≤2000000000 by omega) hx) (by decide)
  have hxx:x*x≤4000000000000000000:=Nat.le_trans (Nat.mul_le_mul hx hx) (by decide)
  refine zaC (ψ:=fun o'=>∃k:Nat,o'=(k:Int)∧k<m∧k*(x*x)^(y/2)%m=a^e%m) ?_ ?_
  ·simp only[zxC (show y≤9223372036854775807 by omega)]
   refine zbv (fun h1=>zap (by omega) (zae ⟨o*x%m,?_,Nat.mod_lt _ (by omega),?_⟩)) fun h1=>zae ⟨o,rfl,ho,?_⟩
   ·rw[zgy,zag (by omega) (by omega),zcy]
   ·have h1:y%2=1:=by
     have:((y%2:Nat):Int)=1:=by simpa using h1
     omega
    rw[Nat.mod_mul_mod,←hi,←Nat.pow_two,←Nat.pow_mul,Nat.mul_assoc,←Nat.pow_succ']
    congr 3;omega
   have h1:y%2=0:=by
    have:¬((y%2:Nat):Int)=1:=by simpa using h1
    omega
   rw[←hi,←Nat.pow_two,←Nat.pow_mul]
   congr 3;omega
  rintro o' ⟨k,rfl,hk,hk2⟩
  refine zap (by omega) (zae ⟨⟨x*x%m,y/2,k,?_,by have:=Nat.mod_lt (x*x) (show 0<m by omega);omega,by omega,hk,?_⟩,?_⟩)
  ·rw[zgy,zag (by omega) (by omega),zcy]
   have e3:(y:Int).fdiv 2=((y/2:Nat):Int):=by rw[Int.fdiv_eq_ediv_of_nonneg _ (by omega)];rfl
   show(_,(y:Int).fdiv 2,_)=_
   rw[e3]
  ·rw[Nat.mul_mod,←Nat.pow_mod,←Nat.mul_mod]
   exact hk2
  show((y:Int).fdiv 2).toNat<(y:Int).toNat
  rw[Int.fdiv_eq_ediv_of_nonneg _ (by omega)]
  omega
 have h0:y=0:=by
  have:¬(0<y):=by simpa using h0
  omega
 subst h0
 refine zae ?_
 show(o:Int)=_
 rw[Nat.pow_zero,Nat.mul_one,Nat.mod_eq_of_lt ho]at hi
 rw[hi]
theorem zvx {a e m:Nat}(ha:a≤2000000000) (hm:1≤m) (hm2:m≤2000000000) (he:e≤9223372036854775807):zdd (a:Int) (e:Int) (m:Int)=some ((a^e%m:Nat):Int):=by
 unfold zdd
 refine zah (zap (by omega) (zaC (φ:=(· =((a^e%m:Nat):Int))) (ziq (φ:=(· =((a^e%m:Nat):Int))) (fun s=>∃x y o:Nat,s=((x:Int),(y:Int),(o:Int))∧x≤2000000000∧y≤e∧o<m∧o*x^y%m=a^e%m) (fun s=>s.2.1.toNat)
  ⟨a,e,1%m,by rw[show(1:Int)=((1:Nat):Int)from rfl,zcy],ha,Nat.le_refl _,Nat.mod_lt _ (by omega),by rw[Nat.mod_mul_mod,Nat.one_mul]⟩ ?_) fun x hx=>zae hx))
 rintro s ⟨x,y,o,rfl,hx,hy,ho,hi⟩
 refine zbv (fun h0=>?_) fun h0=>?_
 ·have h0:0<y:=by simpa using h0
  have hox:o*x≤4000000000000000000:=Nat.le_trans (Nat.mul_le_mul (show o≤2000000000 by omega) hx) (by decide)
  have hxx:x*x≤4000000000000000000:=Nat.le_trans (Nat.mul_le_mul hx hx) (by decide)
  have e2:(y:Int).tmod 2=((y%2:Nat):Int):=zcy y 2
  refine zaC (ψ:=fun o'=>∃k:Nat,o'=(k:Int)∧k<m∧k*(x*x)^(y/2)%m=a^e%m) ?_ ?_
  ·simp only[e2]
   refine zbv (fun h1=>zap (by omega) (zae ⟨o*x%m,?_,Nat.mod_lt _ (by omega),?_⟩)) fun h1=>zae ⟨o,rfl,ho,?_⟩
   ·rw[zgy,zag (by omega) (by omega),zcy]
   ·have h1:y%2=1:=by
     have:((y%2:Nat):Int)=1:=by simpa using h1
     omega
    rw[Nat.mod_mul_mod,←hi,←Nat.pow_two,←Nat.pow_mul,Nat.mul_assoc,←Nat.pow_succ']
    congr 3;omega
   have h1:y%2=0:=by
    have:¬((y%2:Nat):Int)=1:=by simpa using h1
    omega
   rw[←hi,←Nat.pow_two,←Nat.pow_mul]
   congr 3;omega
  rintro o' ⟨k,rfl,hk,hk2⟩
  have e3:(y:Int).tdiv 2=((y/2:Nat):Int):=zu6 y 2
  refine zap (by omega) (zae ⟨⟨x*x%m,y/2,k,?_,by have:=Nat.mod_lt (x*x) (show 0<m by omega);omega,by omega,hk,?_⟩,?_⟩)
  ·simp only[e3]
   rw[zgy,zag (n:=((x*x:Nat):Int)) (by omega) (by omega),zcy,zag (n:=((y/2:Nat):Int)) (by omega) (by omega)]
  ·rw[Nat.mul_mod,←Nat.pow_mod,←Nat.mul_mod]
   exact hk2
  show(IntKind.i64.wrap ((y:Int).tdiv 2)).toNat<(y:Int).toNat
  rw[e3,zag (by omega) (by omega)]
  omega
 have h0:y=0:=by
  have:¬(0<y):=by simpa using h0
  omega
 subst h0
 refine zae ?_
 show(o:Int)=_
 rw[Nat.pow_zero,Nat.mul_one,Nat.mod_eq_of_lt ho]at hi
 rw[hi]
theorem zsH {a q:Int}(h0:0<q) (h1:q≤2000000000):zf6 a q=some (a%q):=by
 unfold zf6
 rw[zcu (by omega),zcu (by omega)]
 have b1:a.tmod q<q:=Int.tmod_lt_of_pos a h0
 have b2: -q<a.tmod q:=by
  have:=Int.lt_tmod_of_pos a h0
  omega
 rw[zag (by omega) (by omega),Int.tmod_eq_emod_of_nonneg (by omega)]
 congr 1
 rw[Int.add_emod_right]
 rw[Int.tmod_def,Int.sub_emod,Int.mul_emod_right,Int.sub_zero,Int.emod_emod]
theorem zqi {a q:Int}(h0:0<q) (h1:q≤2000000000):zfG a q=some (a%q):=by
 unfold zfG
 rw[zcu (by omega),zcu (by omega)]
 have b1:a.tmod q<q:=Int.tmod_lt_of_pos a h0
 have b2: -q<a.tmod q:=by
  have:=Int.lt_tmod_of_pos a h0
  omega
 rw[zag (by omega) (by omega),Int.tmod_eq_emod_of_nonneg (by omega)]
 congr 1
 rw[Int.add_emod_right]
 rw[Int.tmod_def,Int.sub_emod,Int.mul_emod_right,Int.sub_zero,Int.emod_emod]
def Pr (n:Nat):Prop:=2≤n∧∀d,2≤d→d*d≤n→n%d≠0
open Classical in
def prB (n:Int):Bool:=decide (Pr n.toNat)
theorem zhz {n:Nat}:prB (n:Int)=true↔Pr n:=by simp[prB]
theorem zpY (n:Int) (h:n≤2000000000):zez n=some (prB n):=by
 unfold zez
 refine zah (zbv (fun h0=>zae ?_) fun h0=>?_)
 ·have h0:n<2:=by simpa using h0
  symm
  unfold prB
  rw[decide_eq_false_iff_not]
  intro hp
  have:=hp.1
  omega
 have h0:¬n<2:=by simpa using h0
 obtain⟨n,rfl⟩:=Int.eq_ofNat_of_zero_le (show 0≤n by omega)
 refine zaC (ψ:=fun b=>(b=.inl ()∧Pr n)∨(b=.inr false∧¬Pr n)) (ziq (fun s=>∃d:Nat,s=(d:Int)∧2≤d∧d≤44723∧∀k,2≤k→k<d→k*k≤n→n%k≠0) (fun s=>50000-s.toNat) ⟨2,rfl,by omega,by omega,fun k h1 h2=>by omega⟩ ?_) ?_
 ·rintro s ⟨d,rfl,hd,hd2,hi⟩
  have hdd:d*d≤2000146729:=Nat.le_trans (Nat.mul_le_mul hd2 hd2) (by decide)
  rw[zgy,zag (by omega) (by omega)]
  refine zbv (fun h1=>zap (by omega) (zbv (fun h2=>zae (.inr ⟨rfl,?_⟩)) fun h2=>zae ?_)) fun h1=>zae (.inl ⟨rfl,by omega,fun k hk hkn=>?_⟩)
  ·have h1:d*d≤n:=by have:=of_decide_eq_true h1;omega
   rw[zcy]at h2
   have h2 : n % d = 0 := by have:((n%d:Nat):Int)=0:=by simpa using h2
                             omega
   exact fun hp=>hp.2 d hd h1 h2
  ·have h1:d*d≤n:=by have:=of_decide_eq_true h1;omega
   rw[zcy]at h2
   have h2 : n % d ≠ 0 := by have:¬((n%d:Nat):Int)=0:=by simpa using h2
                             omega
   have hd3:d≤44722:=by
    rcases Nat.lt_or_ge d 44723 with h|h
    ·omega
    ·have:44723*44723≤d*d:=Nat.mul_le_mul h h
     omega
   rw[zag (by omega) (by omega)]
   refine⟨⟨d+1,rfl,by omega,by omega,fun k h3 h4 h5=>?_⟩,by omega⟩
   rcases Nat.lt_or_ge k d with h|h
   ·exact hi k h3 h h5
   have:k=d:=by omega
   subst this
   exact h2
  have h1:n<d*d:=by have:=of_decide_eq_false h1;omega
  rcases Nat.lt_or_ge k d with h|h
  ·exact hi k hk h hkn
  have:=Nat.mul_le_mul h h
  omega
 rintro b (⟨rfl,hp⟩|⟨rfl,hp⟩)
 ·exact zae (zhz.2 hp).symm
 refine zae ?_
 symm
 unfold prB
 rw[decide_eq_false_iff_not]
 exact hp
theorem zol (n:Int):zd8 n=some (decide (n≤2000000000)&&prB n):=by
 unfold zd8
 by_cases h:2≤n∧n≤2000000000
 ·obtain⟨n,rfl⟩:=Int.eq_ofNat_of_zero_le (show 0≤n by omega)
  have e2:((n:Int)).tmod 2=((n%2:Nat):Int):=zcy n 2
  have em:(decide (2≤(n:Int))&&decide ((n:Int)≤2000000000))=true:=by simp only[Bool.and_eq_true,decide_eq_true_eq];exact h
  rw[show(decide ((n:Int)≤2000000000)&&prB (n:Int))=prB (n:Int)by simp[h.2]]
  refine zah (zaC (ψ:=fun b=>b=decide (n%2=0∧n≠2)) (zad (zl7 _) ?_) ?_)
  ·rw[em]
   refine zbU rfl ?_
   rw[e2]
   refine zbv (fun h1=>zae ?_) fun h1=>zae ?_
   ·have h1 : n % 2 = 0 := by have:((n%2:Nat):Int)=0:=by simpa using h1
                              omega
    have:((n:Int) !=2)=decide (n≠2):=by
     by_cases hn:n=2
     ·subst hn;rfl
     ·have hn':¬(n:Int)=2:=by omega
      simp[hn,hn']
    rw[this];simp[h1]
   have h1 : n % 2 ≠ 0 := by have:¬((n%2:Nat):Int)=0:=by simpa using h1
                             omega
   simp[h1]
  rintro b rfl
  refine zbv (fun h1=>zae ?_) fun h1=>?_
  ·have h1:=of_decide_eq_true h1
   symm
   unfold prB
   rw[decide_eq_false_iff_not]
   intro hp
   have hn:4≤n:=by omega
   exact hp.2 2 (by omega) hn h1.1
  have h1:=of_decide_eq_false h1
  refine zaC (ψ:=fun b=>(b=.inl ()∧Pr n)∨(b=.inr false∧¬Pr n)) (ziq (fun s=>∃d:Nat,s=(d:Int)∧3≤d∧d%2=1∧d≤44725∧∀k,2≤k→k<d→k*k≤n→n%k≠0) (fun s=>50000-s.toNat) ⟨3,rfl,by omega,by omega,by omega,fun k h2 h3 h4=>?_⟩ ?_) ?_
  ·have:k=2:=by omega
   subst this
   intro h5
   exact h1 ⟨h5,by omega⟩
  ·rintro s ⟨d,rfl,hd,hodd,hd2,hi⟩
   have hdd:d*d≤2000325625:=Nat.le_trans (Nat.mul_le_mul hd2 hd2) (by decide)
   rw[zgy,zag (by omega) (by omega)]
   refine zbv (fun h1=>zap (by omega) (zbv (fun h2=>zae (.inr ⟨rfl,?_⟩)) fun h2=>zae ?_)) fun h1=>zae (.inl ⟨rfl,by omega,fun k hk hkn=>?_⟩)
   ·have h1:d*d≤n:=by have:=of_decide_eq_true h1;omega
    rw[zcy]at h2
    have h2 : n % d = 0 := by have:((n%d:Nat):Int)=0:=by simpa using h2
                              omega
    exact fun hp=>hp.2 d (by omega) h1 h2
   ·have h3:d*d≤n:=by have:=of_decide_eq_true h1;omega
    rw[zcy]at h2
    have h2 : n % d ≠ 0 := by have:¬((n%d:Nat):Int)=0:=by simpa using h2
                              omega
    have hd3:d≤44722:=by
     rcases Nat.lt_or_ge d 44723 with h|h
     ·omega
     ·have:44723*44723≤d*d:=Nat.mul_le_mul h h
      omega
    rw[zag (by omega) (by omega)]
    refine⟨⟨d+2,rfl,by omega,by omega,by omega,fun k h4 h5 h6 h7=>?_⟩,by omega⟩
    rcases Nat.lt_or_ge k d with h|h
    ·exact hi k h4 h h6 h7
    rcases(show k=d∨k=d+1 by omega)with e|e
    ·subst e;exact h2 h7
    have h8:n%2=0:=by
     have a1:k∣n:=Nat.dvd_of_mod_eq_zero h7
     have a2:2∣k:=Nat.dvd_of_mod_eq_zero (by omega)
     exact Nat.mod_eq_zero_of_dvd (Nat.dvd_trans a2 a1)
    have h9:2*2≤n:=by
     have:=Nat.mul_le_mul h4 h4
     omega
    exact hi 2 (by omega) (by omega) h9 h8
   have h1:n<d*d:=by have:=of_decide_eq_false h1;omega
   rcases Nat.lt_or_ge k d with h|h
   ·exact hi k hk h hkn
   have:=Nat.mul_le_mul h h
   omega
  rintro b (⟨rfl,hp⟩|⟨rfl,hp⟩)
  ·exact zae (zhz.2 hp).symm
  refine zae ?_
  symm
  unfold prB
  rw[decide_eq_false_iff_not]
  exact hp
 have em:(decide (2≤n)&&decide (n≤2000000000))=false:=by
  rw[Bool.and_eq_false_iff,decide_eq_false_iff_not,decide_eq_false_iff_not];omega
 rw[zl7,em]
 simp only[Option.bind_some,Bool.not_false,if_true]
 congr 1
 symm
 rw[Bool.and_eq_false_iff,decide_eq_false_iff_not]
 by_cases hn:n≤2000000000
 ·right
  unfold prB
  rw[decide_eq_false_iff_not]
  intro hp
  have:=hp.1
  omega
 exact .inl hn
structure OkG (gr:Group):Prop where
 p:3≤gr.P∧gr.P≤2000000000
 q:2≤gr.Q∧gr.Q≤gr.P-1
 d:(gr.P.toNat-1)%gr.Q.toNat=0
 g:2≤gr.G∧gr.G≤gr.P-1
 pp:Pr gr.P.toNat
 pq:Pr gr.Q.toNat
 o:gr.G.toNat^gr.Q.toNat%gr.P.toNat=1
open Classical in
def okG (gr:Group):Bool:=decide (OkG gr)
theorem zlA {gr:Group}:okG gr=true↔OkG gr:=by simp[okG]
theorem zf9 {gr:Group}(h:¬OkG gr):okG gr=false:=by simp[okG,h]
theorem zuH {gr:Group}{b:Bool}(h1:b=true→OkG gr) (h2:OkG gr→b=true):b=okG gr:=by
 cases hb:b with
 |true=>exact(zlA.2 (h1 hb)).symm
 |false=>exact(zf9 fun h=>by rw[h2 h]at hb;cases hb).symm
theorem zdw {a:Int}(h:0≤a):a=((a.toNat:Nat):Int):=by omega
theorem zjx {a e m:Int}(ha:0≤a) (ha2:a≤2000000000) (hm:1≤m) (hm2:m≤2000000000) (he:0≤e) (he2:e≤9223372036854775807):zdF a e m=some ((a.toNat^e.toNat%m.toNat:Nat):Int)∧zdd a e m=some ((a.toNat^e.toNat%m.toNat:Nat):Int):=by
 have h1:=zxD (a:=a.toNat) (e:=e.toNat) (m:=m.toNat) (by omega) (by omega) (by omega) (by omega)
 have h2:=zvx (a:=a.toNat) (e:=e.toNat) (m:=m.toNat) (by omega) (by omega) (by omega) (by omega)
 rw[←zdw ha,←zdw he,←zdw (show 0≤m by omega)]at h1 h2
 exact⟨h1,h2⟩
theorem zi0 {a b:Bool}:(a&&b)=true↔a=true∧b=true:=by simp
theorem zmn (gr:Group):zbG gr=some (okG gr):=by
 unfold zbG
 refine zah (zaC (ψ:=fun b=>b=okG gr) ?_ fun b hb=>zae hb)
 refine zad (zc3 _ _ _) (zbv (fun h=>?_) fun h=>?_)
 ·have hp:3≤gr.P∧gr.P≤2000000000:=by simpa using h
  rw[zag (n:=gr.P-1) (by omega) (by omega)]
  refine zad (zc3 _ _ _) (zbv (fun h=>?_) fun h=>?_)
  ·have hq:2≤gr.Q∧gr.Q≤gr.P-1:=by simpa using h
   have ed:(gr.P-1).tmod gr.Q=(((gr.P.toNat-1)%gr.Q.toNat:Nat):Int):=by
    rw[zdw (show 0≤gr.P-1 by omega),zdw (show 0≤gr.Q by omega),zcy]
    simp only[Int.toNat_natCast]
    congr 2;omega
   refine zap (by omega) ?_
   rw[ed]
   refine zbv (fun h=>?_) fun h=>?_
   ·have hd:(gr.P.toNat-1)%gr.Q.toNat=0:=by
     have:(((gr.P.toNat-1)%gr.Q.toNat:Nat):Int)=0:=by simpa using h
     omega
    refine zad (zc3 _ _ _) (zbv (fun h=>?_) fun h=>?_)
    ·have hg:2≤gr.G∧gr.G≤gr.P-1:=by simpa using h
     refine zad (zol _) (zbv (fun h=>?_) fun h=>?_)
     ·have hpp:Pr gr.P.toNat:=by
       rw[zi0,zdw (show 0≤gr.P by omega),zhz]at h
       exact h.2
      refine zad (zol _) (zbv (fun h=>?_) fun h=>?_)
      ·have hpq:Pr gr.Q.toNat:=by
        rw[zi0,zdw (show 0≤gr.Q by omega),zhz]at h
        exact h.2
       refine zad (zjx (a:=gr.G) (e:=gr.Q) (m:=gr.P) (by omega) (by omega) (by omega) (by omega) (by omega) (by omega)).1 (zae (zuH (fun h=>⟨hp,hq,hd,hg,hpp,hpq,?_⟩) fun h=>?_))
       ·have:((gr.G.toNat^gr.Q.toNat%gr.P.toNat:Nat):Int)=1:=by simpa using h
        omega
       rw[h.o];rfl
      refine zae (zf9 fun hk=>?_).symm
      have:(decide (gr.Q≤2000000000)&&prB gr.Q)=true:=by
       rw[zi0,zdw (show 0≤gr.Q by omega),zhz]
       exact⟨by simp;omega,hk.pq⟩
      rw[this]at h;cases h
     refine zae (zf9 fun hk=>?_).symm
     have:(decide (gr.P≤2000000000)&&prB gr.P)=true:=by
      rw[zi0,zdw (show 0≤gr.P by omega),zhz]
      exact⟨by simp;omega,hk.pp⟩
     rw[this]at h;cases h
    refine zae (zf9 fun hk=>?_).symm
    have:=hk.g
    simp at h;omega
   refine zae (zf9 fun hk=>?_).symm
   rw[hk.d]at h;cases h
  refine zae (zf9 fun hk=>?_).symm
  have:=hk.q
  simp at h;omega
 refine zae (zf9 fun hk=>?_).symm
 have:=hk.p
 simp at h;omega
theorem zpu (gr:Group):zfs gr=some (okG gr):=by
 unfold zfs
 refine zah (zaC (ψ:=fun b=>b=okG gr) ?_ fun b hb=>zae hb)
 refine zad (zgW _ _ _) (zbv (fun h=>?_) fun h=>?_)
 ·have hp:3≤gr.P∧gr.P≤2000000000:=by simpa using h
  rw[zag (n:=gr.P-1) (by omega) (by omega)]
  refine zad (zgW _ _ _) (zbv (fun h=>?_) fun h=>?_)
  ·have hq:2≤gr.Q∧gr.Q≤gr.P-1:=by simpa using h
   have ed:(gr.P-1).tmod gr.Q=(((gr.P.toNat-1)%gr.Q.toNat:Nat):Int):=by
    rw[zdw (show 0≤gr.P-1 by omega),zdw (show 0≤gr.Q by omega),zcy]
    simp only[Int.toNat_natCast]
    congr 2;omega
   refine zap (by omega) ?_
   rw[ed]
   refine zbv (fun h=>?_) fun h=>?_
   ·have hd:(gr.P.toNat-1)%gr.Q.toNat=0:=by
     have:(((gr.P.toNat-1)%gr.Q.toNat:Nat):Int)=0:=by simpa using h
     omega
    refine zad (zgW _ _ _) (zbv (fun h=>?_) fun h=>?_)
    ·have hg:2≤gr.G∧gr.G≤gr.P-1:=by simpa using h
     refine zad (zjx (a:=gr.G) (e:=gr.Q) (m:=gr.P) (by omega) (by omega) (by omega) (by omega) (by omega) (by omega)).2 (zbv (fun h=>?_) fun h=>?_)
     ·have ho:gr.G.toNat^gr.Q.toNat%gr.P.toNat=1:=by
       have:((gr.G.toNat^gr.Q.toNat%gr.P.toNat:Nat):Int)=1:=by simpa using h
       omega
      refine zad (zpY _ (by omega)) (zbv (fun h=>?_) fun h=>?_)
      ·have hpq:Pr gr.Q.toNat:=by
        rw[zdw (show 0≤gr.Q by omega),zhz]at h
        exact h
       refine zad (zpY _ (by omega)) (zae (zuH (fun h=>⟨hp,hq,hd,hg,?_,hpq,ho⟩) fun h=>?_))
       ·rw[zdw (show 0≤gr.P by omega),zhz]at h
        exact h
       rw[zdw (show 0≤gr.P by omega),zhz]
       exact h.pp
      refine zae (zf9 fun hk=>?_).symm
      have:prB gr.Q=true:=by
       rw[zdw (show 0≤gr.Q by omega),zhz]
       exact hk.pq
      rw[this]at h;cases h
     refine zae (zf9 fun hk=>?_).symm
     rw[hk.o]at h;cases h
    refine zae (zf9 fun hk=>?_).symm
    have:=hk.g
    simp at h;omega
   refine zae (zf9 fun hk=>?_).symm
   rw[hk.d]at h;cases h
  refine zae (zf9 fun hk=>?_).symm
  have:=hk.q
  simp at h;omega
 refine zae (zf9 fun hk=>?_).symm
 have:=hk.p
 simp at h;omega
def zaH (gr:Group) (x:Int):Bool:=decide (1≤x)&&decide (x≤gr.P-1)&&decide (x.toNat^gr.Q.toNat%gr.P.toNat=1)
def zgA (gr:Group) (x:Int):Bool:=decide (0≤x)&&decide (x≤gr.Q-1)
theorem zwO {gr:Group}(k:OkG gr) (x:Int):zdz gr x=some (zaH gr x):=by
 have hp:=k.p
 have hq:=k.q
 unfold zdz zaH
 rw[zag (n:=gr.P-1) (by omega) (by omega),zc3]
 refine zah (zaC (ψ:=fun b=>b=_) ?_ fun b hb=>zae hb)
 refine zad rfl (zbv (fun h=>?_) fun h=>?_)
 ·have hx:1≤x∧x≤gr.P-1:=by simpa using h
  refine zad (zjx (a:=x) (e:=gr.Q) (m:=gr.P) (by omega) (by omega) (by omega) (by omega) (by omega) (by omega)).1 (zae ?_)
  rw[h,Bool.true_and]
  by_cases h1:x.toNat^gr.Q.toNat%gr.P.toNat=1
  ·simp[h1]
  have:¬((x.toNat^gr.Q.toNat%gr.P.toNat:Nat):Int)=1:=by omega
  rw[beq_false_of_ne this,decide_eq_false h1]
 rw[h];exact zae rfl
theorem zBo {gr:Group}(k:OkG gr) (l:List Int):zgb gr l=some (l.all (zaH gr)):=by
 have hp:=k.p
 have hq:=k.q
 unfold zgb
 rw[zag (n:=gr.P-1) (by omega) (by omega)]
 refine zah (zaC (ψ:=fun b=>(b=.inl ()∧l.all (zaH gr)=true)∨(b=.inr false∧l.all (zaH gr)=false)) (zbe (fun i s=>(l.take i).all (zaH gr)=true) rfl ?_ ?_) ?_)
 ·rintro i s hi hI
  refine zbi hi (zaC (ψ:=fun b=>b= !zaH gr l[i]) ?_ ?_)
  ·refine zad (zgW _ _ _) (zbv (fun h=>zae ?_) fun h=>?_)
   ·have h:(decide (1≤l[i])&&decide (l[i]≤gr.P-1))=false:=by rwa [Bool.not_eq_true']at h
    simp[zaH,h]
   have h:(decide (1≤l[i])&&decide (l[i]≤gr.P-1))=true:=by simpa using h
   have hx:1≤l[i]∧l[i]≤gr.P-1:=by simpa using h
   refine zad (zjx (a:=l[i]) (e:=gr.Q) (m:=gr.P) (by omega) (by omega) (by omega) (by omega) (by omega) (by omega)).2 (zae ?_)
   simp only[zaH,h,Bool.true_and]
   by_cases h1:l[i].toNat^gr.Q.toNat%gr.P.toNat=1
   ·simp[h1]
   have:¬((l[i].toNat^gr.Q.toNat%gr.P.toNat:Nat):Int)=1:=by omega
   simp only[bne,beq_false_of_ne this,decide_eq_false h1]
  rintro b rfl
  refine zbv (fun h=>zae (.inr ⟨rfl,?_⟩)) fun h=>zae ?_
  ·have h:zaH gr l[i]=false:=by simpa using h
   rw[List.all_eq_false]
   exact⟨l[i],List.getElem_mem hi,by simp[h]⟩
  have h:zaH gr l[i]=true:=by simpa using h
  show(l.take (i+1)).all (zaH gr)=true
  rw[List.take_succ_eq_append_getElem hi,List.all_append,hI]
  simp[h]
 ·rintro s hI
  rw[List.take_length]at hI
  exact .inl ⟨rfl,hI⟩
 rintro b (⟨rfl,h⟩|⟨rfl,h⟩)
 ·exact zae h.symm
 exact zae h.symm
theorem zlu (l:List Int) (a b:Int):zcj l a b=some (l.all fun x=>decide (a≤x)&&decide (x≤b)):=by
 unfold zcj
 refine zah (zaC (ψ:=fun c=>(c=.inl ()∧(l.all fun x=>decide (a≤x)&&decide (x≤b))=true)∨(c=.inr false∧(l.all fun x=>decide (a≤x)&&decide (x≤b))=false)) (zbe (fun i s=>((l.take i).all fun x=>decide (a≤x)&&decide (x≤b))=true) rfl ?_ ?_) ?_)
 ·rintro i s hi hI
  refine zbi hi (zad (zgW _ _ _) (zbv (fun h=>zae (.inr ⟨rfl,?_⟩)) fun h=>zae ?_))
  ·rw[List.all_eq_false]
   exact⟨l[i],List.getElem_mem hi,by rw[Bool.not_eq_true']at h;rw[h];simp⟩
  show((l.take (i+1)).all fun x=>decide (a≤x)&&decide (x≤b))=true
  rw[List.take_succ_eq_append_getElem hi,List.all_append,hI]
  simpa using h
 ·rintro s hI
  rw[List.take_length]at hI
  exact .inl ⟨rfl,hI⟩
 rintro c (⟨rfl,h⟩|⟨rfl,h⟩)
 ·exact zae h.symm
 exact zae h.symm
theorem zxx {gr:Group}(h:0≤gr.Q) (h2:gr.Q≤2000000000) (l:List Int):zfX gr l=some (l.all (zgA gr)):=by
 unfold zfX
 rw[zag (by omega) (by omega),zlu];rfl
theorem zr1 {gr:Group}(h:0≤gr.Q) (h2:gr.Q≤2000000000) (x:Int):zcM gr x=some (zgA gr x):=by
 unfold zcM
 rw[zag (by omega) (by omega),zc3];rfl
def zaq (gr:Group) (x e:Int):Int:=((x.toNat^(e%gr.Q).toNat%gr.P.toNat:Nat):Int)
theorem zgP {gr:Group}(k:OkG gr) (x e:Int):0≤zaq gr x e∧zaq gr x e≤gr.P-1:=by
 have hp:=k.p
 unfold zaq
 have:=Nat.mod_lt (x.toNat^(e%gr.Q).toNat) (y:=gr.P.toNat) (by omega)
 omega
theorem zmU {gr:Group}(k:OkG gr) {x:Int}(h0:0≤x) (h1:x≤2000000000) (e:Int):zao gr x e=some (zaq gr x e)∧zaJ gr x e=some (zaq gr x e):=by
 have hp:=k.p
 have hq:=k.q
 have b1:0≤e%gr.Q:=Int.emod_nonneg _ (by omega)
 have b2:e%gr.Q<gr.Q:=Int.emod_lt_of_pos _ (by omega)
 have hw:=zjx (a:=x) (e:=e%gr.Q) (m:=gr.P) (by omega) (by omega) (by omega) (by omega) b1 (by omega)
 unfold zao zaJ
 rw[zsH (by omega) (by omega),zqi (by omega) (by omega),Option.bind_some,Option.bind_some,hw.1,hw.2]
 exact⟨rfl,rfl⟩
def zee (gr:Group) (l:List Int):Int:=l.foldl (fun o x=>o*x%gr.P) 1
theorem zpU {gr:Group}(h:1≤gr.P):∀(l:List Int) (o:Int),0≤o→o≤gr.P→(∀x∈l,0≤x)→0≤l.foldl (fun o x=>o*x%gr.P) o∧l.foldl (fun o x=>o*x%gr.P) o≤gr.P:=by
 intro l
 induction l with
 |nil=>intro o h0 h1 _;exact⟨h0,h1⟩
 |cons x l ih=>
  intro o h0 h1 h2
  exact ih _ (Int.emod_nonneg _ (by omega)) (Int.le_of_lt (Int.emod_lt_of_pos (o*x) (show 0<gr.P by omega))) fun y hy=>h2 y (List.mem_cons_of_mem _ hy)
theorem zyp (gr:Group) (l:List Int):zbD gr l=zba gr l:=rfl
theorem zo8 {gr:Group}(k:OkG gr) {l:List Int}(hl:∀x∈l,0≤x∧x≤2000000000):zba gr l=some (zee gr l):=by
 have hp:=k.p
 unfold zba
 refine zah (zaC (ψ:=fun b=>b=zee gr l) (zbe (fun i s=>s=(l.take i).foldl (fun o x=>o*x%gr.P) 1) rfl ?_ ?_) fun b hb=>zae hb)
 ·rintro i s hi rfl
  have hb:=zpU (gr:=gr) (by omega) (l.take i) 1 (by omega) (by omega) fun x hx=>(hl x (List.mem_of_mem_take hx)).1
  have hx:=hl l[i] (List.getElem_mem hi)
  refine zbi hi (zap (by omega) (zae ?_))
  show _=(l.take (i+1)).foldl _ _
  rw[List.take_succ_eq_append_getElem hi,List.foldl_append]
  generalize (l.take i).foldl (fun o x=>o*x%gr.P) 1=o at hb⊢
  have b1:0≤o*l[i]:=Int.mul_nonneg hb.1 hx.1
  have b2:o*l[i]≤2000000000*2000000000:=Int.mul_le_mul (by omega) hx.2 hx.1 (by omega)
  show(IntKind.i64.wrap (o*l[i])).tmod gr.P=o*l[i]%gr.P
  rw[zag (by omega) (by omega),Int.tmod_eq_emod_of_nonneg b1]
 rintro s rfl
 rw[List.take_length];rfl
theorem zuI {gr:Group}(k:OkG gr) {l:List Int}(hl:∀x∈l,0≤x∧x≤2000000000):zbD gr l=some (zee gr l):=by rw[zyp];exact zo8 k hl
theorem zxd {gr:Group}(k:OkG gr) {l:List Int}(hl:∀x∈l,0≤x∧x≤2000000000):0≤zee gr l∧zee gr l≤gr.P:=by
 have hp:=k.p
 exact zpU (by omega) l 1 (by omega) (by omega) fun x hx=>(hl x hx).1
theorem zqs {gr:Group}(k:OkG gr) (l:List Int):zb5 gr l=some (l.all (zaH gr)):=by
 unfold zb5 zcf zaB zaG
 refine zah (zaC (ψ:=fun b=>b=l.all (zaH gr)) (zaC (ψ:=fun b=>b= !l.all (zaH gr)) (zaC (ψ:=fun j=>(j=-1∧l.all (zaH gr)=true)∨(0≤j∧l.all (zaH gr)=false)) (zaC (ψ:=fun b=>(b=.inl ()∧l.all (zaH gr)=true)∨(∃j,b=.inr j∧0≤j∧l.all (zaH gr)=false)) (zbe (fun i s=>(l.take i).all (zaH gr)=true) rfl ?_ ?_) ?_) ?_) ?_) ?_)
 ·rintro i s hi hI
  have hc:zbu l[i] gr=some (!zaH gr l[i]):=by
   unfold zbu
   rw[zwO k];rfl
  refine zbi hi (zad hc (zbv (fun h=>zae (.inr ⟨i,rfl,by omega,?_⟩)) fun h=>zae ?_))
  ·rw[List.all_eq_false]
   exact⟨l[i],List.getElem_mem hi,by rw[Bool.not_eq_true']at h;rw[h];simp⟩
  show(l.take (i+1)).all (zaH gr)=true
  rw[List.take_succ_eq_append_getElem hi,List.all_append,hI]
  simpa using h
 ·rintro s hI
  rw[List.take_length]at hI
  exact .inl ⟨rfl,hI⟩
 ·rintro b (⟨rfl,h⟩|⟨j,rfl,h0,h⟩)
  ·exact zae (.inl ⟨rfl,h⟩)
  exact zae (.inr ⟨h0,h⟩)
 ·rintro j (⟨rfl,h⟩|⟨h0,h⟩)
  ·exact zae (by rw[h];rfl)
  exact zae (by rw[h];simpa using h0)
 ·rintro b rfl
  exact zae (by simp)
 rintro b rfl
 exact zae rfl
theorem zjr {gr:Group}{x:Int}(h:zaH gr x=true):1≤x∧x≤gr.P-1:=by
 simp only[zaH,Bool.and_eq_true,decide_eq_true_eq]at h
 exact h.1
theorem zov {gr:Group}(k:OkG gr) {y m:Int}(hy:zaH gr y=true) (hm:zaH gr m=true) (r:Int):
 zbC gr y m r=some (Cipher.mk (zaq gr gr.G r) (zee gr [m,zaq gr y r]))∧zgk gr y m r=some (Cipher.mk (zaq gr gr.G r) (zee gr [m,zaq gr y r])):=by
 have hp:=k.p
 have hg:=k.g
 have b1:=zjr hy
 have b2:=zjr hm
 have e1:=zmU k (x:=gr.G) (by omega) (by omega) r
 have e2:=zmU k (x:=y) (by omega) (by omega) r
 have hl:∀x∈[m,zaq gr y r],0≤x∧x≤2000000000:=fun x hx=>by
  simp only[List.mem_cons,List.not_mem_nil,or_false]at hx
  rcases hx with rfl|rfl
  ·omega
  ·have:=zgP k y r;omega
 unfold zbC zgk
 rw[e1.1,e1.2,Option.bind_some,Option.bind_some,e2.1,e2.2,Option.bind_some,Option.bind_some,zo8 k hl,zuI k hl]
 exact⟨rfl,rfl⟩
theorem ztc {α:Type}(b:Bool) (u v:α):(if b=true then some u else some v)=some (if(!b)=true then v else u):=by cases b<;>rfl
theorem zBG {α:Type}(b:Bool) (u v:α):(if(!b)=true then some u else some v)=some (if b=true then v else u):=by cases b<;>rfl
theorem zil {β:Type}{body:Int→Unit→Option (Stp Unit (Unit ⊕ β))}(m:Nat) (p:Nat→Bool) (val:Nat→β) (h:∀k,k<m→body (k:Int) ()=some (if p k=true then .go ()else .out (.inr (val k)))):
 (zak body (fun _=>.inl ()) m 0 ()=some (.inl ())∧∀k,k<m→p k=true)∨∃k,k<m∧p k=false∧(∀j,j<k→p j=true)∧zak body (fun _=>.inl ()) m 0 ()=some (.inr (val k)):=by
 have key:Rn (zak body (fun _=>Sum.inl ()) m 0 ()) (fun b=>(b=.inl ()∧∀k,k<m→p k=true)∨∃k,k<m∧p k=false∧(∀j,j<k→p j=true)∧b=.inr (val k)):=by
  refine zbe (fun k _=>∀j,j<k→p j=true) (fun j hj=>by omega) ?_ fun s hs=>.inl ⟨rfl,hs⟩
  intro k s hk hI
  refine⟨_,h k hk,?_⟩
  cases hp:p k with
  |true=>
   intro j hj
   rcases Nat.lt_or_ge j k with h|h
   ·exact hI j h
   ·have:j=k:=by omega
    rw[this];exact hp
  |false=>exact .inr ⟨k,hk,hp,hI,rfl⟩
 obtain⟨b,e,h1|⟨k,h1,h2,h3,h4⟩⟩:=key
 ·exact .inl ⟨by rw[e,h1.1],h1.2⟩
 exact .inr ⟨k,h1,h2,h3,by rw[e,h4]⟩
theorem zCk {α:Type}(l:List α) (p:α→Bool) (c:Bool) {body:Int→Unit→Option (Stp Unit (Unit ⊕ Bool))}(h:∀k (hk:k<l.length),body (k:Int) ()=some (if p l[k]=true then .go ()else .out (.inr c))):
 (zak body (fun _=>.inl ()) l.length 0 ()).bind (Sum.elim (fun _=>some (!c)) some)=some (if l.all p=true then !c else c):=by
 rcases zil (body:=body) l.length (fun k=>(l[k]?).any p) (fun _=>c) (fun k hk=>by rw[h k hk,List.getElem?_eq_getElem hk];rfl)with⟨e,h1⟩|⟨k,h1,h2,h3,e⟩
 ·rw[e]
  have:l.all p=true:=by
   rw[List.all_eq_true]
   intro x hx
   obtain⟨k,hk,rfl⟩:=List.mem_iff_getElem.1 hx
   have:=h1 k hk
   rw[List.getElem?_eq_getElem hk]at this
   exact this
  rw[this];rfl
 rw[e]
 have:l.all p=false:=by
  rw[List.all_eq_false]
  refine⟨l[k],List.getElem_mem h1,?_⟩
  rw[List.getElem?_eq_getElem h1]at h2
  simpa using h2
 rw[this];rfl
theorem zxN (l:List Int) (x:Int):zfU l x=some (l.contains x):=by
 unfold zfU
 have:=zCk l (fun y=> !(y==x)) true (body:=fun i8 s7=>(ix l i8).bind fun x17=>if(x17==x)=true then some (.out (.inr true))else some (.go ())) fun k hk=>by
  rw[zeq hk,Option.bind_some]
  exact ztc _ _ _
 rw[show(!true)=false from rfl]at this
 refine this.trans ?_
 congr 1
 cases hc:l.contains x with
 |true=>
  have hm:x∈l:=by simpa using hc
  have:(l.all fun y=> !(y==x))=false:=by
   rw[List.all_eq_false]
   exact⟨x,hm,by simp⟩
  rw[this];rfl
 |false=>
  have hm:¬x∈l:=by simpa using hc
  have:(l.all fun y=> !(y==x))=true:=by
   rw[List.all_eq_true]
   intro y hy
   have:y≠x:=fun e=>hm (e▸hy)
   simp[this]
  rw[this];rfl
theorem zwS (l:List Int) (x:Int):(zb2 l x=some (-1)∧¬x∈l)∨∃k,∃h:k<l.length,zb2 l x=some (k:Int)∧l[k]=x∧∀j (hj:j<k),l[j]'(by omega)≠x:=by
 unfold zb2
 rcases zil l.length (fun k=>(l[k]?).any fun y=> !(x==y)) (fun k=>(k:Int)) (body:=fun i8 s7=>(ix l i8).bind fun x17=>if(x==x17)=true then some (.out (.inr i8))else some (.go ())) (fun k hk=>by
  rw[zeq hk,Option.bind_some,List.getElem?_eq_getElem hk]
  exact ztc _ _ _)with⟨e,h1⟩|⟨k,h1,h2,h3,e⟩
 ·refine .inl ⟨by rw[e];rfl,fun hx=>?_⟩
  obtain⟨k,hk,rfl⟩:=List.mem_iff_getElem.1 hx
  have:=h1 k hk
  rw[List.getElem?_eq_getElem hk]at this
  simp at this
 refine .inr ⟨k,h1,by rw[e];rfl,?_,fun j hj=>?_⟩
 ·rw[List.getElem?_eq_getElem h1]at h2
  simp at h2
  exact h2.symm
 have:=h3 j hj
 rw[List.getElem?_eq_getElem (by omega)]at this
 simp at this
 exact fun e=>this e.symm
theorem zsS (l:List Int) (x:Int):zb9 l x=some (l.contains x):=by
 unfold zb9
 rcases zwS l x with⟨e,h⟩|⟨k,hk,e,h,_⟩
 ·rw[e]
  have:l.contains x=false:=by simpa using h
  rw[this];rfl
 rw[e]
 have:l.contains x=true:=by
  have:=List.getElem_mem hk
  rw[h]at this
  simpa using this
 rw[this]
 simp
open Classical in
def zhY (l:List Int):Bool:=decide l.Nodup
theorem zpw {C:List Int→Int→Option Bool}(hC:∀l x,C l x=some (l.contains x)) (l:List Int) (hl:l.length≤1000000000000):
 ((zak (σ:=Unit) (fun i5 s4=>
 (ix l i5).bind fun x11=>
 gd (0≤i5)<|
 gd (0≤i5.toNat∧i5.toNat≤l.length)<|
 (C ((l.take i5.toNat).drop 0) x11).bind fun z12=>
 if z12=true then(
 some (.out (.inr false)))else(
 some (.go ()))) (fun s4=>.inl ()) (l.length) 0 ():Option (Unit ⊕ Bool)).bind (Sum.elim (fun x3=>
 some true) some))=some (zhY l):=by
 rcases zil l.length (fun k=>(l[k]?).any fun y=> !(l.take k).contains y) (fun _=>false) (body:=fun i8 s7=>
  (ix l i8).bind fun x17=>
  gd (0≤i8)<|
  gd (0≤i8.toNat∧i8.toNat≤l.length)<|
  (C ((l.take i8.toNat).drop 0) x17).bind fun z26=>
  if z26=true then(
  some (.out (.inr false)))else(
  some (.go ()))) (fun k hk=>by
   rw[zeq hk,Option.bind_some,zcu (by omega),zcu (by simp;omega),hC,List.getElem?_eq_getElem hk,Option.bind_some,Int.toNat_natCast,List.drop_zero]
   exact ztc _ _ _)with⟨e,h1⟩|⟨k,h1,h2,h3,e⟩
 ·rw[e]
  have:zhY l=true:=by
   unfold zhY
   rw[decide_eq_true_eq,List.nodup_iff_pairwise_ne,List.pairwise_iff_getElem]
   intro i j hi hj hij e
   have:=h1 j hj
   rw[List.getElem?_eq_getElem hj]at this
   have hm:l[j]∈l.take j:=by
    rw[←e]
    exact List.mem_iff_getElem.2 ⟨i,by simp;omega,by simp⟩
   have hc:(l.take j).contains l[j]=true:=by simpa using hm
   simp only[Option.any_some,hc]at this
   cases this
  rw[this];rfl
 rw[e]
 have:zhY l=false:=by
  unfold zhY
  rw[decide_eq_false_iff_not,List.nodup_iff_pairwise_ne,List.pairwise_iff_getElem]
  intro hd
  rw[List.getElem?_eq_getElem h1]at h2
  have hc:(l.take k).contains l[k]=true:=by simpa using h2
  have hm:l[k]∈l.take k:=by simpa using hc
  obtain⟨i,hi,e⟩:=List.mem_iff_getElem.1 hm
  simp at hi e
  exact hd i k (by omega) h1 (by omega) e
 rw[this];rfl
theorem zyW (l:List Int) (hl:l.length≤1000000000000):zdr l=some (zhY l):=zpw zsS l hl
theorem zgZ {l:List Int}{p:Int→Bool}{f:Int→Option Bool}(hf:∀x∈l,f x=some (!p x)):
 ((((zak (σ:=Unit) (β:=Unit ⊕ Int) (fun i8 s7=>(ix l i8).bind fun x17=>(f x17).bind fun z20=>if z20=true then(some (.out (.inr i8)))else(some (.go ()))) (fun s7=>.inl ()) (l.length) 0 ():Option (Unit ⊕ Int)).bind (Sum.elim (fun(x5:Unit)=>some (-1)) some)).bind fun z1=>some (decide (0≤z1))).bind fun z1=>some (!z1))=some (l.all p):=by
 rcases zil l.length (fun k=>(l[k]?).any p) (fun k=>(k:Int)) (body:=fun i8 s7=>(ix l i8).bind fun x17=>(f x17).bind fun z20=>if z20=true then(some (.out (.inr i8)))else(some (.go ()))) (fun k hk=>by
  rw[zeq hk,Option.bind_some,hf _ (List.getElem_mem hk),Option.bind_some,List.getElem?_eq_getElem hk]
  exact zBG _ _ _)with⟨e,h1⟩|⟨k,h1,h2,h3,e⟩
 ·rw[e]
  have:l.all p=true:=by
   rw[List.all_eq_true]
   intro x hx
   obtain⟨k,hk,rfl⟩:=List.mem_iff_getElem.1 hx
   have:=h1 k hk
   rw[List.getElem?_eq_getElem hk]at this
   exact this
  rw[this];rfl
 rw[e]
 have:l.all p=false:=by
  rw[List.all_eq_false]
  refine⟨l[k],List.getElem_mem h1,?_⟩
  rw[List.getElem?_eq_getElem h1]at h2
  simpa using h2
 rw[this]
 simp
def dg (q:Nat):Nat→Nat→List Int
 |0,_=>[]
 |k+1,n=>((n%q:Nat):Int)::dg q k (n/q)
theorem zy5 {gr:Group}(k:OkG gr) (m:Int):zgb gr [m]=some (zaH gr m):=by
 rw[zBo k];simp
theorem zlf {gr:Group}(h:0≤gr.Q) (h2:gr.Q≤2000000000) (l:List Int):zaX gr l=some (l.all (zgA gr)):=by
 have h1:zb1 l gr=some (l.all (zgA gr)):=zgZ (f:=fun x=>zbk x gr) fun x _=>by
  unfold zbk
  rw[zr1 h h2];rfl
 unfold zaX
 rw[h1];rfl
theorem zjn {a n p e:Nat}(h:a^n%p=1):a^(e%n)%p=a^e%p:=by
 have hp:1%p=1:=by rw[←h,Nat.mod_mod]
 conv=>rhs;rw[←Nat.div_add_mod e n]
 rw[Nat.pow_add,Nat.pow_mul,Nat.mul_mod,Nat.pow_mod (a^n),h,Nat.one_pow,hp,Nat.one_mul,Nat.mod_mod]
theorem zlM {gr:Group}{x:Int}(h:zaH gr x=true):1≤x∧x≤gr.P-1∧x.toNat^gr.Q.toNat%gr.P.toNat=1:=by
 unfold zaH at h
 simp only[Bool.and_eq_true,decide_eq_true_eq]at h
 exact⟨h.1.1,h.1.2,h.2⟩
theorem zvX {gr:Group}(k:OkG gr) {x:Int}(h:zaH gr x=true) {s l:Int}(hs:0≤s) (hl:0≤l):zaq gr (zaq gr x s) l=zaq gr x (s*l):=by
 obtain⟨_,_,h3⟩:=zlM h
 have hq:=k.q
 obtain⟨a,rfl⟩:=Int.eq_ofNat_of_zero_le hs
 obtain⟨b,rfl⟩:=Int.eq_ofNat_of_zero_le hl
 obtain⟨n,hn⟩:=Int.eq_ofNat_of_zero_le (show 0≤gr.Q by omega)
 unfold zaq
 rw[hn]at h3⊢
 rw[Int.toNat_natCast]at h3
 have e:∀c:Nat,((c:Int)%(n:Int)).toNat=c%n:=fun c=>by rw[←Int.natCast_emod,Int.toNat_natCast]
 rw[zgy,e,e,e,Int.toNat_natCast,zjn h3,zjn h3,←Nat.pow_mod,←Nat.pow_mul]
 congr 1
 rw[Nat.pow_mul,Nat.pow_mod,zjn (n:=n) (e:=b)]
 ·rw[←Nat.pow_mod,←Nat.pow_mul]
 rw[←Nat.pow_mod,←Nat.pow_mul,Nat.mul_comm,Nat.pow_mul,Nat.pow_mod,h3,Nat.one_pow,←h3,Nat.mod_mod]
theorem zuk {n d:Nat}(h:Pr n) (hd:d%n≠0):Nat.gcd n d=1:=by
 obtain⟨k,hk⟩:=Nat.gcd_dvd_left n d
 have hn:=h.1
 have h0:0<Nat.gcd n d:=Nat.gcd_pos_of_pos_left d (by omega)
 have hdv:=Nat.gcd_dvd_right n d
 generalize Nat.gcd n d=g at hk h0 hdv
 apply Classical.byContradiction
 intro hg
 have hg2:2≤g:=by omega
 have hk2:2≤k:=by
  rcases Nat.lt_or_ge k 2 with h|h
  ·have:k=0∨k=1:=by omega
   rcases this with rfl|rfl
   ·omega
   ·rw[Nat.mul_one]at hk
    rw[←hk]at hdv
    exact absurd (Nat.mod_eq_zero_of_dvd hdv) hd
  ·exact h
 rcases Nat.le_total g k with h'|h'
 ·exact h.2 g hg2 (by rw[hk];exact Nat.mul_le_mul_left g h') (by rw[hk];exact Nat.mul_mod_right g k)
 exact h.2 k hk2 (by rw[hk];exact Nat.mul_le_mul_right k h') (by rw[hk];exact Nat.mul_mod_left g k)
theorem zyK {n:Nat}(h:Pr n) {a b:Int}(hab:(a*b)%(n:Int)=0):a%(n:Int)=0∨b%(n:Int)=0:=by
 have h1:n∣a.natAbs*b.natAbs:=by
  rw[←Int.natAbs_mul]
  exact Int.ofNat_dvd_left.1 (Int.dvd_of_emod_eq_zero hab)
 by_cases ha:a.natAbs%n=0
 ·exact .inl (Int.emod_eq_zero_of_dvd (Int.ofNat_dvd_left.2 (Nat.dvd_of_mod_eq_zero ha)))
 exact .inr (Int.emod_eq_zero_of_dvd (Int.ofNat_dvd_left.2 (Nat.Coprime.dvd_of_dvd_mul_left (zuk h ha) h1)))
def evP (f:List Int) (x:Int):Int:=f.foldr (fun c a=>a*x+c) 0
theorem zp5 (c:Int) (f:List Int) (x:Int):evP (c::f) x=evP f x*x+c:=rfl
def dvP (r:Int):List Int→List Int
 |[]=>[]
 |[_]=>[]
 |_::c::f=>evP (c::f) r::dvP r (c::f)
theorem zrU (r:Int):∀f:List Int,(dvP r f).length=f.length-1
 |[]=>rfl
 |[_]=>rfl
 |_::c::f=>by
  show(dvP r (c::f)).length+1=_
  rw[zrU r (c::f)];simp
theorem ztO (r x:Int):∀f:List Int,evP f x=evP (dvP r f) x*(x-r)+evP f r
 |[]=>by simp[dvP,evP]
 |[c]=>by simp[dvP,evP]
 |d::c::f=>by
  have ih:=ztO r x (c::f)
  show evP (c::f) x*x+d=(evP (dvP r (c::f)) x*x+evP (c::f) r)*(x-r)+(evP (c::f) r*r+d)
  rw[ih]
  grind
theorem zpQ (r:Int):∀f:List Int,2≤f.length→(dvP r f).getLastD 0=f.getLastD 0
 |[],h=>absurd h (by simp)
 |[_],h=>absurd h (by simp)
 |[d,c],_=>by simp[dvP,evP]
 |e::d::c::f,_=>by
  have ih:=zpQ r (d::c::f) (by simp)
  show(evP (d::c::f) r::evP (c::f) r::dvP r (c::f)).getLastD 0=_
  have:dvP r (d::c::f)=evP (c::f) r::dvP r (c::f):=rfl
  rw[this]at ih
  simpa[List.getLastD]using ih
theorem zu7 {p:Nat}(hp:Pr p):∀(n:Nat) (f:List Int),f.length=n+1→f.getLastD 0%(p:Int)≠0→∀rs:List Int,rs.Pairwise (fun a b=>(b-a)%(p:Int)≠0)→(∀r∈rs,evP f r%(p:Int)=0)→rs.length≤n
 |0,f,hl,hf,rs,hd,hr=>by
  match f,hl with
  |[c],_=>
   cases rs with
   |nil=>simp
   |cons r rs=>
    have:=hr r (List.mem_cons_self ..)
    simp[evP]at this
    exact absurd (by first|exact this|exact Int.emod_eq_zero_of_dvd this) (by simpa[List.getLastD]using hf)
 |n+1,f,hl,hf,rs,hd,hr=>by
  cases rs with
  |nil=>simp
  |cons r rs=>
   have h1:=List.pairwise_cons.1 hd
   have:=zu7 hp n (dvP r f) (by rw[zrU];omega) (by rw[zpQ r f (by omega)];exact hf) rs h1.2 fun s hs=>by
    have e:=ztO r s f
    have hs0:=hr s (List.mem_cons_of_mem _ hs)
    have hr0:=hr r (List.mem_cons_self ..)
    have hm:(evP (dvP r f) s*(s-r))%(p:Int)=0:=by
     rw[show evP (dvP r f) s*(s-r)=evP f s-evP f r by omega,Int.sub_emod,hs0,hr0];simp
    rcases zyK hp hm with h|h
    ·exact h
    ·exact absurd h (h1.1 s hs)
   simpa using this
theorem zvl (k:Nat) (x:Int):evP (List.replicate k 0++[1]) x=x^k:=by
 induction k with
 |zero=>simp[evP]
 |succ k ih=>rw[List.replicate_succ,List.cons_append,zp5,ih,Int.pow_succ];omega
theorem zq2 {p n:Nat}(hp:Pr p) (hn:1≤n) (rs:List Int) (hd:rs.Pairwise (fun a b=>(b-a)%(p:Int)≠0)) (hr:∀r∈rs,r^n%(p:Int)=1):rs.length≤n:=by
 have h2:=hp.1
 have hone:(1:Int)%(p:Int)=1:=Int.emod_eq_of_lt (by omega) (by omega)
 obtain⟨k,rfl⟩:∃k,n=k+1:=⟨n-1,by omega⟩
 refine zu7 hp (k+1) (-1::(List.replicate k 0++[1])) (by simp) ?_ rs hd fun r hr'=>?_
 ·have:(-1::(List.replicate k (0:Int)++[1])).getLastD 0=1:=by
   rw[←List.cons_append,List.getLastD_concat]
  rw[this,hone];omega
 rw[zp5,zvl,←Int.pow_succ,Int.add_emod,hr r hr']
 have:((-1:Int)%(p:Int))=p-1:=by
  have:=Int.add_mul_emod_self_left (-1) (p:Int) 1
  rw[←this,Int.mul_one,Int.emod_eq_of_lt (by omega) (by omega)];omega
 rw[this,show 1+((p:Int)-1)=p by omega,Int.emod_self]
theorem zl4 {a p:Nat}(hp:2≤p) {m:Nat}(h:a^m%p=1) (k r:Nat):a^(m*k+r)%p=a^r%p:=by
 rw[Nat.pow_add,Nat.pow_mul,Nat.mul_mod,Nat.pow_mod (a^m),h,Nat.one_pow,Nat.mod_eq_of_lt (show 1<p by omega),Nat.one_mul,Nat.mod_mod]
theorem zxE {a p:Nat}(hp:2≤p):∀m n,a^m%p=1→a^n%p=1→a^(Nat.gcd m n)%p=1:=by
 intro m n
 induction m,n using Nat.gcd.induction with
 |H0 n=>intro _ h;simpa using h
 |H1 m n hm ih=>
  intro h1 h2
  rw[Nat.gcd_rec]
  refine ih ?_ h1
  rw[←zl4 hp h1 (n/m) (n%m),Nat.div_add_mod]
  exact h2
theorem zxv {a p q:Nat}(hp:2≤p) (hq:Pr q) (ha:a^q%p=1) (ha1:a%p≠1) {i j:Nat}(hij:i<j) (hj:j<q):a^i%p≠a^j%p:=by
 intro e
 have h1:a^(j-i)%p=1:=by
  have e1:a^(j-i)%p=a^(q*1+(j-i))%p:=(zl4 hp ha 1 (j-i)).symm
  rw[e1,show q*1+(j-i)=j+(q-i)by omega,Nat.pow_add,Nat.mul_mod,←e,←Nat.mul_mod,←Nat.pow_add,show i+(q-i)=q by omega]
  exact ha
 have h2:=zxE hp q (j-i) ha h1
 rw[zuk hq (by rw[Nat.mod_eq_of_lt (by omega)];omega),Nat.pow_one]at h2
 exact ha1 h2
theorem zmD {gr:Group}{x:Int}(h:zaH gr x=true):x.toNat^gr.Q.toNat%gr.P.toNat=1:=by
 simp only[zaH,Bool.and_eq_true,decide_eq_true_eq]at h
 exact h.2
theorem zrx {gr:Group}{x:Int}(k:OkG gr) (h:zaH gr x=true):x.toNat<gr.P.toNat∧1≤x.toNat:=by
 have:=zjr h
 have:=k.p
 omega
theorem zyV {gr:Group}(k:OkG gr) {h x:Int}(hh:zaH gr h=true) (h1:h≠1) (hx:zaH gr x=true):∃s:Nat,h.toNat^s%gr.P.toNat=x.toNat:=by
 have hp2:2≤gr.P.toNat:=by have:=k.p;omega
 have hb:=zrx k hh
 have hbx:=zrx k hx
 have ha1:h.toNat%gr.P.toNat≠1:=by rw[Nat.mod_eq_of_lt hb.1];have:=zjr hh;omega
 apply Classical.byContradiction
 intro hn
 have hn':∀s:Nat,h.toNat^s%gr.P.toNat≠x.toNat:=fun s e=>hn ⟨s,e⟩
 have key:∀a b:Nat,a<gr.P.toNat→b<gr.P.toNat→a≠b→((b:Int)-(a:Int))%(gr.P.toNat:Int)≠0:=by
  intro a b ha hb' hab he
  have h3:((gr.P.toNat:Nat):Int)∣(b:Int)-(a:Int):=Int.dvd_of_emod_eq_zero he
  obtain⟨c,hc⟩:=h3
  rcases Int.lt_trichotomy c 0 with h4|h4|h4
  ·have:(gr.P.toNat:Int)*c≤(gr.P.toNat:Int)*(-1):=Int.mul_le_mul_of_nonneg_left (by omega) (by omega)
   omega
  ·subst h4;simp at hc;omega
  ·have:(gr.P.toNat:Int)*1≤(gr.P.toNat:Int)*c:=Int.mul_le_mul_of_nonneg_left (by omega) (by omega)
   omega
 have hlt:∀s,h.toNat^s%gr.P.toNat<gr.P.toNat:=fun s=>Nat.mod_lt _ (by omega)
 have hlen:=zq2 (p:=gr.P.toNat) (n:=gr.Q.toNat) k.pp (by have:=k.q;omega) ((x.toNat:Int)::(List.range gr.Q.toNat).map fun i=>((h.toNat^i%gr.P.toNat:Nat):Int)) ?_ ?_
 ·simp at hlen;omega
 ·rw[List.pairwise_cons]
  refine⟨fun y hy=>?_,?_⟩
  ·obtain⟨i,hi,rfl⟩:=List.mem_map.1 hy
   exact key _ _ hbx.1 (hlt i) fun e=>hn' i e.symm
  rw[List.pairwise_map]
  refine List.Pairwise.imp_of_mem ?_ List.pairwise_lt_range
  intro i j hi hj hij
  exact key _ _ (hlt i) (hlt j) (zxv hp2 k.pq (zmD hh) ha1 hij (List.mem_range.1 hj))
 intro r hr
 rcases List.mem_cons.1 hr with rfl|hr
 ·have:=zmD hx
  rw[←Int.natCast_pow,←Int.natCast_emod,this];rfl
 obtain⟨i,hi,rfl⟩:=List.mem_map.1 hr
 have h5:(h.toNat^i%gr.P.toNat)^gr.Q.toNat%gr.P.toNat=1:=by
  rw[←Nat.pow_mod,←Nat.pow_mul,Nat.mul_comm,Nat.pow_mul,Nat.pow_mod,zmD hh,Nat.one_pow,Nat.mod_eq_of_lt (by omega)]
 rw[←Int.natCast_pow,←Int.natCast_emod,h5];rfl
def znW (gr:Group) (c:Cipher):Bool:=zaH gr c.A&&zaH gr c.B
def byL (s:ByteArray):List Int:=s.data.toList.map fun b=>(b.toNat:Int)
theorem zhq (s:ByteArray):(byL s).length=s.size:=by
 show(s.data.toList.map _).length=s.data.size
 rw[List.length_map,Array.length_toList]
theorem zt9 (s:ByteArray):∀x∈byL s,0≤x∧x≤255:=by
 intro x hx
 obtain⟨b,_,rfl⟩:=List.mem_map.1 hx
 have:=b.toNat_lt
 omega
theorem zzE {s:ByteArray}{k:Nat}(h:k<s.size):ixs s (k:Int)=some ((byL s)[k]'(by rw[zhq];exact h)):=by
 have h2:k<s.data.size:=h
 simp[ixs,byL,h]
 rfl
theorem ztP (s:ByteArray) (l:List Int) (hs:s.size≤1000000) (hl:l.length≤1000000000000):zfz s l=some ((s.size:Int)::byL s++l):=by
 unfold zfz
 refine zah (zaC (ψ:=fun x=>x=(s.size:Int)::byL s) (zgD s.size (fun n p=>n≤s.size∧p=((s.size:Int)::(byL s).take n,(n:Int))) ⟨by omega,by simp⟩ ?_ ?_) ?_)
 ·rintro n p hn ⟨_,rfl⟩
  have hn2:n<(byL s).length:=by rw[zhq];exact hn
  have hb:=zt9 s _ (List.getElem_mem hn2)
  refine zbv (fun _=>?_) fun h=>absurd h (by simp;omega)
  refine zad (zzE hn) (zap ?_ (zae ⟨by omega,?_⟩))
  ·simp only[List.length_cons,List.length_take,zhq];omega
  show((s.size:Int)::(byL s).take n++[_],_)=_
  rw[zag (by omega) (by omega),zag (by omega) (by omega),List.cons_append,List.take_append_getElem hn2]
  rfl
 ·rintro p ⟨_,rfl⟩
  refine zbv (fun h=>absurd h (by simp)) fun _=>zae ?_
  show(s.size:Int)::(byL s).take s.size=_
  rw[List.take_of_length_le (by rw[zhq];omega)]
 rintro _ rfl
 refine zap ?_ (zae rfl)
 simp only[List.length_cons,zhq];omega
theorem ztg (s:ByteArray) (l:List Int) (hs:s.size≤1000000) (hl:l.length≤1000000000000):zfP s l=some ((s.size:Int)::byL s++l):=ztP s l hs hl
def zbq (x:Int):Bool:=decide (0≤x)&&decide (x≤4611686018427387903)
theorem zc1 {x:Int}:zbq x=true↔0≤x∧x≤4611686018427387903:=by simp[zbq]
theorem zj1 (x:Int):zdN x=some (zbq x):=by
 unfold zdN
 rw[zc3];rfl
theorem ztt (x:Int):zeM x=some (zbq x):=by
 unfold zeM
 rw[zgW];rfl
theorem zwT (s:ByteArray):(byL s).all zbq=true:=by
 rw[List.all_eq_true]
 intro x hx
 have:=zt9 s x hx
 exact zc1.2 ⟨by omega,by omega⟩
def hs1 (c s k:Int):Int:=(c*s+k+1)%2147483647
def ziQ (p:Int×Int) (x:Int):Int×Int:=(hs1 48271 (hs1 48271 p.1 (x%2147483648)) (x/2147483648),hs1 69621 (hs1 69621 p.2 (x%2147483648)) (x/2147483648))
def zlF (l:List Int):Int:=let p:=(((l.length:Int)::l).foldl ziQ (1,2));p.1*2147483648+p.2
theorem zjq (c s k:Int):0≤hs1 c s k∧hs1 c s k≤2147483646:=by unfold hs1;omega
theorem zhO {c s k:Int}(hc:c=48271∨c=69621) (hs:0≤s∧s≤2147483646) (hk:0≤k∧k≤2147483648):(IntKind.i64.wrap ((IntKind.i64.wrap ((IntKind.i64.wrap (c*s))+k))+1)).tmod 2147483647=hs1 c s k:=by
 rcases hc with rfl|rfl
 ·rw[zag (n:=48271*s) (by omega) (by omega),zag (n:=48271*s+k) (by omega) (by omega),zag (by omega) (by omega),Int.tmod_eq_emod_of_nonneg (by omega)];rfl
 rw[zag (n:=69621*s) (by omega) (by omega),zag (n:=69621*s+k) (by omega) (by omega),zag (by omega) (by omega),Int.tmod_eq_emod_of_nonneg (by omega)];rfl
def okP (p:Int×Int):Prop:=(0≤p.1∧p.1≤2147483646)∧(0≤p.2∧p.2≤2147483646)
theorem zxe (p:Int×Int) (x:Int):okP (ziQ p x):=⟨zjq _ _ _,zjq _ _ _⟩
theorem zie:∀(l:List Int) (p:Int×Int),okP p→okP (l.foldl ziQ p)
 |[],_,h=>h
 |x::l,p,_=>zie l _ (zxe p x)
theorem zuD (l:List Int):zbq (zlF l)=true:=by
 obtain⟨h1,h2⟩:=zie ((l.length:Int)::l) (1,2) ⟨by decide,by decide⟩
 refine zc1.2 ?_
 unfold zlF
 dsimp only
 omega
theorem zpN {p:Int×Int}{x:Int}(hp:okP p) (hx:zbq x=true):zbz p.1 p.2 x=some (ziQ p x):=by
 obtain⟨h1,h2⟩:=hp
 have hx:=zc1.1 hx
 have e1:x.tmod 2147483648=x%2147483648:=Int.tmod_eq_emod_of_nonneg hx.1
 have e2:IntKind.i64.wrap (x.tdiv 2147483648)=x/2147483648:=by
  rw[Int.tdiv_eq_ediv_of_nonneg hx.1,zag (by omega) (by omega)]
 have b1:0≤x%2147483648∧x%2147483648≤2147483648:=by omega
 have b2:0≤x/2147483648∧x/2147483648≤2147483648:=by omega
 have h0:ix [x%2147483648,x/2147483648] 0=some (x%2147483648):=rfl
 have h1':ix [x%2147483648,x/2147483648] 1=some (x/2147483648):=rfl
 unfold zbz
 rw[e1,e2,Option.bind_some,zj6]
 simp only[List.length_cons,List.length_nil,show decide ((0:Int)<((0+1+1:Nat):Int))=true from rfl,if_true,h0,Option.bind_some,zhO (.inl rfl) h1 b1,zhO (.inr rfl) h2 b1]
 rw[zj6]
 simp only[show IntKind.i64.wrap (0+1)=1 from rfl,show decide ((1:Int)<((0+1+1:Nat):Int))=true from rfl,if_true,h1',Option.bind_some,zhO (.inl rfl) (zjq _ _ _) b2,zhO (.inr rfl) (zjq _ _ _) b2]
 rw[zj6]
 simp only[show IntKind.i64.wrap (1+1)=2 from rfl,show decide ((2:Int)<((0+1+1:Nat):Int))=false from rfl,Bool.false_eq_true,if_false,Option.bind_some]
 rfl
theorem zse {l:List Int}(h:l.all zbq=true) {k:Nat}(hk:k<l.length):zbq l[k]=true:=List.all_eq_true.1 h _ (List.getElem_mem hk)
theorem zxm {l:List Int}(hl:l.length≤1000000000000) (hd:l.all zbq=true):zfS l=some (zlF l):=by
 unfold zfS
 have e0:=zpN (p:=(1,2)) (x:=(l.length:Int)) ⟨by decide,by decide⟩ (zc1.2 ⟨by omega,by omega⟩)
 refine zah (zad e0 (zaC (ψ:=fun p=>p=((l.length:Int)::l).foldl ziQ (1,2)) (zbe (fun n p=>p=((l.length:Int)::l.take n).foldl ziQ (1,2)) rfl ?_ ?_) ?_))
 ·rintro n p hn rfl
  refine zbi hn (zad (zpN (zie _ _ ⟨by decide,by decide⟩) (zse hd hn)) (zae ?_))
  show ziQ _ _=_
  rw[←List.take_append_getElem hn,←List.cons_append,List.foldl_append]
  rfl
 ·rintro p rfl
  show(((l.length:Int)::l.take l.length).foldl ziQ (1,2))=_
  rw[List.take_length]
 rintro p rfl
 obtain⟨h1,h2⟩:=zie ((l.length:Int)::l) (1,2) ⟨by decide,by decide⟩
 refine zae ?_
 rw[zag (n:=_*2147483648) (by omega) (by omega),zag (by omega) (by omega)]
 rfl
theorem zvh {x:Int}(hx:zbq x=true):IntKind.i64.wrap (BitVec.ofInt IntKind.i64.bits x&&&BitVec.ofInt IntKind.i64.bits 2147483647).toNat=x%2147483648:=by
 have hx:=zc1.1 hx
 obtain⟨n,rfl⟩:=Int.eq_ofNat_of_zero_le hx.1
 have h1:(BitVec.ofInt IntKind.i64.bits ((n:Nat):Int)&&&BitVec.ofInt IntKind.i64.bits 2147483647).toNat=n%2147483648:=by
  rw[BitVec.toNat_and]
  have a1:(BitVec.ofInt IntKind.i64.bits (n:Int)).toNat=n:=by
   rw[BitVec.toNat_ofInt]
   have:IntKind.i64.bits=64:=rfl
   rw[this]
   omega
  have a2:(BitVec.ofInt IntKind.i64.bits 2147483647).toNat=2^31-1:=by decide
  rw[a1,a2,Nat.and_two_pow_sub_one_eq_mod]
 rw[h1,zag (by omega) (by omega)]
 omega
theorem zy9 {l:List Int}(hl:l.length≤1000000000000) (hd:l.all zbq=true):zgp l=some (zlF l):=by
 unfold zgp
 have hd2:((l.length:Int)::l).all zbq=true:=by
  rw[List.all_cons,hd,Bool.and_true]
  exact zc1.2 ⟨by omega,by omega⟩
 refine zah (zap (by simp only[List.length_cons,List.length_nil];omega) (zad rfl (zaC (ψ:=fun p=>p=((l.length:Int)::l).foldl ziQ (1,2)) (zbe (fun n p=>p=(((l.length:Int)::l).take n).foldl ziQ (1,2)) rfl ?_ ?_) ?_)))
 ·rintro n p hn rfl
  have ok:=zie ((((l.length:Int)::l)).take n) (1,2) ⟨by decide,by decide⟩
  have dg:=zse hd2 hn
  have b:=zc1.1 dg
  have ef:(((l.length:Int)::l)[n]).fdiv 2147483648=((l.length:Int)::l)[n]/2147483648:=Int.fdiv_eq_ediv_of_nonneg _ (by omega)
  have hn':n<((l.length:Int)::l).length:=hn
  refine zbi hn (zae ?_)
  show(_,_)=_
  simp only[List.singleton_append]
  rw[zvh dg,ef,zhO (.inl rfl) ok.1 (by omega),zhO (.inr rfl) ok.2 (by omega),zhO (.inl rfl) (zjq _ _ _) (by omega),zhO (.inr rfl) (zjq _ _ _) (by omega),
   ←List.take_append_getElem hn',List.foldl_append]
  rfl
 ·rintro p rfl
  show((((l.length:Int)::l).take ([(l.length:Int)]++l).length).foldl ziQ (1,2))=_
  rw[List.singleton_append,List.take_length]
 rintro p rfl
 obtain⟨h1,h2⟩:=zie ((l.length:Int)::l) (1,2) ⟨by decide,by decide⟩
 refine zae ?_
 rw[zag (n:=_*2147483648) (by omega) (by omega),zag (by omega) (by omega)]
 rfl
def zkU (s:ByteArray) (l:List Int):Int:=zlF ((s.size:Int)::byL s++l)
theorem zkh (s:ByteArray) (l:List Int):zbq (zkU s l)=true:=zuD _
def zhm (s:ByteArray) (l:List Int):Bool:=decide (s.size≤40)&&decide (1+s.size+l.length≤400)&&l.all zbq
theorem zru {s:ByteArray}{l:List Int}(hs:s.size≤1000000):((s.size:Int)::byL s++l).all zbq=l.all zbq:=by
 rw[List.cons_append,List.all_cons,List.all_append,zwT,zc1.2 ⟨by omega,by omega⟩,Bool.true_and,Bool.true_and]
theorem zjb {s:ByteArray}{l:List Int}(hs:s.size≤1000000) (hl:l.length≤100000000000) (hd:l.all zbq=true):zdt s l=some (zkU s l):=by
 unfold zdt
 rw[ztP s l hs (by omega),Option.bind_some,zxm (by simp[zhq];omega) (by rw[zru hs];exact hd)]
 rfl
theorem zpf (l:List Int):zdU l=some (decide (l.length≤400)&&l.all zbq):=by
 unfold zdU
 have h1:zbl l=some (l.all zbq):=zgZ (f:=zaZ) fun x _=>by
  unfold zaZ
  rw[zj1];rfl
 rw[h1]
 by_cases h:l.length≤400
 ·rw[if_pos (by simp;omega)];simp[h]
 rw[if_neg (by simp;omega)];simp[h]
theorem zsG (l:List Int):zeN l=some (if(decide (l.length≤400)&&l.all zbq)=true then(zlF l,true)else(0,false)):=by
 unfold zeN
 rw[zpf,Option.bind_some]
 cases h:(decide (l.length≤400)&&l.all zbq)with
 |true=>
  simp only[Bool.and_eq_true,decide_eq_true_eq]at h
  rw[zy9 (by omega) h.2];rfl
 |false=>rfl
theorem zjC (s:ByteArray) (l:List Int):zcA s l=some (if zhm s l=true then(zkU s l,true)else(0,false)):=by
 unfold zcA
 by_cases h1:s.size≤40
 ·by_cases h2:l.length≤400
  ·rw[if_neg (by simp;omega),Option.bind_some,if_neg (by simp;omega),ztg s l (by omega) (by omega),Option.bind_some,zsG,zru (by omega)]
   have e:((s.size:Int)::byL s++l).length=1+s.size+l.length:=by simp[zhq];omega
   rw[e]
   have e2:zhm s l=(decide (1+s.size+l.length≤400)&&l.all zbq):=by simp[zhm,h1]
   rw[e2]
   cases decide (1+s.size+l.length≤400)<;>cases l.all zbq<;>rfl
  rw[if_neg (by simp;omega),Option.bind_some,if_pos (by simp;omega)]
  have:zhm s l=false:=by
   have:¬1+s.size+l.length≤400:=by omega
   simp[zhm,this]
  rw[this];rfl
 rw[if_pos (by simp;omega),Option.bind_some,if_pos rfl]
 have:zhm s l=false:=by simp[zhm,h1]
 rw[this];rfl
theorem ceq {n:Int}{k:Nat}(h:n=(k:Int)) (hk:k≤4194304):IntKind.i64.wrap n=(k:Int):=by rw[zag (by omega) (by omega),h]
theorem zt4 {α β γ:Type}{l:List α}{f:α→β}{body:Int→List β→Option (Stp (List β) γ)}{stop:List β→γ}(a0:List β) (hs:∀k (h:k<l.length) (s:List β),s.length=a0.length+k→body (k:Int) s=some (.go (s++[f l[k]]))):
 zak body stop l.length 0 a0=some (stop (a0++l.map f)):=by
 refine zah (zbe (fun k s=>s=a0++(l.take k).map f∧k≤l.length) ⟨by simp,by omega⟩ ?_ ?_)
 ·rintro k s hk ⟨rfl,_⟩
  refine⟨_,hs k hk _ (by simp;omega),?_,hk⟩
  rw[List.take_succ_eq_append_getElem hk,List.map_append,List.append_assoc];rfl
 rintro s ⟨rfl,_⟩
 simp
theorem zyR {β:Type}{step:Int→Option (Stp Int (Unit ⊕ β))}(n:Nat) (hs:∀k:Nat,k<n→step (k:Int)=some (.go ((k+1:Nat):Int))) (he:step (n:Int)=some (.out (.inl ()))):za8 step 0=some (.inl ()):=by
 refine zah (zgD n (fun k s=>s=(k:Int)) rfl ?_ ?_)
 ·rintro k s hk rfl;exact⟨_,hs k hk,rfl⟩
 rintro s rfl;exact⟨_,he,rfl⟩
structure OkC (ct:Contest):Prop where
 lo:0≤ct.Least∧ct.Least≤ct.Most
 k:((ct.Kind=1∨ct.Kind=3)∧(1≤ct.Options∧ct.Options≤8)∧ct.Most≤ct.Options∧ct.Points=0)∨(ct.Kind=2∧(1≤ct.Options∧ct.Options≤8)∧(1≤ct.Points∧ct.Points≤5)∧ct.Most≤ct.Options*ct.Points)∨(ct.Kind=4∧ct.Options=0∧ct.Most≤5∧ct.Points=0)
open Classical in
def okC (ct:Contest):Bool:=decide (OkC ct)
theorem zo5 {ct:Contest}:okC ct=true↔OkC ct:=by simp[okC]
theorem zzo {a b:Int}(h:1≤a∧a≤8) (h2:1≤b∧b≤5):1≤a*b∧a*b≤40:=by
 have h3:a*b≤8*5:=Int.mul_le_mul h.2 h2.2 (by omega) (by omega)
 have h4:1*1≤a*b:=Int.mul_le_mul h.1 h2.1 (by omega) (by omega)
 omega
theorem ziH (ct:Contest):zcd ct=some (okC ct):=by
 have e:∀b:Bool,(b=true↔OkC ct)→b=okC ct:=fun b h=>by
  rw[Bool.eq_iff_iff,h,zo5]
 have f:¬OkC ct→okC ct=false:=fun h=>by simp[okC,h]
 unfold zcd
 simp only[zc3,Option.bind_some]
 by_cases l1:ct.Least<0
 ·simp[l1];exact f fun h=>by have:=h.lo;omega
 by_cases l2:ct.Most<ct.Least
 ·simp[l1,l2];exact f fun h=>by have:=h.lo;omega
 simp only[l1,l2,decide_false,Bool.false_eq_true,if_false,Option.bind_some]
 by_cases k13:ct.Kind=1∨ct.Kind=3
 ·have:(if(ct.Kind==1)=true then some (ct.Kind==1)else some (ct.Kind==3))=some true:=by
   rcases k13 with h|h<;>simp[h]
  rw[this,Option.bind_some,if_pos rfl]
  by_cases o:1≤ct.Options∧ct.Options≤8
  ·by_cases m:ct.Most≤ct.Options
   ·simp[o,m]
    refine e _ ⟨fun h=>⟨by omega,.inl ⟨k13,o,m,by simpa using h⟩⟩,fun h=>?_⟩
    rcases h.k with h|h|h
    ·simp[h.2.2.2]
    ·omega
    omega
   simp[o,m]
   exact f fun h=>by rcases h.k with h|h|h<;>omega
  have:(decide (1≤ct.Options)&&decide (ct.Options≤8))=false:=by simp;omega
  rw[this];simp
  exact f fun h=>by rcases h.k with h|h|h<;>omega
 have:(if(ct.Kind==1)=true then some (ct.Kind==1)else some (ct.Kind==3))=some false:=by
  simp only[not_or]at k13;simp[k13]
 rw[this,Option.bind_some,if_neg (by simp)]
 by_cases k2:ct.Kind=2
 ·simp only[k2]
  by_cases o:1≤ct.Options∧ct.Options≤8
  ·by_cases p:1≤ct.Points∧ct.Points≤5
   ·have b:=zzo o p
    simp only[o,p]
    simp[zag (n:=ct.Options*ct.Points) (by omega) (by omega)]
    refine e _ ⟨fun h=>⟨by omega,.inr (.inl ⟨k2,o,p,by simpa using h⟩)⟩,fun h=>?_⟩
    rcases h.k with h|h|h
    ·omega
    ·simpa using h.2.2.2
    omega
   have:(decide (1≤ct.Points)&&decide (ct.Points≤5))=false:=by simp;omega
   rw[this];simp[o]
   exact f fun h=>by rcases h.k with h|h|h<;>omega
  have:(decide (1≤ct.Options)&&decide (ct.Options≤8))=false:=by simp;omega
  rw[this];simp
  exact f fun h=>by rcases h.k with h|h|h<;>omega
 have k2':(ct.Kind==2)=false:=by simpa using k2
 simp only[k2',Bool.false_eq_true,if_false]
 by_cases k4:ct.Kind=4
 ·have k4':(ct.Kind==4)=true:=by simpa using k4
  simp only[k4',if_true]
  by_cases o:ct.Options=0
  ·by_cases m:ct.Most≤5
   ·simp[o,m]
    refine e _ ⟨fun h=>⟨by omega,.inr (.inr ⟨k4,o,m,by simpa using h⟩)⟩,fun h=>?_⟩
    rcases h.k with h|h|h
    ·omega
    ·omega
    simp[h.2.2.2]
   simp[o,m]
   exact f fun h=>by rcases h.k with h|h|h<;>omega
  simp[o]
  exact f fun h=>by rcases h.k with h|h|h<;>omega
 have k4':(ct.Kind==4)=false:=by simpa using k4
 simp only[k4',Bool.false_eq_true,if_false]
 rw[f fun h=>by rcases h.k with h|h|h<;>omega]
theorem znc (ct:Contest):zeS ct=some (okC ct):=by
 rw[←ziH]
 unfold zeS zcd
 simp only[zc3,zgW,Option.bind_some]
 cases h:ct.Kind==4<;>simp
theorem zyO {γ:Type}{m:Nat}(p:Nat→Bool) (c d:γ) {body:Int→Unit→Option (Stp Unit (Unit ⊕ γ))}(h:∀k,k<m→body (k:Int) ()=some (if p k=true then .go ()else .out (.inr c))):
 (zak body (fun _=>.inl ()) m 0 ()).bind (Sum.elim (fun _=>some d) some)=some (if(List.range m).all p=true then d else c):=by
 rcases zil (body:=body) m p (fun _=>c) h with⟨e,h1⟩|⟨k,h1,h2,h3,e⟩
 ·have:(List.range m).all p=true:=by
   rw[List.all_eq_true];intro x hx;exact h1 x (List.mem_range.1 hx)
  rw[e,this];rfl
 have:(List.range m).all p=false:=by
  rw[List.all_eq_false];exact⟨k,List.mem_range.2 h1,by simp[h2]⟩
 rw[e,this];rfl
theorem zy6 {α:Type}{l:List α}{p:α→Bool}{f:α→Option Bool}(hf:∀x∈l,f x=some (p x)):
 ((((zak (σ:=Unit) (β:=Unit ⊕ Int) (fun i8 s7=>(ix l i8).bind fun x17=>(f x17).bind fun z20=>if z20=true then(some (.out (.inr i8)))else(some (.go ()))) (fun s7=>.inl ()) (l.length) 0 ():Option (Unit ⊕ Int)).bind (Sum.elim (fun(x5:Unit)=>some (-1)) some)).bind fun z1=>some (decide (0≤z1))))=some (l.any p):=by
 rcases zil l.length (fun k=> !(l[k]?).any p) (fun k=>(k:Int)) (body:=fun i8 s7=>(ix l i8).bind fun x17=>(f x17).bind fun z20=>if z20=true then(some (.out (.inr i8)))else(some (.go ()))) (fun k hk=>by
  rw[zeq hk,Option.bind_some,hf _ (List.getElem_mem hk),Option.bind_some,List.getElem?_eq_getElem hk]
  cases h:p l[k]<;>simp[h])with⟨e,h1⟩|⟨k,h1,h2,h3,e⟩
 ·rw[e]
  have:l.any p=false:=by
   rw[List.any_eq_false]
   intro x hx
   obtain⟨k,hk,rfl⟩:=List.mem_iff_getElem.1 hx
   have:=h1 k hk
   rw[List.getElem?_eq_getElem hk]at this
   simpa using this
  rw[this];rfl
 rw[e]
 have:l.any p=true:=by
  rw[List.any_eq_true]
  refine⟨l[k],List.getElem_mem h1,?_⟩
  rw[List.getElem?_eq_getElem h1]at h2
  simpa using h2
 rw[this]
 simp
def inB (a b x:Int):Bool:=decide (a≤x)&&decide (x≤b)
theorem zdg {a b x:Int}:inB a b x=true↔a≤x∧x≤b:=by simp[inB]
theorem zxX (l:List Int) (k o a b p:Int):zbA l k o a b p=some (l.all (inB 0 p)):=zgZ (f:=fun x=>za6 x k o a b p) fun x _=>by
 unfold za6 zc6
 rw[zc3];rfl
theorem zwU (l:List Int) (a b:Int):zbB l a b=some (l.all (inB a b)):=zgZ (f:=fun x=>za7 x a b) fun x _=>by
 unfold za7 zc5
 rw[zc3];rfl
theorem zu0 {R:Int→Int→Prop}(tr:∀a b c,R a b→R b c→R a c) {l:List Int}(h:∀i (h:i+1<l.length),R l[i] l[i+1]):l.Pairwise R:=by
 rw[List.pairwise_iff_getElem]
 intro i j hi hj hij
 obtain⟨d,rfl⟩:∃d,j=i+1+d:=⟨j-(i+1),by omega⟩
 induction d with
 |zero=>exact h i hj
 |succ d ih=>exact tr _ _ _ (ih (by omega) (by omega)) (h (i+1+d) hj)
open Classical in
def zjY (l:List Int):Bool:=decide (l.Pairwise (·≤ ·))
theorem ztm {l:List Int}(hl:l.length≤1048576):zb7 l=some (zjY l):=by
 unfold zb7
 have cl:∀a b:Int,ze5 a b=some (decide (a<b)):=fun a b=>by
  unfold ze5 zeP
  simp
 refine zah (zaC (ψ:=fun x=>(x=.inl ()∧zjY l=true)∨(x=.inr false∧zjY l=false)) (ziq (fun s=>s<l.length∧(-1≤s)∧∀i (h:i+1<l.length),s≤i→l[i]≤l[i+1]) (fun s=>s.toNat) ?_ ?_) ?_)
 ·rw[zag (by omega) (by omega)];exact⟨by omega,by omega,fun i h1 h2=>by omega⟩
 ·rintro s ⟨h1,h0,h2⟩
  refine zbv (fun h=>?_) fun h=>zae (.inl ⟨rfl,?_⟩)
  ·have h:0<s:=by simpa using h
   obtain⟨k,rfl⟩:∃k:Nat,s=((k+1:Nat):Int):=⟨(s-1).toNat,by omega⟩
   have e:IntKind.i64.wrap (((k+1:Nat):Int)-1)=(k:Int):=ceq (by omega) (by omega)
   refine zbi (by omega) ?_
   rw[e]
   refine zbi (by omega) (zad (cl _ _) (zbv (fun h=>zae (.inr ⟨rfl,?_⟩)) fun h=>zae ⟨⟨by omega,by omega,fun i hi h3=>?_⟩,by omega⟩))
   ·unfold zjY
    rw[decide_eq_false_iff_not,List.pairwise_iff_getElem]
    intro hp
    have:=hp k (k+1) (by omega) (by omega) (by omega)
    simp at h;omega
   rcases Nat.lt_or_ge k i with h4|h4
   ·exact h2 i hi (by omega)
   have:i=k:=by omega
   subst this
   simpa using h
  have h:¬0<s:=by simpa using h
  unfold zjY
  rw[decide_eq_true_eq]
  exact zu0 (R:=(·≤ ·)) (fun a b c h1 h2=>Int.le_trans h1 h2) fun i hi=>h2 i hi (by omega)
 rintro x (⟨rfl,h⟩|⟨rfl,h⟩)<;>exact zae h.symm
open Classical in
theorem zvi (l:List Int):l.Pairwise (· < ·)↔(zjY l&&zhY l)=true:=by
 unfold zjY zhY
 simp only[Bool.and_eq_true,decide_eq_true_eq,List.nodup_iff_pairwise_ne]
 rw[←List.pairwise_and_iff]
 constructor<;>intro h<;>exact h.imp fun h=>by omega
theorem zyh {l:List Int}(hl:l.length≤1048576) (a b:Int):zeI l a b=some (l.all (inB a b)&&(zjY l&&zhY l)):=by
 unfold zeI
 rw[zyO (fun k=>(l[k]?).any (inB a b)&&(decide (k=0)||decide (l.getD (k-1) 0<l.getD k 0))) false true]
 ·congr 1
  rw[Bool.eq_iff_iff,Bool.and_eq_true (l.all (inB a b)),←zvi]
  simp only[Bool.if_false_right,Bool.and_true,Bool.if_true_left,Bool.or_false,Bool.decide_eq_true,decide_eq_true_eq,List.all_eq_true,List.mem_range,Bool.and_eq_true,Bool.or_eq_true]
  constructor
  ·refine fun h=>⟨fun x hx=>?_,zu0 (R:=(· < ·)) (fun a b c h1 h2=>Int.lt_trans h1 h2) fun i hi=>?_⟩
   ·obtain⟨k,hk,rfl⟩:=List.mem_iff_getElem.1 hx
    have:=(h k hk).1
    rwa [List.getElem?_eq_getElem hk]at this
   have:=(h (i+1) hi).2
   have h1:i<l.length:=by omega
   simp[hi,h1]at this
   exact this
  refine fun h k hk=>⟨?_,?_⟩
  ·rw[List.getElem?_eq_getElem hk];exact h.1 _ (List.getElem_mem hk)
  rcases Nat.eq_zero_or_pos k with h0|h0
  ·exact .inl h0
  right
  have h1:k-1<l.length:=by omega
  simp[hk,h1]
  exact List.pairwise_iff_getElem.1 h.2 _ _ _ _ (by omega)
 intro k hk
 rw[zeq hk,Option.bind_some,zgW,Option.bind_some,List.getElem?_eq_getElem hk,Option.any_some]
 show((if(!inB a b l[k])=true then _ else _:Option Bool).bind _)=_
 cases h:inB a b l[k]with
 |false=>simp
 |true=>
  rcases Nat.eq_zero_or_pos k with h0|h0
  ·subst h0;simp
  ·have e:IntKind.i64.wrap ((k:Int)-1)=((k-1:Nat):Int):=ceq (by omega) (by omega)
   have h1:k-1<l.length:=by omega
   have h2:¬k=0:=by omega
   rw[e,zeq h1]
   by_cases h3:l[k]≤l[k-1]
   ·have:¬l[k-1]<l[k]:=by omega
    simp[h0,hk,h1,h2,h3,this]
   ·have:l[k-1]<l[k]:=by omega
    simp[h0,hk,h1,h2,h3,this]
theorem zlP (a b:Bool):(if a=true then some b else some false)=some (a&&b):=by cases a<;>rfl
theorem ziS (a b:Bool):(if a=true then some true else some b)=some (a||b):=by cases a<;>rfl
theorem zzL (l:List Int) (a b:Int):zcj l a b=some (l.all (inB a b)):=zlu l a b
theorem zsi (x a b:Int):zaW x a b=some (inB a b x):=zgW x a b
theorem zqd (x a b:Int):zaw x a b=some (inB a b x):=zc3 x a b
theorem zw9 {l:List Int}(hl:l.length≤1000000000000):zeY l=some (zhY l):=zpw zxN l hl
theorem zrN:∀{l:List Int}{c:Int},l.all (inB 0 c)=true→0≤l.sum∧l.sum≤l.length*c
 |[],_,_=>by simp
 |x::l,c,h=>by
  rw[List.all_cons,Bool.and_eq_true]at h
  have h1:=zdg.1 h.1
  have h2:=zrN h.2
  rw[List.sum_cons,List.length_cons]
  push_cast
  rw[Int.add_mul]
  omega
theorem zvu {α:Type}{l:List α}{p:α→Bool}(h:l.all p=true) (k:Nat):(l.take k).all p=true:=by
 rw[List.all_eq_true]at h⊢
 exact fun x hx=>h x (List.mem_of_mem_take hx)
theorem zwa {l:List Int}{k:Nat}(h:k<l.length):(l.take (k+1)).sum=(l.take k).sum+l[k]:=by
 rw[List.take_succ_eq_append_getElem h,List.sum_append];simp
theorem zp2 {β:Type}{v:List Int}(hv:v.all (inB 0 5)=true) (hl:v.length≤1000) (stop:Int→β):zak (fun i s=>(ix v i).bind fun x=>some (.go (IntKind.i64.wrap (s+x)))) stop v.length 0 0=some (stop v.sum):=by
 refine zah (zbe (fun k s=>s=(v.take k).sum) (by simp) ?_ ?_)
 ·rintro k s hk rfl
  refine zbi hk (zae ?_)
  have h:=zrN (zvu hv (k+1))
  have h2:(v.take (k+1)).length≤1000:=by simp;omega
  show IntKind.i64.wrap _=(v.take (k+1)).sum
  rw[←zwa hk,zag (by omega) (by omega)]
 rintro s rfl
 simp
def zfn (ct:Contest) (v:List Int):Bool:=
 if ct.Kind=1 then v.all (inB 0 (ct.Options-1))&&(zjY v&&zhY v)&&inB ct.Least ct.Most v.length
 else if ct.Kind=2 then decide ((v.length:Int)=ct.Options)&&(v.all (inB 0 ct.Points)&&inB ct.Least ct.Most v.sum)
 else if ct.Kind=3 then v.all (inB 0 (ct.Options-1))&&(zhY v&&inB ct.Least ct.Most v.length)
 else v.all (inB 1 26)&&inB ct.Least ct.Most v.length
theorem zeV {l:List Int}{a b a' b':Int}(ha:a'≤a) (hb:b≤b') (h:l.all (inB a b)=true):l.all (inB a' b')=true:=by
 rw[List.all_eq_true]at h⊢
 intro x hx
 have:=zdg.1 (h x hx)
 exact zdg.2 (by omega)
theorem zxA {ct:Contest}(k:OkC ct) {v:List Int}(hl:v.length≤1048576):zfV ct v=some (zfn ct v):=by
 have w1:IntKind.i64.wrap (ct.Options-1)=ct.Options-1:=by rcases k.k with h|h|h<;>exact zag (by omega) (by omega)
 unfold zfV zfn
 simp only[zyh hl,zsi,zzL,zw9 (l:=v) (by omega),w1,Option.bind_some,zlP]
 by_cases k1:ct.Kind=1
 ·simp[k1]
 by_cases k2:ct.Kind=2
 ·simp only[k2]
  by_cases hn:(v.length:Int)=ct.Options
  ·cases ha:v.all (inB 0 ct.Points)with
   |false=>simp[hn]
   |true=>
    have hp:ct.Points≤5∧ct.Options≤8:=by rcases k.k with h|h|h<;>omega
    have e:zft v=some v.sum:=by
     unfold zft
     rw[zp2 (zeV (by omega) hp.1 ha) (by omega) (fun s=>s)];rfl
    simp[hn,e]
  simp[hn]
 by_cases k3:ct.Kind=3
 ·simp[k3]
 simp[k1,k2,k3]
theorem zv7 {ct:Contest}(k:OkC ct) {v:List Int}(hl:v.length≤1048576):zcO ct v=some (zfn ct v):=by
 have w1:IntKind.i64.wrap (ct.Options-1)=ct.Options-1:=by rcases k.k with h|h|h<;>exact zag (by omega) (by omega)
 unfold zcO zfn
 simp only[ztm hl,zqd,zxX,zwU,zyW v (by omega),w1,Option.bind_some,zlP,ziS]
 by_cases k2:ct.Kind=2
 ·have k1:¬ct.Kind=1:=by omega
  have k3:¬ct.Kind=3:=by omega
  simp only[k2]
  by_cases hn:(v.length:Int)=ct.Options
  ·cases ha:v.all (inB 0 ct.Points)with
   |false=>simp[hn]
   |true=>
    have hp:ct.Points≤5∧ct.Options≤8:=by rcases k.k with h|h|h<;>omega
    have e:=zp2 (zeV (by omega) hp.1 ha) (by omega) (fun s=>(Sum.inl (s,0,ct.Points):(Int×Int×Int) ⊕ Bool))
    simp only[hn,bne_self_eq_false,Bool.not_true,Bool.or_false,Bool.false_eq_true,if_false,beq_self_eq_true,if_true,e,Option.bind_some,Sum.elim_inl,ha]
    cases inB ct.Least ct.Most v.sum<;>simp
  have:((v.length:Int) !=ct.Options)=true:=by simpa using hn
  simp[this,hn]
 by_cases k1:ct.Kind=1
 ·simp[k1,-List.all_eq_true,-List.all_eq_false]
  cases inB ct.Least ct.Most v.length<;>cases v.all (inB 0 (ct.Options-1))<;>simp
 by_cases k3:ct.Kind=3
 ·simp[k3,-List.all_eq_true,-List.all_eq_false]
  cases inB ct.Least ct.Most v.length<;>cases v.all (inB 0 (ct.Options-1))<;>simp
 have k4:ct.Kind=4:=by rcases k.k with h|h|h<;>omega
 simp[k4,-List.all_eq_true,-List.all_eq_false]
 cases inB ct.Least ct.Most v.length<;>cases v.all (inB 1 26)<;>simp
def num (b:Int):List Int→Int
 |[]=>0
 |d::l=>num b l*b+d
theorem ztT {b:Int}(hb:0≤b∧b≤40):∀{l:List Int},l.all (inB 0 40)=true→0≤num b l∧num b l≤64^(l.length+1)
 |[],_=>by simp[num]
 |d::l,h=>by
  rw[List.all_cons,Bool.and_eq_true]at h
  have h1:=zdg.1 h.1
  have h2:=ztT hb h.2
  have h3:num b l*b≤64^(l.length+1)*40:=Int.mul_le_mul h2.2 hb.2 hb.1 (by omega)
  have h4:=Int.mul_nonneg h2.1 hb.1
  have h5:(1:Int)≤64^(l.length+1):=Int.pow_pos (by omega)
  simp only[num,List.length_cons]
  rw[Int.pow_succ (64:Int) (l.length+1)]
  omega
theorem zw0 {b:Int}(hb:0≤b∧b≤40) {l:List Int}(hl:l.length≤8) (h:l.all (inB 0 40)=true):0≤num b l∧num b l≤18014398509481984:=by
 have:=ztT hb h
 have h2:(64:Nat)^(l.length+1)≤64^9:=Nat.pow_le_pow_right (by omega) (by omega)
 have h3:((64^(l.length+1):Nat):Int)=(64:Int)^(l.length+1):=Int.natCast_pow 64 _
 omega
theorem zpO {l:List Int}{b m:Int}(hb:0≤b∧b≤40) (hl:l.length≤8) (h:(l.map (· +m)).all (inB 0 40)=true) {step:Int×Int→Option (Stp (Int×Int) Int)}
 (hs:∀(k:Nat) (h:k<l.length) (a:Int),0≤a→a≤18014398509481984→step (a,(k:Int))=some (.go (a*b+(l[k]+m),(k:Int)-1))) (he:∀a,step (a,-1)=some (.out a)):
 za8 step (0,(l.length:Int)-1)=some (num b (l.map (· +m))):=by
 refine zah (zgD l.length (fun j p=>p=(num b ((l.drop (l.length-j)).map (· +m)),((l.length-j:Nat):Int)-1)∧j≤l.length) ⟨by simp[num],by omega⟩ ?_ ?_)
 ·rintro j p hj ⟨rfl,_⟩
  obtain⟨k,hk,e1,e2⟩:∃k:Nat,k<l.length∧l.length-j=k+1∧l.length-(j+1)=k:=⟨l.length-j-1,by omega,by omega,by omega⟩
  rw[e1]
  have hd:((l.drop (k+1)).map (· +m)).all (inB 0 40)=true:=by
   rw[List.all_eq_true]at h⊢
   intro x hx
   obtain⟨y,hy,rfl⟩:=List.mem_map.1 hx
   exact h _ (List.mem_map.2 ⟨y,List.mem_of_mem_drop hy,rfl⟩)
  have bd:=zw0 hb (by simp;omega) hd
  refine⟨.go (num b ((l.drop (k+1)).map (· +m))*b+(l[k]+m),(k:Int)-1),by rw[show((k+1:Nat):Int)-1=(k:Int)by omega];exact hs k hk _ bd.1 bd.2,?_,hj⟩
  rw[e2,List.drop_eq_getElem_cons hk]
  rfl
 rintro p ⟨rfl,_⟩
 refine⟨.out (num b (l.map (· +m))),?_,rfl⟩
 rw[Nat.sub_self,List.drop_zero]
 exact he _
theorem zt2 {l:List Int}{m a b:Int}(h:(l.map (· +m)).all (inB a b)=true) {k:Nat}(hk:k<l.length):a≤l[k]+m∧l[k]+m≤b:=by
 rw[List.all_eq_true]at h
 exact zdg.1 (h _ (List.mem_map.2 ⟨l[k],List.getElem_mem hk,rfl⟩))
theorem zfg {l:List Int}{b m:Int}(hb:0≤b∧b≤40) (hm:0≤m∧m≤1) (hl:l.length≤8) (h:(l.map (· +m)).all (inB 0 40)=true):zcQ l b m=some (num b (l.map (· +m))):=by
 unfold zcQ
 rw[zag (n:=(l.length:Int)-1) (by omega) (by omega),zpO hb hl h,Option.bind_some]
 ·intro k hk a h0 h1
  have h2:a*b≤18014398509481984*40:=Int.mul_le_mul h1 hb.2 hb.1 (by omega)
  have h3:=Int.mul_nonneg h0 hb.1
  have h4:=zt2 h hk
  rw[if_pos (by simp),zeq hk,Option.bind_some,zag (n:=a*b) (by omega) (by omega),zag (n:=a*b+l[k]) (by omega) (by omega),zag (n:=a*b+l[k]+m) (by omega) (by omega),zag (n:=(k:Int)-1) (by omega) (by omega),Int.add_assoc]
 intro a;rfl
theorem ziK {l:List Int}{b:Int}(hb:0≤b∧b≤40) (hl:l.length≤8) (h:l.all (inB 0 40)=true):zeD l b=some (num b l):=by
 have e:l.map (· +0)=l:=by simp
 unfold zeD
 rw[zag (n:=(l.length:Int)-1) (by omega) (by omega),zpO (m:=0) hb hl (by rw[e];exact h),Option.bind_some,e]
 ·intro k hk a h0 h1
  have h2:a*b≤18014398509481984*40:=Int.mul_le_mul h1 hb.2 hb.1 (by omega)
  have h3:=Int.mul_nonneg h0 hb.1
  have h4:=zt2 (m:=0) (by rw[e];exact h) hk
  rw[if_pos (by simp),zeq hk,Option.bind_some,zag (n:=a*b) (by omega) (by omega),zag (n:=a*b+l[k]) (by omega) (by omega),zag (n:=(k:Int)-1) (by omega) (by omega),Int.add_zero]
 intro a;rfl
def zet (n:Nat) (v:List Int):List Int:=(List.range n).map fun(i:Nat)=>if v.contains (i:Int)=true then 1 else 0
theorem zhD (n:Nat) (v:List Int):(zet n v).length=n:=by simp[zet]
theorem zka {ct:Contest}(ho:0≤ct.Options∧ct.Options≤8) {v:List Int}(h:v.all (inB 0 (ct.Options-1))=true):zdQ ct v=some (zet ct.Options.toNat v):=by
 unfold zdQ
 refine zah (zap (by omega) (zad rfl (zaC (ψ:=fun b=>b=_) (zbe (fun k s=>s=zet ct.Options.toNat (v.take k)) ?_ ?_ ?_) fun b hb=>zae hb)))
 ·simp[zet,List.map_const']
 ·rintro k s hk rfl
  have hv:=zdg.1 (List.all_eq_true.1 h _ (List.getElem_mem hk))
  obtain⟨x,hx⟩:∃x:Nat,v[k]=(x:Int):=⟨v[k].toNat,by omega⟩
  refine zbi hk ?_
  rw[hx]
  refine zbi (by rw[zhD];omega) (zae ?_)
  show(zet _ (v.take k)).set x 1=zet _ (v.take (k+1))
  rw[List.take_succ_eq_append_getElem hk]
  apply List.ext_getElem (by simp[zhD])
  intro i hi hi2
  rw[List.getElem_set]
  simp only[zet,List.getElem_map,List.getElem_range,List.contains_eq_mem,List.mem_append,List.mem_singleton,decide_eq_true_eq]
  by_cases e:x=i
  ·subst e;simp[hx]
  have:¬(i:Int)=v[k]:=by omega
  simp[e,this]
 rintro s rfl
 rw[List.take_length]
theorem zsq (ct:Contest) (v:List Int):zdC ct v=zdQ ct v:=rfl
def rng (a:Int) (n:Nat):List Int:=(List.range n).map fun(i:Nat)=>a+(i:Int)
theorem zrH (a:Int) (n:Nat):(rng a n).length=n:=by simp[rng]
theorem zrB {a x:Int}{n:Nat}:x∈rng a n↔a≤x∧x<a+n:=by
 simp only[rng,List.mem_map,List.mem_range]
 constructor
 ·rintro⟨i,hi,rfl⟩;omega
 exact fun h=>⟨(x-a).toNat,by omega,by omega⟩
theorem zrv {a b c:Int}{n:Nat}(h1:b≤a) (h2:a+n-1≤c):(rng a n).all (inB b c)=true:=by
 rw[List.all_eq_true]
 intro x hx
 have:=zrB.1 hx
 exact zdg.2 (by omega)
theorem znE {β:Type}{step:List Int×Int→Option (Stp (List Int×Int) β)}{f:Nat→Int}{out:List Int→β}{a:Int}(n:Nat) (hs:∀(k:Nat) (s:List Int),k<n→s.length=k→step (s,a+(k:Int))=some (.go (s++[f k],a+(k:Int)+1))) (he:∀s,step (s,a+(n:Int))=some (.out (out s))):
 za8 step ([],a)=some (out ((List.range n).map f)):=by
 refine zah (zgD n (fun k p=>p=((List.range k).map f,a+(k:Int))) (by simp) ?_ ?_)
 ·rintro k p hk rfl
  refine⟨_,hs k _ hk (by simp),?_⟩
  show(_,_)=_
  rw[List.range_succ,List.map_append]
  have e:a+(k:Int)+1=a+((k+1:Nat):Int):=by omega
  rw[e];rfl
 rintro p rfl
 exact⟨_,he _,rfl⟩
theorem zyQ {step:List Int×Int×Int→Option (Stp (List Int×Int×Int) (List Int))}{n:Nat}{m:Int}(hn:n≤8) (p:Int) (hp:0≤p∧p≤5) (hm:0≤m)
 (hs:∀(k:Nat) (s:List Int) (r:Int),k<n→s.length=n→0≤r→r≤m→step (s,r,(k:Int))=some (.go (s.set k (if p<r then p else r),r-(if p<r then p else r),(k:Int)-1))) (he:∀s r,step (s,r,-1)=some (.out s)):
 ∃l,za8 step (List.replicate n 0,m,(n:Int)-1)=some l∧l.length=n∧l.all (inB 0 5)=true:=by
 refine zgD n (fun j x=>x.1.length=n∧x.1.all (inB 0 5)=true∧(0≤x.2.1∧x.2.1≤m)∧x.2.2=((n-j:Nat):Int)-1∧j≤n) ⟨by simp,?_,⟨hm,Int.le_refl _⟩,by simp,by omega⟩ ?_ ?_
 ·rw[List.all_eq_true]
  intro x hx
  have:x=0:=(List.mem_replicate.1 hx).2
  subst this;rfl
 ·rintro j ⟨s,r,c⟩ hj ⟨h1,h2,h3,h4,_⟩
  simp only at h1 h2 h3 h4
  obtain⟨k,hk,e1,e2⟩:∃k:Nat,k<n∧n-j=k+1∧n-(j+1)=k:=⟨n-j-1,by omega,by omega,by omega⟩
  have:c=(k:Int):=by omega
  subst this
  have b:0≤(if p<r then p else r)∧(if p<r then p else r)≤5∧(if p<r then p else r)≤r:=by split<;>omega
  refine⟨.go (s.set k (if p<r then p else r),r-(if p<r then p else r),(k:Int)-1),hs k s r hk h1 h3.1 h3.2,by simpa using h1,?_,⟨by dsimp only;omega,by dsimp only;omega⟩,by dsimp only;omega,hj⟩
  rw[List.all_eq_true]at h2⊢
  intro x hx
  rcases List.mem_or_eq_of_mem_set hx with h|rfl
  ·exact h2 x h
  exact zdg.2 ⟨b.1,b.2.1⟩
 rintro⟨s,r,c⟩ ⟨h1,h2,h3,h4,_⟩
 simp only at h1 h2 h3 h4
 have:c=-1:=by omega
 subst this
 exact⟨_,he s r,h1,h2⟩
theorem zmY {ct:Contest}(k:OkC ct):∃n,zdy ct=some n∧zbR ct=some n:=by
 have lo:=k.lo
 unfold zdy zbR
 rcases k.k with⟨k13,ho,hm,hp⟩|⟨k2,ho,hp,hm⟩|⟨k4,ho,hm,hp⟩
 ·obtain⟨o,eo⟩:∃o:Nat,ct.Options=(o:Int):=⟨ct.Options.toNat,by omega⟩
  obtain⟨m,em⟩:∃m:Nat,ct.Most=(m:Int):=⟨ct.Most.toNat,by omega⟩
  have w:IntKind.i64.wrap (ct.Options-ct.Most)=ct.Options-ct.Most:=zag (by omega) (by omega)
  have e1:∀{β:Type}(out:List Int→β),za8 (fun s5:List Int×Int=>if decide (s5.2<ct.Options)=true then(gd ((s5.1.length+1)*8≤140737488355328∧s5.1.length+1≤4611686018427387904)<|some (.go (s5.1++[s5.2],IntKind.i64.wrap (s5.2+1))))else(some (.out (out s5.1)))) ([],ct.Options-ct.Most)=some (out (rng (ct.Options-ct.Most) m)):=fun{β} out=>by
   refine znE m ?_ ?_
   ·intro c s hc hs
    rw[if_pos (by simp;omega),zcu (by rw[hs];omega),zag (by dsimp only;omega) (by dsimp only;omega)]
   ·intro s
    rw[if_neg (by simp;omega)]
  have hall:(rng (ct.Options-ct.Most) m).all (inB 0 (ct.Options-1))=true:=zrv (by omega) (by omega)
  rcases k13 with k1|k3
  ·rw[k1]
   simp only[show((1:Int)==1)=true from rfl,if_true,w]
   have e2:za8 (σ:=List Int×Int) (β:=List Int) (fun s5=>if decide (s5.2<ct.Options)=true then(((if decide (ct.Options-ct.Most≤s5.2)=true then(some 1)else(some 0):Option Int).bind fun x13=>
    gd ((s5.1.length+1)*8≤140737488355328∧s5.1.length+1≤4611686018427387904)<|some (.go (s5.1++[x13],IntKind.i64.wrap (s5.2+1)))))else(some (.out s5.1))) ([],0)=some ((List.range o).map fun(i:Nat)=>if decide (ct.Options-ct.Most≤(i:Int))=true then 1 else 0):=by
    refine znE (out:=fun s=>s) (a:=0) o ?_ ?_
    ·intro c s hc hs
     have hg:∀x:Int,gd ((s.length+1)*8≤140737488355328∧s.length+1≤4611686018427387904) (some (Stp.go (β:=List Int) (s++[x],IntKind.i64.wrap (0+(c:Int)+1))))=some (.go (s++[x],0+(c:Int)+1)):=fun x=>by
      rw[zcu (by rw[hs];omega),zag (by omega) (by omega)]
     rw[if_pos (by simp;omega)]
     dsimp only
     by_cases h:ct.Options-ct.Most≤(c:Int)
     ·rw[if_pos (by simpa using h),Option.bind_some,hg,if_pos (by simpa using h)]
     ·rw[if_neg (by simpa using h),Option.bind_some,hg,if_neg (by simpa using h)]
    ·intro s
     rw[if_neg (by simp;omega)]
   have em2:zet ct.Options.toNat (rng (ct.Options-ct.Most) m)=(List.range o).map fun(i:Nat)=>if decide (ct.Options-ct.Most≤(i:Int))=true then 1 else 0:=by
    have:ct.Options.toNat=o:=by omega
    rw[this]
    unfold zet
    refine List.map_congr_left fun i hi=>?_
    have hi:=List.mem_range.1 hi
    congr 1
    rw[List.contains_eq_mem,decide_eq_true_eq,decide_eq_true_eq,zrB]
    exact propext ⟨fun h=>h.1,fun h=>⟨h,by omega⟩⟩
   have ha:((List.range o).map fun(i:Nat)=>if decide (ct.Options-ct.Most≤(i:Int))=true then(1:Int)else 0).all (inB 0 40)=true:=by
    rw[List.all_map,List.all_eq_true]
    intro i _
    show inB 0 40 (if _ then _ else _)=true
    split<;>rfl
   have hb:zaE ct=some 2:=by unfold zaE;rw[k1];rfl
   refine⟨?_,?_,?_⟩
   rotate_left 2
   ·rw[e2,Option.bind_some,hb,Option.bind_some,ziK (by omega) (by simp;omega) ha];rfl
   rw[e1 (fun s=>s),Option.bind_some]
   unfold zcm
   rw[k1,if_pos (show((1:Int)==1)=true from rfl),zka (by omega) hall,Option.bind_some,em2,zfg (by omega) (by omega) (by simp;omega) (by simpa using ha)]
   simp
   rfl
  rw[k3]
  simp only[show((3:Int)==1)=false from rfl,show((3:Int)==2)=false from rfl,show((3:Int)==3)=true from rfl,Bool.false_eq_true,if_false,if_true,w]
  have ee:(rng (ct.Options-ct.Most) m).map (· +1)=rng (ct.Options-ct.Most+1) m:=by
   simp only[rng,List.map_map]
   refine List.map_congr_left fun i hi=>?_
   show ct.Options-ct.Most+(i:Int)+1=ct.Options-ct.Most+1+(i:Int);omega
  have e2:za8 (σ:=List Int×Int) (β:=List Int) (fun s40=>if decide (s40.2<ct.Most)=true then(gd ((s40.1.length+1)*8≤140737488355328∧s40.1.length+1≤4611686018427387904)<|
   some (.go (s40.1++[IntKind.i64.wrap ((IntKind.i64.wrap (ct.Options-ct.Most+1))+s40.2)],IntKind.i64.wrap (s40.2+1))))else(some (.out s40.1))) ([],0)=some (rng (ct.Options-ct.Most+1) m):=by
   refine znE (out:=fun s=>s) (a:=0) (f:=fun i=>ct.Options-ct.Most+1+(i:Int)) m ?_ ?_
   ·intro c s hc hs
    rw[if_pos (by simp;omega),zcu (by rw[hs];omega),zag (n:=ct.Options-ct.Most+1) (by omega) (by omega),zag (n:=0+(c:Int)+1) (by omega) (by omega),zag (by dsimp only;omega) (by dsimp only;omega),Int.zero_add]
   ·intro s
    rw[if_neg (by simp;omega)]
  have ha:(rng (ct.Options-ct.Most+1) m).all (inB 0 40)=true:=zrv (by omega) (by omega)
  have hb:zaE ct=some (ct.Options+1):=by unfold zaE;rw[k3,zag (n:=ct.Options+1) (by omega) (by omega)];rfl
  refine⟨?_,?_,?_⟩
  rotate_left 2
  ·rw[e2,Option.bind_some,hb,Option.bind_some,ziK (by omega) (by rw[zrH];omega) ha];rfl
  rw[e1 (fun s=>s),Option.bind_some]
  unfold zcm
  rw[k3,zag (n:=ct.Options+1) (by omega) (by omega)]
  simp only[show((3:Int)==1)=false from rfl,show((3:Int)==2)=false from rfl,show((3:Int)==3)=true from rfl,Bool.false_eq_true,if_false,if_true]
  rw[zfg (by omega) (by omega) (by rw[zrH];omega) (by rw[ee];exact ha),ee]
  rfl
 ·obtain⟨o,eo⟩:∃o:Nat,ct.Options=(o:Int):=⟨ct.Options.toNat,by omega⟩
  have mb:=zzo ho hp
  rw[k2]
  simp only[show((2:Int)==1)=false from rfl,show((2:Int)==2)=true from rfl,Bool.false_eq_true,if_false,if_true]
  rw[zcu (by omega),zcu (by omega),Option.bind_some,Option.bind_some,zag (n:=ct.Options-1) (by omega) (by omega)]
  have hl:∀a b:Int,zdA a b=some (if a<b then a else b):=fun a b=>by unfold zdA;by_cases h:a<b<;>simp[h]
  have hmin:∀a b:Int,(if b<a then b else a)=(if a<b then a else b):=fun a b=>by split<;>split<;>omega
  have eS:=zyQ (step:=fun s26:List Int×Int×Int=>
   if decide (0≤s26.2.2)=true then(
   (zdA s26.2.1 ct.Points).bind fun z32=>
   (ix s26.1 s26.2.2).bind fun x33=>
   (ix (s26.1.set s26.2.2.toNat z32) s26.2.2).bind fun x34=>
   some (.go (s26.1.set s26.2.2.toNat z32,IntKind.i64.wrap (s26.2.1-x34),IntKind.i64.wrap (s26.2.2-1))))else(
   some (.out s26.1))) (n:=o) (m:=ct.Most) (by omega) ct.Points (by omega) (by omega) ?_ (fun s r=>rfl)
  ·obtain⟨l,h1,h2,h3⟩:=eS
   have e:(fun s26:List Int×Int×Int=>
    if decide (0≤s26.2.2)=true then(
    (zdA s26.2.1 ct.Points).bind fun z32=>
    (ix s26.1 s26.2.2).bind fun x33=>
    (ix (s26.1.set s26.2.2.toNat z32) s26.2.2).bind fun x34=>
    some (.go (s26.1.set s26.2.2.toNat z32,IntKind.i64.wrap (s26.2.1-x34),IntKind.i64.wrap (s26.2.2-1))))else(
    some (.out s26.1)))=(fun s29:List Int×Int×Int=>
    if decide (0≤s29.2.2)=true then(
    (ix s29.1 s29.2.2).bind fun x35=>
    (ix (s29.1.set s29.2.2.toNat (if ct.Points<s29.2.1 then ct.Points else s29.2.1)) s29.2.2).bind fun x36=>
    some (Stp.go (s29.1.set s29.2.2.toNat (if ct.Points<s29.2.1 then ct.Points else s29.2.1),IntKind.i64.wrap (s29.2.1-x36),IntKind.i64.wrap (s29.2.2-1))))else(
    some (.out s29.1))):=by
    funext s
    simp only[hl,hmin,Option.bind_some]
   rw[←e]
   have:ct.Options.toNat=o:=by omega
   rw[this,eo,h1,Option.bind_some,Option.bind_some]
   have hb:zaE ct=some (ct.Points+1):=by unfold zaE;rw[k2,zag (by omega) (by omega)];rfl
   have ha:=zeV (a:=0) (a':=0) (b:=5) (b':=40) (by omega) (by omega) h3
   refine⟨?_,?_,?_⟩
   rotate_left 2
   ·rw[hb,Option.bind_some,ziK (by omega) (by omega) ha];rfl
   unfold zcm
   rw[k2,zag (n:=ct.Points+1) (by omega) (by omega)]
   simp only[show((2:Int)==1)=false from rfl,show((2:Int)==2)=true from rfl,Bool.false_eq_true,if_false,if_true]
   rw[zfg (by omega) (by omega) (by omega) (by simpa using ha)]
   simp
  intro c s r hc hs h0 h1
  have hc2:c<(s.set c (if ct.Points<r then ct.Points else r)).length:=by simp;omega
  dsimp only
  rw[if_pos (by simp),hl,Option.bind_some,zeq (by omega),Option.bind_some,←hmin,Int.toNat_natCast,zeq hc2,Option.bind_some]
  have b:0≤(if ct.Points<r then ct.Points else r)∧(if ct.Points<r then ct.Points else r)≤r:=by split<;>omega
  rw[List.getElem_set_self,zag (by omega) (by omega),zag (by omega) (by omega)]
 obtain⟨m,em⟩:∃m:Nat,ct.Most=(m:Int):=⟨ct.Most.toNat,by omega⟩
 rw[k4]
 simp only[show((4:Int)==1)=false from rfl,show((4:Int)==2)=false from rfl,show((4:Int)==3)=false from rfl,Bool.false_eq_true,if_false,if_true]
 have e1:za8 (σ:=List Int×Int) (β:=List Int) (fun s46=>if decide (s46.2<ct.Most)=true then(gd ((s46.1.length+1)*8≤140737488355328∧s46.1.length+1≤4611686018427387904)<|
  some (.go (s46.1++[26],IntKind.i64.wrap (s46.2+1))))else(some (.out s46.1))) ([],0)=some ((List.range m).map fun _=>26):=by
  refine znE (out:=fun s=>s) (a:=0) m ?_ ?_
  ·intro c s hc hs
   rw[if_pos (by simp;omega),zcu (by rw[hs];omega),zag (by dsimp only;omega) (by dsimp only;omega)]
  ·intro s
   rw[if_neg (by simp;omega)]
 have ha:((List.range m).map fun _=>(26:Int)).all (inB 0 40)=true:=by
  rw[List.all_map,List.all_eq_true];intro i _;rfl
 have hb:zaE ct=some 27:=by unfold zaE;rw[k4];rfl
 rw[e1,Option.bind_some,Option.bind_some]
 refine⟨?_,?_,?_⟩
 rotate_left 2
 ·rw[hb,Option.bind_some,ziK (by omega) (by simp;omega) ha];rfl
 unfold zcm
 rw[k4]
 simp only[show((4:Int)==1)=false from rfl,show((4:Int)==2)=false from rfl,show((4:Int)==3)=false from rfl,Bool.false_eq_true,if_false,if_true]
 rw[zfg (by omega) (by omega) (by simp;omega) (by simpa using ha)]
 simp
 rfl
theorem zlz (ct:Contest):zbO ct=some (ct.Kind==1||ct.Kind==2):=by
 unfold zbO
 rw[ziS];rfl
theorem zju (ct:Contest):zem ct=some (ct.Kind==1||ct.Kind==2):=by
 unfold zem
 rw[ziS];rfl
theorem zsO (gr:Group) (ct:Contest):∃b,zeg gr ct=some b∧zdX gr ct=some b∧(b=true→OkG gr∧OkC ct):=by
 unfold zeg zdX
 rw[zpu,zmn]
 simp only[znc,ziH,zju,zlz,Option.bind_some]
 cases hg:okG gr with
 |false=>exact⟨false,rfl,rfl,fun h=>by cases h⟩
 |true=>
  cases hc:okC ct with
  |false=>exact⟨false,rfl,rfl,fun h=>by cases h⟩
  |true=>
   obtain⟨n,h1,h2⟩:=zmY (zo5.1 hc)
   simp only[h1,h2,Bool.not_true,Bool.false_eq_true,if_false,Option.bind_some]
   have k:=And.intro (zlA.1 hg) (zo5.1 hc)
   simp only[ziS,zlP,Option.bind_some]
   cases decide (100000<n)||decide (gr.Q≤n)with
   |true=>exact⟨false,rfl,rfl,fun h=>by cases h⟩
   |false=>exact⟨_,rfl,rfl,fun _=>k⟩
theorem zw1 {l:List Int}(h:l.length≤1048576):zgY l=some l:=zcu (by omega)
theorem zgV {α:Type}{L:List (List α)}{i:Nat}(h:i<L.length):(L.take (i+1)).flatten=(L.take i).flatten++L[i]:=by
 rw[List.take_succ_eq_append_getElem h,List.flatten_append];simp
theorem zmo {α:Type}(L:List (List α)) (i:Nat):(L.take i).flatten.length≤L.flatten.length:=by
 have e:L.flatten=(L.take i).flatten++(L.drop i).flatten:=by rw[←List.flatten_append,List.take_append_drop]
 rw[e,List.length_append];omega
theorem zlb (L:List (List Int)) (h:L.flatten.length≤1000000000000):zbw L=some L.flatten:=by
 unfold zbw
 refine zah (zaC (ψ:=fun n=>n=(L.flatten.length:Int)) (zbe (fun i s=>s=((L.take i).flatten.length:Int)) rfl ?_ ?_) ?_)
 ·rintro i s hi rfl
  have e:=congrArg List.length (zgV hi)
  rw[List.length_append]at e
  have hl:=zmo L (i+1)
  refine zbi hi ?_
  rw[zag (by omega) (by omega)]
  refine zbU (by simp only[decide_eq_false_iff_not];omega) (zae ?_)
  show _=_
  omega
 ·rintro s rfl
  rw[List.take_length]
 rintro n rfl
 refine zap (by omega) (zaC (ψ:=fun r=>r=L.flatten) (zbe (fun i s=>s=(L.take i).flatten) rfl ?_ ?_) fun r hr=>zae hr)
 ·rintro i s hi rfl
  have e:=congrArg List.length (zgV hi)
  rw[List.length_append]at e
  have hl:=zmo L (i+1)
  refine zbi hi (zap (by omega) (zae ?_))
  show _=_
  rw[zgV hi]
 rintro s rfl
 rw[List.take_length]
def chG (gr:Group) (s:ByteArray) (l:List Int):Int:=zkU s ([gr.P,gr.Q,gr.G]++l)%gr.Q
theorem zu9 {gr:Group}(k:OkG gr) (s:ByteArray) (l:List Int):0≤chG gr s l∧chG gr s l<gr.Q:=by
 have:=k.q
 exact⟨Int.emod_nonneg _ (by omega),Int.emod_lt_of_pos _ (by omega)⟩
theorem zsd {gr:Group}(k:OkG gr) {l:List Int}:([gr.P,gr.Q,gr.G]++l).all zbq=l.all zbq:=by
 have hp:=k.p
 have hq:=k.q
 have hg:=k.g
 rw[List.all_append]
 have:[gr.P,gr.Q,gr.G].all zbq=true:=by
  simp only[List.all_cons,List.all_nil,Bool.and_true,Bool.and_eq_true]
  exact⟨zc1.2 (by omega),zc1.2 (by omega),zc1.2 (by omega)⟩
 rw[this,Bool.true_and]
theorem zqa {gr:Group}(k:OkG gr) {s:ByteArray}{l:List Int}(hs:s.size≤1000000) (hl:l.length≤10000000000) (hd:l.all zbq=true):zbK gr s l=some (chG gr s l):=by
 have hq:=k.q
 have hb:=zc1.1 (zkh s ([gr.P,gr.Q,gr.G]++l))
 unfold zbK
 rw[zcu (by simp only[List.length_cons,List.length_nil];omega),zjb hs (by simp only[List.length_append,List.length_cons,List.length_nil];omega) (by rw[zsd k];exact hd),Option.bind_some,zcu (by omega),Int.tmod_eq_emod_of_nonneg hb.1]
 rfl
theorem zt7 {gr:Group}(k:OkG gr) (s:ByteArray) {l:List Int}(hl:l.length≤10000000000):zbj gr s l=some (if zhm s ([gr.P,gr.Q,gr.G]++l)=true then(chG gr s l,true)else(0,false)):=by
 have hq:=k.q
 have hb:=zc1.1 (zkh s ([gr.P,gr.Q,gr.G]++l))
 unfold zbj
 rw[zcu (by simp only[List.length_cons,List.length_nil];omega),zjC,Option.bind_some]
 cases zhm s ([gr.P,gr.Q,gr.G]++l)with
 |false=>rfl
 |true=>
  simp only[if_true,Bool.not_true,Bool.false_eq_true,if_false]
  rw[zcu (by omega),Int.tmod_eq_emod_of_nonneg hb.1]
  rfl
theorem zwp {gr:Group}(k:OkG gr) {s:ByteArray}{l:List Int}(hs:s.size≤40) (hl:4+s.size+l.length≤400) (hd:l.all zbq=true):zhm s ([gr.P,gr.Q,gr.G]++l)=true:=by
 unfold zhm
 rw[zsd k,hd,Bool.and_true,Bool.and_eq_true,decide_eq_true_eq,decide_eq_true_eq]
 simp only[List.length_append,List.length_cons,List.length_nil]
 omega
def zgX (gr:Group):List Int→List Int→Int→Int
 |x::l,e::m,o=>zgX gr l m (o*zaq gr x e%gr.P)
 |_,_,o=>o
theorem zom (gr:Group):∀(l m:List Int) (x e o:Int),l.length=m.length→zgX gr (l++[x]) (m++[e]) o=zgX gr l m o*zaq gr x e%gr.P
 |[],[],x,e,o,_=>rfl
 |y::l,f::m,x,e,o,h=>zom gr l m x e _ (by simpa using h)
theorem zqp (gr:Group):∀(l m:List Int) (o:Int),zgX gr l (m.take l.length) o=zgX gr l m o
 |[],m,o=>by cases m<;>rfl
 |y::l,[],o=>rfl
 |y::l,f::m,o=>zqp gr l m _
theorem zrS {gr:Group}(h:0<gr.P):∀(l m:List Int) (o:Int),0≤o∧o<gr.P→0≤zgX gr l m o∧zgX gr l m o<gr.P
 |x::l,e::m,o,_=>zrS h l m _ ⟨Int.emod_nonneg _ (by omega),Int.emod_lt_of_pos _ h⟩
 |[],_,o,ho=>ho
 |_::_,[],o,ho=>ho
theorem zrX {gr:Group}(k:OkG gr) {x y:Int}(hx:0≤x∧x<gr.P) (hy:0≤y):zee gr [x,y]=x*y%gr.P:=by
 have hp:=k.p
 simp only[zee,List.foldl_cons,List.foldl_nil,Int.one_mul]
 rw[Int.emod_eq_of_lt hx.1 hx.2]
theorem zt5 {gr:Group}(k:OkG gr) {l m:List Int}(hl:∀x∈l,0≤x∧x≤2000000000) (hm:l.length≤m.length):zdp gr l m=some (zgX gr l m 1):=by
 have hp:=k.p
 unfold zdp
 refine zah (zaC (ψ:=fun b=>b=zgX gr l m 1) (zbe (fun i s=>s=zgX gr (l.take i) (m.take i) 1) rfl ?_ ?_) fun b hb=>zae hb)
 ·rintro i s hi rfl
  have bd:=zrS (gr:=gr) (by omega) (l.take i) (m.take i) 1 (by omega)
  have hx:=hl l[i] (List.getElem_mem hi)
  have pb:=zgP k l[i] (m[i]'(by omega))
  refine zbi hi (zbi (show i<m.length by omega) (zad (zmU k hx.1 hx.2 _).1 (zad (zo8 k ?_) (zae ?_))))
  ·intro y hy
   simp only[List.mem_cons,List.not_mem_nil,or_false]at hy
   rcases hy with rfl|rfl<;>omega
  show _=zgX gr (l.take (i+1)) (m.take (i+1)) 1
  rw[List.take_succ_eq_append_getElem hi,List.take_succ_eq_append_getElem (show i<m.length by omega),zom _ _ _ _ _ _ (by simp;omega),zrX k bd pb.1]
 rintro s rfl
 rw[List.take_length,zqp]
structure LinS (gr:Group) (bs:List (List Int)):Prop where
 n:1≤bs.length∧bs.length≤8
 m:1≤(bs.headD []).length∧(bs.headD []).length≤8
 r:∀r∈bs,r.length=(bs.headD []).length∧r.all (zaH gr)=true
theorem LinS.hd {gr:Group}{bs:List (List Int)}(h:LinS gr bs):ix bs 0=some (bs.headD []):=by
 cases bs with
 |nil=>have:=h.n;simp at this
 |cons r l=>rfl
theorem zwY {gr:Group}(k:OkG gr) {l:List Int}(h:l.all (zaH gr)=true):∀x∈l,0≤x∧x≤2000000000:=fun x hx=>by
 have hp:=k.p
 have:=zjr (List.all_eq_true.1 h x hx)
 omega
theorem zyP {bs:List (List Int)}{im cs:List Int}(h1:bs.flatten.length≤1000000) (h2:im.length≤1048576) (h3:cs.length≤1048576):zdS bs im cs=some (bs.flatten++im++cs):=by
 unfold zdS
 refine zah (zaC (ψ:=fun r=>r=bs.flatten) (zbe (fun i s=>s=(bs.take i).flatten) rfl ?_ ?_) ?_)
 ·rintro i s hi rfl
  have e:=congrArg List.length (zgV hi)
  rw[List.length_append]at e
  have hl:=zmo bs (i+1)
  refine zbi hi (zap (by omega) (zae ?_))
  show _=_
  rw[zgV hi]
 ·rintro s rfl
  rw[List.take_length]
 rintro r rfl
 exact zap (by omega) (zap (by rw[List.length_append];omega) (zae rfl))
theorem zpy {gr:Group}(k:OkG gr) {bs:List (List Int)}{es:List Int}(hb:LinS gr bs) (he:es.length=(bs.headD []).length):zcC gr bs es=some (bs.map fun r=>zgX gr r es 1):=by
 unfold zcC
 have hn:=hb.n
 rw[zt4 (f:=fun r=>zgX gr r es 1) []]
 ·rfl
 intro i hi s hs
 have hr:=hb.r _ (List.getElem_mem hi)
 rw[zeq hi,Option.bind_some,zt5 k (zwY k hr.2) (by omega),Option.bind_some,zcu (by simp at hs;omega)]
theorem zfC {gr:Group}(k:OkG gr):zaH gr gr.G=true:=by
 have hg:=k.g
 simp only[zaH,Bool.and_eq_true,decide_eq_true_eq]
 exact⟨by omega,k.o⟩
theorem zvs {gr:Group}{x:Int}(h:zaH gr x=true):LinS gr [[x]]:=⟨by simp,by simp,fun r hr=>by
 rw[List.mem_singleton.1 hr]
 simp[h]⟩
def zbV (l:List Int):List Int:=(l.length:Int)::l
def zeX (p:Proof):List Int:=zbV p.Commits++zbV p.Challenges++zbV p.Responses
theorem zlw {a l:List Int}(ha:a.length≤10000000) (hl:l.length≤10000000):zbI a l=some (a++zbV l):=by
 unfold zbI
 rw[zcu (by omega),zcu (by simp;omega)]
 simp[zbV]
theorem zp8 {p:Proof}(h1:p.Commits.length≤1048576) (h2:p.Challenges.length≤1048576) (h3:p.Responses.length≤1048576):zdO p=some (zeX p):=by
 unfold zdO
 rw[zlw (by simp) (by omega),Option.bind_some,zlw (by simp[zbV];omega) (by omega),Option.bind_some,zlw (by simp[zbV];omega) (by omega),Option.bind_some]
 simp[zeX]
theorem znn {l:List Int}(h:l.length≤10000000):zcp l=some (zbV l):=by
 unfold zcp
 rw[zcu (by simp;omega)];rfl
def zir (l:List Int):Bool:=decide ((l.length:Int)≤400)&&l.all zbq
theorem ztn (l:List Int):zeF l=some (zir l):=by
 unfold zeF
 have h1:zbl l=some (l.all zbq):=zgZ (f:=zaZ) fun x _=>by
  unfold zaZ
  rw[zj1];rfl
 rw[h1,Option.bind_some,zlP];rfl
theorem zmx (l:List Int):zdc l=some (if zir l=true then(l,true)else([],false)):=by
 unfold zdc
 rw[ztn]
 cases zir l<;>rfl
theorem zoU {p:Proof}(h1:p.Commits.length≤1048576) (h2:p.Challenges.length≤1048576) (h3:p.Responses.length≤1048576):zcU p=some (if zir (zeX p)=true then(zeX p,true)else([],false)):=by
 have e:[zbV p.Commits,zbV p.Challenges,zbV p.Responses].flatten=zeX p:=by simp[zeX]
 unfold zcU
 rw[znn (by omega),Option.bind_some,znn (by omega),Option.bind_some,znn (by omega),Option.bind_some,zlb _ (by rw[e];simp[zeX,zbV];omega),Option.bind_some,e,zmx]
 cases zir (zeX p)<;>rfl
theorem zxq {β:Type}{f:Nat→Option β}{n:Nat}{b:β}(h:f n=some b) (mono:∀n b,f n=some b→f (n+1)=some b):zof f=some b:=by
 obtain⟨b',m,h1,h2⟩:=zxy h
 have up:∀k n b,f n=some b→f (n+k)=some b:=by
  intro k
  induction k with
  |zero=>intro n b h;exact h
  |succ k ih=>intro n b h;exact mono _ _ (ih n b h)
 have a:=up m n b h
 have c:=up n m b' h2
 rw[Nat.add_comm m n,a]at c
 cases c;exact h1
def zAV {α:Type}(f:α→Int) (L:List α) (T:Nat):List α:=(List.range T).flatMap fun i=>L.filter fun e=>f e==((i+1:Nat):Int)
theorem zm2 {gr:Group}(k:OkG gr) {a:Int}(ha:0≤a):zaq gr gr.G a=((gr.G.toNat^a.toNat%gr.P.toNat:Nat):Int):=by
 have hq:=k.q
 obtain⟨n,rfl⟩:=Int.eq_ofNat_of_zero_le ha
 obtain⟨q,hQ⟩:=Int.eq_ofNat_of_zero_le (show 0≤gr.Q by omega)
 unfold zaq
 have ho:=k.o
 rw[hQ]at ho⊢
 rw[Int.toNat_natCast]at ho
 rw[←Int.natCast_emod,Int.toNat_natCast,Int.toNat_natCast,zjn ho]
theorem zvC {gr:Group}(k:OkG gr) {a b:Int}(ha:0≤a) (hb:0≤b):zee gr [zaq gr gr.G a,zaq gr gr.G b]=zaq gr gr.G (a+b):=by
 have hp:=k.p
 obtain⟨P,hP⟩:=Int.eq_ofNat_of_zero_le (show 0≤gr.P by omega)
 have hx:=zgP k gr.G a
 rw[zrX k (by omega) (zgP k gr.G b).1,zm2 k ha,zm2 k hb,zm2 k (by omega),hP]
 rw[←Int.natCast_mul,←Int.natCast_emod,Int.toNat_natCast,←Nat.mul_mod,←Nat.pow_add,Int.toNat_add ha hb]
theorem zub {gr:Group}(k:OkG gr):zaq gr gr.G 0=1:=by
 have hp:=k.p
 rw[zm2 k (Int.le_refl 0)]
 show((1%gr.P.toNat:Nat):Int)=1
 rw[Nat.mod_eq_of_lt (by omega)];rfl
theorem zxR {gr:Group}(k:OkG gr) (x e:Int):zgX gr [x] [e] 1=zaq gr x e:=by
 have hb:=zgP k x e
 show 1*zaq gr x e%gr.P=_
 rw[Int.one_mul,Int.emod_eq_of_lt hb.1 (by omega)]
def zhW (gr:Group) (s:ByteArray) (x w:Int):Int:=chG gr s ([[gr.G]].flatten++[zaq gr gr.G x]++[zaq gr gr.G w])
def ziM (gr:Group) (s:ByteArray) (x w:Int):Proof:=⟨[zaq gr gr.G w],[zhW gr s x w],[(w+zhW gr s x w*x)%gr.Q]⟩
structure Gb (gr:Group):Prop where
 p:1≤gr.P∧gr.P≤2000000000
 q:1≤gr.Q∧gr.Q≤2000000000
 g:0≤gr.G∧gr.G≤2000000000
theorem OkG.gb {gr:Group}(k:OkG gr):Gb gr:=by
 have hp:=k.p
 have hq:=k.q
 have hg:=k.g
 exact⟨by omega,by omega,by omega⟩
theorem zpl {gr:Group}(k:Gb gr) (x e:Int):0≤zaq gr x e∧zaq gr x e≤gr.P-1:=by
 have hp:=k.p
 unfold zaq
 have:=Nat.mod_lt (x.toNat^(e%gr.Q).toNat) (show 0<gr.P.toNat by omega)
 omega
theorem zw3 {gr:Group}(k:Gb gr) {x:Int}(h0:0≤x) (h1:x≤2000000000) (e:Int):zaJ gr x e=some (zaq gr x e):=by
 have hp:=k.p
 have hq:=k.q
 have b1:=Int.emod_nonneg e (show gr.Q≠0 by omega)
 have b2:=Int.emod_lt_of_pos e (show 0<gr.Q by omega)
 unfold zaJ
 rw[zqi (by omega) hq.2,Option.bind_some,(zjx h0 h1 hp.1 hp.2 b1 (by omega)).2];rfl
theorem zvJ {gr:Group}(k:Gb gr) (w:Int):ze7 gr [gr.G] [w]=some (zaq gr gr.G w):=by
 have hp:=k.p
 have hg:=k.g
 have hb:=zpl k gr.G w
 unfold ze7
 refine zah (zaC (ψ:=fun s=>s=zaq gr gr.G w) (zbe (fun i s=>s=if i=0 then 1 else zaq gr gr.G w) rfl ?_ fun s h=>h) fun s h=>zae h)
 rintro i s hi rfl
 have hi:i<1:=hi
 obtain rfl:i=0:=by omega
 refine zbi (l:=[gr.G]) (by simp) (zbi (l:=[w]) (by simp) (zad (zw3 k hg.1 hg.2 _) (zap (by omega) (zae ?_))))
 show(IntKind.i64.wrap (1*zaq gr gr.G w)).tmod gr.P=zaq gr gr.G w
 rw[Int.one_mul,zag (by omega) (by omega),Int.tmod_eq_emod_of_nonneg hb.1,Int.emod_eq_of_lt hb.1 (by omega)]
theorem zou {gr:Group}(k:Gb gr) (w:Int):zd9 gr [[gr.G]] [w]=some [zaq gr gr.G w]:=by
 unfold zd9
 rw[zt4 (l:=[[gr.G]]) (f:=fun _=>zaq gr gr.G w) []]
 ·rfl
 intro i hi s hs
 have hi:i<1:=hi
 obtain rfl:i=0:=by omega
 rw[zeq (l:=[[gr.G]]) (k:=0) (by simp),Option.bind_some]
 show(ze7 gr [gr.G] [w]).bind _=_
 rw[zvJ k,Option.bind_some,zcu (by have:=hs;simp only[List.length_nil]at this;omega)]
theorem zwz {gr:Group}(k:Gb gr) (x w:Int):([gr.P,gr.Q,gr.G]++([[gr.G]].flatten++[zaq gr gr.G x]++[zaq gr gr.G w])).all zbq=true:=by
 have hp:=k.p
 have hq:=k.q
 have hg:=k.g
 have b1:=zpl k gr.G x
 have b2:=zpl k gr.G w
 simp[zbq];omega
theorem zoi {gr:Group}(k:Gb gr) (s:ByteArray) (x w:Int):0≤zhW gr s x w∧zhW gr s x w<gr.Q:=by
 have hq:=k.q
 exact⟨Int.emod_nonneg _ (by omega),Int.emod_lt_of_pos _ (by omega)⟩
theorem zxj {gr:Group}(k:OkG gr):zco gr [[gr.G]]=some true:=by
 have h1:zaD [[gr.G]] [[gr.G]] gr.P gr.Q gr.G=some (-1):=by
  unfold zaD
  refine zah (zaC (ψ:=fun v=>v=.inl ()) (zbe (fun _ _=>True) trivial ?_ fun s _=>rfl) ?_)
  ·rintro i s hi _
   have hi:i<1:=hi
   obtain rfl:i=0:=by omega
   refine zbi (l:=[[gr.G]]) (by simp) ?_
   have e:zcs [gr.G] [[gr.G]] gr.P gr.Q gr.G=some false:=by
    unfold zcs
    have hh:zb5 ⟨gr.P,gr.Q,gr.G⟩ [gr.G]=some true:=by
     rw[show(⟨gr.P,gr.Q,gr.G⟩:Group)=gr from rfl,zqs k]
     simp[zfC k]
    simp[ix,hh]
   exact zad e (zbU rfl (zae trivial))
  ·rintro _ rfl
   exact zae rfl
 unfold zco zaP
 rw[zqd,show ix [[gr.G]] 0=some [gr.G]from rfl,h1]
 rfl
theorem zwm (gr:Group) {s:ByteArray}(hs:s.size≤40) (x w:Int):zcc gr s gr.G x w=some (if(okG gr&&(zgA gr x&&zgA gr w))=true then(ziM gr s x w,true)else(⟨[],[],[]⟩,false)):=by
 unfold zcc zbZ zcT
 rw[zmn]
 cases hg:okG gr with
 |false=>rfl
 |true=>
  have k:=zlA.1 hg
  have hq:=k.q
  have hp:=k.p
  have ha:∀y,zaX gr [y]=some (zgA gr y):=fun y=>by
   rw[zlf (gr:=gr) (by omega) (by omega)];simp
  have e:decide ((s.size:Int)≤40)=true:=decide_eq_true (by omega)
  rw[zxj k,ha,ha,e,show ix [[gr.G]] 0=some [gr.G]from rfl]
  cases h1:zgA gr x with
  |false=>rfl
  |true=>
   cases h2:zgA gr w with
   |false=>rfl
   |true=>
    simp only[zgA,Bool.and_eq_true,decide_eq_true_eq]at h1 h2
    have hb:=zvs (zfC k)
    have b1:=zgP k gr.G x
    have b2:=zgP k gr.G w
    have hc:zbj gr s ([[gr.G]].flatten++[zaq gr gr.G x]++[zaq gr gr.G w])=some (zhW gr s x w,true):=by
     rw[zt7 k s (by simp),if_pos (zwp k hs (by simp;omega) ?_)]
     ·rfl
     ·have:=zwz k.gb x w
      rw[List.all_append]at this
      exact(Bool.and_eq_true_iff.1 this).2
    have he:=zoi k.gb s x w
    simp only[Option.bind_some,Bool.not_true,Bool.false_eq_true,if_false,Bool.and_self,if_true,List.length_cons,List.length_nil,bne_self_eq_false]
    rw[show ziM gr s x w=⟨[zaq gr gr.G w],[zhW gr s x w],[(w+zhW gr s x w*x)%gr.Q]⟩from rfl]
    unfold zci
    rw[zpy k (es:=[w]) hb rfl,zpy k (es:=[x]) hb rfl,zlb _ (by simp)]
    simp only[List.map_cons,List.map_nil,zxR k,Option.bind_some]
    rw[zlb _ (by simp)]
    simp only[Option.bind_some]
    rw[show[[[gr.G]].flatten,[zaq gr gr.G x],[zaq gr gr.G w]].flatten=[[gr.G]].flatten++[zaq gr gr.G x]++[zaq gr gr.G w]from rfl,hc]
    simp only[Option.bind_some,Bool.not_true,Bool.false_eq_true,if_false]
    generalize zhW gr s x w=c at he hc
    have hm:0≤c*x:=Int.mul_nonneg he.1 h1.1
    have hm2:c*x≤2000000000*2100000000:=Int.mul_le_mul (by omega) (by omega) h1.1 (by omega)
    have hl:zak (σ:=List Int×List Int×List Int) (β:=List Int×List Int×List Int) (fun i21 s20=>(ix [w] i21).bind fun x27=>(ix [x] i21).bind fun x28=>(zbh gr (IntKind.i64.wrap (x27+(IntKind.i64.wrap (c*x28))))).bind fun z29=>gd ((s20.2.2.length+1)*8≤140737488355328∧s20.2.2.length+1≤4611686018427387904)<|
     some (.go (s20.1,s20.2.1,s20.2.2++[z29]))) (fun s20=>(s20.1,s20.2.1,s20.2.2)) ([w].length) 0 ([zaq gr gr.G w],[c],[])=some ([zaq gr gr.G w],[c],[(w+c*x)%gr.Q]):=by
     refine zah (zbe (fun i s=>s=if i=0 then([zaq gr gr.G w],[c],[])else([zaq gr gr.G w],[c],[(w+c*x)%gr.Q])) rfl ?_ fun s h=>h)
     rintro i s hi rfl
     have hi:i<1:=hi
     obtain rfl:i=0:=by omega
     refine zbi (l:=[w]) (by simp) (zbi (l:=[x]) (by simp) ?_)
     show Rn ((zbh gr (IntKind.i64.wrap (w+IntKind.i64.wrap (c*x)))).bind _) _
     unfold zbh
     rw[zag (n:=c*x) (by omega) (by omega),zag (n:=w+c*x) (by omega) (by omega),zsH (by omega) (by omega)]
     exact zap (by simp) (zae rfl)
    rw[hl]
    rfl
theorem zqN:∀{l v:List Int},l.Nodup→(∀x∈l,x∈v)→l.length≤v.length
 |[],v,_,_=>by simp
 |x::l,v,hn,hs=>by
  obtain⟨h1,h2⟩:=List.nodup_cons.1 hn
  have hx:=hs x (by simp)
  have:=zqN (l:=l) (v:=v.erase x) h2 fun y hy=>(List.mem_erase_of_ne (show y≠x from fun e=>h1 (e▸hy))).2 (hs y (List.mem_cons_of_mem _ hy))
  rw[List.length_erase_of_mem hx]at this
  have:=List.length_pos_of_mem hx
  rw[List.length_cons];omega
theorem zyH (n:Nat) (p:Nat→Bool):(((List.range n).filter p).map fun(i:Nat)=>(i:Int)).Nodup:=by
 rw[List.Nodup,List.pairwise_map]
 exact((List.nodup_range (n:=n)).filter p).imp fun h=>by omega
theorem zuw (n:Nat) (v:List Int):(zet n v).sum≤v.length:=by
 have e:∀l:List Nat,(l.map fun(i:Nat)=>if v.contains (i:Int)=true then(1:Int)else 0).sum=((List.filter (fun(i:Nat)=>v.contains (i:Int)) l).length:Int):=by
  intro l
  induction l with
  |nil=>rfl
  |cons i l ih=>
   rw[List.map_cons,List.sum_cons,ih,List.filter_cons]
   cases v.contains (i:Int)<;>simp<;>omega
 unfold zet
 rw[e]
 have:=zqN (v:=v) (zyH n fun i=>v.contains (i:Int)) fun x hx=>by
  obtain⟨i,hi,rfl⟩:=List.mem_map.1 hx
  simpa using(List.mem_filter.1 hi).2
 rw[List.length_map]at this
 omega
theorem zlr (n:Nat) (v:List Int):(zet n v).all (inB 0 1)=true:=by
 unfold zet
 rw[List.all_map,List.all_eq_true]
 intro i _
 show inB 0 1 (if _ then _ else _)=true
 split<;>rfl
def zjX (ct:Contest):Int:=if ct.Kind=1 then 2 else if ct.Kind=2 then ct.Points+1 else if ct.Kind=3 then ct.Options+1 else 27
def zfI (ct:Contest) (v:List Int):List Int:=if ct.Kind=1 then zet ct.Options.toNat v else if ct.Kind=3 then v.map (· +1)else v
def zmL (ct:Contest) (v:List Int):Int:=num (zjX ct) (zfI ct v)
theorem zqL {ct:Contest}(k:OkC ct) {v:List Int}(hv:zfn ct v=true):zcm ct v=some (zmL ct v)∧(zfI ct v).all (inB 0 (zjX ct-1))=true∧(zfI ct v).length≤8:=by
 unfold zcm zmL zjX zfI
 unfold zfn at hv
 rcases k.k with⟨k1|k3,ho,hm,hp⟩|⟨k2,ho,hp,hm⟩|⟨k4,ho,hm,hp⟩
 ·simp only[k1,if_true,Bool.and_eq_true]at hv⊢
  have hl:=zdg.1 hv.2
  refine⟨?_,zlr _ _,by rw[zhD];omega⟩
  rw[if_pos (show((1:Int)==1)=true from rfl),zka (by omega) hv.1.1,Option.bind_some,zfg (by omega) (by omega) (by rw[zhD];omega) (by simpa using zeV (Int.le_refl 0) (by omega) (zlr _ _))]
  simp
 ·simp only[k3,show¬(3:Int)=1 by omega,show¬(3:Int)=2 by omega,if_false,if_true,Bool.and_eq_true]at hv⊢
  have hl:=zdg.1 hv.2.2
  have ha:(v.map (· +1)).all (inB 0 (ct.Options+1-1))=true:=by
   rw[List.all_map,List.all_eq_true]
   intro x hx
   have:=zdg.1 (List.all_eq_true.1 hv.1 x hx)
   exact zdg.2 (show 0≤x+1∧x+1≤ct.Options+1-1 by omega)
  refine⟨?_,ha,by simp;omega⟩
  rw[zag (n:=ct.Options+1) (by omega) (by omega)]
  simp only[show((3:Int)==1)=false from rfl,show((3:Int)==2)=false from rfl,show((3:Int)==3)=true from rfl,Bool.false_eq_true,if_false,if_true]
  rw[zfg (by omega) (by omega) (by omega) (zeV (Int.le_refl 0) (by omega) ha)];rfl
 ·simp only[k2,show¬(2:Int)=1 by omega,show¬(2:Int)=3 by omega,if_false,if_true,Bool.and_eq_true,decide_eq_true_eq]at hv⊢
  refine⟨?_,zeV (Int.le_refl 0) (by omega) hv.2.1,by omega⟩
  rw[zag (n:=ct.Points+1) (by omega) (by omega)]
  simp only[show((2:Int)==1)=false from rfl,show((2:Int)==2)=true from rfl,Bool.false_eq_true,if_false,if_true]
  rw[zfg (by omega) (by omega) (by omega) (by simpa using zeV (Int.le_refl 0) (by omega) hv.2.1)]
  simp
 simp only[k4,show¬(4:Int)=1 by omega,show¬(4:Int)=2 by omega,show¬(4:Int)=3 by omega,if_false,Bool.and_eq_true]at hv⊢
 have hl:=zdg.1 hv.2
 refine⟨?_,zeV (by omega) (by omega) hv.1,by omega⟩
 simp only[show((4:Int)==1)=false from rfl,show((4:Int)==2)=false from rfl,show((4:Int)==3)=false from rfl,Bool.false_eq_true,if_false]
 rw[zfg (by omega) (by omega) (by omega) (by simpa using zeV (by omega) (by omega) hv.1)]
 simp
def zcZ (ct:Contest):Int:=if ct.Kind=1 then 1 else ct.Points
def zd1 (ct:Contest):Bool:=ct.Kind==1||ct.Kind==2
def zjR (ct:Contest):Int:=if zd1 ct=true then ct.Options*(2*zcZ ct+2)+2*(ct.Most-ct.Least)+1 else 2
theorem zus (ct:Contest):zfF ct=some (zcZ ct):=by
 unfold zfF zcZ
 by_cases h:ct.Kind=1
 ·rw[if_pos h,h];rfl
 rw[if_neg h,if_neg (by simpa using h)]
theorem zlL {ct:Contest}(k:OkC ct) (h:zd1 ct=true):(1≤ct.Options∧ct.Options≤8)∧(1≤zcZ ct∧zcZ ct≤5)∧ct.Most≤ct.Options*zcZ ct∧(0≤ct.Least∧ct.Least≤ct.Most):=by
 have lo:=k.lo
 unfold zd1 at h
 unfold zcZ
 rcases k.k with⟨k1|k3,ho,hm,hp⟩|⟨k2,ho,hp,hm⟩|⟨k4,ho,hm,hp⟩
 ·rw[if_pos k1];omega
 ·rw[k3]at h;cases h
 ·rw[if_neg (by omega)];omega
 rw[k4]at h;cases h
theorem zwf {ct:Contest}(k:OkC ct):zfv ct=some (zjR ct)∧0≤zjR ct∧zjR ct≤300:=by
 unfold zfv zjR
 rw[zju,show(ct.Kind==1||ct.Kind==2)=zd1 ct from rfl]
 cases h:zd1 ct with
 |false=>exact⟨rfl,by simp,by simp⟩
 |true=>
  obtain⟨h1,h2,h3,h4⟩:=zlL k h
  have e1:ct.Options*(2*zcZ ct+2)≤8*12:=Int.mul_le_mul h1.2 (by omega) (by omega) (by omega)
  have e2:0≤ct.Options*(2*zcZ ct+2):=Int.mul_nonneg (by omega) (by omega)
  have e3:ct.Options*zcZ ct≤8*5:=Int.mul_le_mul h1.2 h2.2 (by omega) (by omega)
  rw[zus]
  simp only[Option.bind_some,Bool.not_true,Bool.false_eq_true,if_false,if_true]
  rw[zag (n:=2*zcZ ct) (by omega) (by omega),zag (n:=2*zcZ ct+2) (by omega) (by omega),zag (n:=ct.Options*(2*zcZ ct+2)) (by omega) (by omega),zag (n:=ct.Most-ct.Least) (by omega) (by omega),zag (n:=2*(ct.Most-ct.Least)) (by omega) (by omega),zag (n:=ct.Options*(2*zcZ ct+2)+2*(ct.Most-ct.Least)) (by omega) (by omega),zag (by omega) (by omega)]
  exact⟨rfl,by omega,by omega⟩
theorem zpt:∀(n:Nat) (a:Int) (b:ByteArray),zbm n a=some b→zbm (n+1) a=some b
 |0,_,_,h=>by cases h
 |n+1,a,b,h=>by
  rw[zbm]at h⊢
  by_cases c:decide (a<10)=true
  ·rw[if_pos c]at h⊢;exact h
  ·rw[if_neg c]at h⊢
   cases e:zbm n (IntKind.i64.wrap (a.tdiv 10))with
   |none=>rw[e]at h;cases h
   |some z=>
    rw[e]at h
    rw[zpt n _ _ e]
    exact h
def zn2 (ct:Contest) (v:List Int):List Int:=if zd1 ct=true then zfI ct v else[zmL ct v]
theorem zso {n:Nat}{v:List Int}(hn:v.Nodup) (hv:v.all (inB 0 ((n:Int)-1))=true):(zet n v).sum=v.length:=by
 have h1:=zuw n v
 have e:∀l:List Nat,(l.map fun(i:Nat)=>if v.contains (i:Int)=true then(1:Int)else 0).sum=((List.filter (fun(i:Nat)=>v.contains (i:Int)) l).length:Int):=by
  intro l
  induction l with
  |nil=>rfl
  |cons i l ih=>
   rw[List.map_cons,List.sum_cons,ih,List.filter_cons]
   cases v.contains (i:Int)<;>simp<;>omega
 have h2:=zqN (v:=(List.filter (fun(i:Nat)=>v.contains (i:Int)) (List.range n)).map fun(i:Nat)=>(i:Int)) hn fun x hx=>by
  have hb:=zdg.1 (List.all_eq_true.1 hv x hx)
  refine List.mem_map.2 ⟨x.toNat,List.mem_filter.2 ⟨List.mem_range.2 (by omega),?_⟩,by omega⟩
  rw[show((x.toNat:Nat):Int)=x by omega]
  simpa using hx
 rw[List.length_map]at h2
 unfold zet at h1⊢
 rw[e]at h1⊢
 omega
theorem zxp {ct:Contest}(k:OkC ct) {v:List Int}(hv:zfn ct v=true):zfd ct v=some (zn2 ct v):=by
 have hc:=(zqL k hv).1
 unfold zfd zn2 zd1
 unfold zfn at hv
 rcases k.k with⟨k1|k3,ho,hm,hp⟩|⟨k2,ho,hp,hm⟩|⟨k4,ho,hm,hp⟩
 ·simp only[k1,if_true,Bool.and_eq_true]at hv⊢
  rw[if_pos (show((1:Int)==1)=true from rfl),zka (by omega) hv.1.1]
  show some (zet ct.Options.toNat v)=some (zfI ct v)
  unfold zfI
  rw[if_pos k1]
 ·rw[hc,k3];rfl
 ·simp only[k2,show¬(2:Int)=1 by omega,if_false,if_true,Bool.and_eq_true,decide_eq_true_eq]at hv
  rw[k2]
  unfold zfI
  rw[if_neg (show¬ct.Kind=1 by omega),if_neg (show¬ct.Kind=3 by omega)]
  simp only[show((2:Int)==1)=false from rfl,show((2:Int)==2)=true from rfl,Bool.false_eq_true,if_false,if_true,zw1 (l:=v) (by omega)]
  rfl
 rw[hc,k4];rfl
theorem zzC {ct:Contest}(k:OkC ct) {v:List Int}(hf:zd1 ct=true) (hv:zfn ct v=true):((zfI ct v).length:Int)=ct.Options∧(zfI ct v).all (inB 0 (zcZ ct))=true∧(ct.Least≤(zfI ct v).sum∧(zfI ct v).sum≤ct.Most)∧zjX ct=zcZ ct+1:=by
 unfold zd1 at hf
 unfold zfn at hv
 unfold zfI zcZ zjX
 rcases k.k with⟨k1|k3,ho,hm,hp⟩|⟨k2,ho,hp,hm⟩|⟨k4,ho,hm,hp⟩
 ·rw[if_pos k1]at hv
  simp only[Bool.and_eq_true]at hv
  have hl:=zdg.1 hv.2
  have hs:=zso (n:=ct.Options.toNat) (v:=v) (of_decide_eq_true (show decide v.Nodup=true from hv.1.2.2)) (by rw[show((ct.Options.toNat:Nat):Int)-1=ct.Options-1 by omega];exact hv.1.1)
  rw[if_pos k1,if_pos k1,if_pos k1]
  exact⟨by rw[zhD];omega,zlr _ _,by omega,rfl⟩
 ·rw[k3]at hf;cases hf
 ·rw[if_neg (show¬ct.Kind=1 by omega),if_pos k2]at hv
  simp only[Bool.and_eq_true,decide_eq_true_eq]at hv
  have hl:=zdg.1 hv.2.2
  rw[if_neg (show¬ct.Kind=1 by omega),if_neg (show¬ct.Kind=3 by omega),if_neg (show¬ct.Kind=1 by omega),if_neg (show¬ct.Kind=1 by omega),if_pos k2]
  exact⟨hv.1,hv.2.1,hl,rfl⟩
 rw[k4]at hf;cases hf
theorem zum {ct:Contest}(h:zd1 ct=true∨ct.Kind≠2):zbr ct=some (if zd1 ct=true then zcZ ct else 1):=by
 unfold zbr zd1 zcZ
 by_cases h2:ct.Kind=2
 ·rw[h2];rfl
 rw[if_neg (by simpa using h2)]
 by_cases h1:ct.Kind=1
 ·rw[h1];rfl
 have e1:(ct.Kind==1)=false:=beq_false_of_ne h1
 have e2:(ct.Kind==2)=false:=beq_false_of_ne h2
 rw[e1,e2];rfl
theorem zin {gr:Group}{x:Int}:zgA gr x=true↔0≤x∧x<gr.Q:=by
 unfold zgA
 simp only[Bool.and_eq_true,decide_eq_true_eq]
 omega
theorem zpG {gr:Group}(k:OkG gr) (v:Int):zbh gr v=some (v%gr.Q):=by
 have hp:=k.p
 have hq:=k.q
 unfold zbh
 rw[zsH (by omega) (by omega)];rfl
theorem zjP {α:Type}{l:List α}{d:α}{i:Nat}(h:i<l.length):l.getD i d=l[i]:=by
 rw[List.getD_eq_getElem?_getD,List.getElem?_eq_getElem h];rfl
def R9 (x:Int):Prop:=0≤x∧x≤2000000000
theorem zdL {gr:Group}(k:OkG gr) {x:Int}(h:zaH gr x=true):R9 x:=by
 have:=zjr h;have:=k.p;exact⟨by omega,by omega⟩
theorem zc8 {gr:Group}(k:OkG gr) (x e:Int):R9 (zaq gr x e):=by
 have:=zgP k x e;have:=k.p;exact⟨by omega,by omega⟩
theorem zts {x y:Int}(hx:R9 x) (hy:R9 y):∀z∈[x,y],0≤z∧z≤2000000000:=by
 intro z hz
 simp only[List.mem_cons,List.not_mem_nil,or_false]at hz
 rcases hz with rfl|rfl
 ·exact hx
 exact hy
theorem zCw {gr:Group}(k:OkG gr) {l:List Int}(h:∀x∈l,0≤x∧x≤2000000000):R9 (zee gr l):=by
 have:=zxd k h;have:=k.p;exact⟨by omega,by omega⟩
theorem zzq {gr:Group}(k:OkG gr) {x y:Int}(hx:R9 x) (hy:R9 y):R9 (zee gr [x,y]):=zCw k (zts hx hy)
theorem zo1 {l:List Int}(h:∀x∈l,R9 x):l.all zbq=true:=List.all_eq_true.2 fun x hx=>zc1.2 ⟨(h x hx).1,by have:=(h x hx).2;omega⟩
theorem m2I {gr:Group}(k:OkG gr) {x y:Int}(hx:R9 x) (hy:R9 y):zba gr [x,y]=some (zee gr [x,y]):=zo8 k (zts hx hy)
theorem m2S {gr:Group}(k:OkG gr) {x y:Int}(hx:R9 x) (hy:R9 y):zbD gr [x,y]=some (zee gr [x,y]):=zuI k (zts hx hy)
theorem pwI {gr:Group}(k:OkG gr) {x:Int}(hx:R9 x) (e:Int):zao gr x e=some (zaq gr x e):=(zmU k hx.1 hx.2 e).1
theorem pwS {gr:Group}(k:OkG gr) {x:Int}(hx:R9 x) (e:Int):zaJ gr x e=some (zaq gr x e):=(zmU k hx.1 hx.2 e).2
theorem r_G {gr:Group}(k:OkG gr):R9 gr.G:=zdL k (zfC k)
theorem zyI {gr:Group}(k:OkG gr) {n:Nat}(h0:n<gr.P.toNat) (h:n^gr.Q.toNat%gr.P.toNat=1):zaH gr (n:Int)=true:=by
 have hp:=k.p
 have hq:=k.q
 have h1:1≤n:=by
  rcases Nat.eq_zero_or_pos n with h2|h2
  ·rw[h2,Nat.zero_pow (by omega),Nat.zero_mod]at h;omega
  ·exact h2
 simp only[zaH,Bool.and_eq_true,decide_eq_true_eq]
 exact⟨⟨by omega,by omega⟩,by rw[Int.toNat_natCast];exact h⟩
theorem zpk {gr:Group}(k:OkG gr) {x:Int}(hx:zaH gr x=true) (e:Int):zaH gr (zaq gr x e)=true:=by
 have hp:=k.p
 refine zyI k (Nat.mod_lt _ (by omega)) ?_
 rw[←Nat.pow_mod,←Nat.pow_mul,Nat.mul_comm,Nat.pow_mul,Nat.pow_mod,(zlM hx).2.2,Nat.one_pow,Nat.mod_eq_of_lt (by omega)]
def E9 (q x:Int):Prop:=0≤x∧x<q
theorem zyx {q a z t:Int}(hq:q≤2000000000) (ha:E9 q a) (hz:E9 q z) (ht:E9 q t):IntKind.i64.wrap (a+IntKind.i64.wrap (z*t))=a+z*t∧(IntKind.i64.wrap (a+IntKind.i64.wrap (z*t))).tmod q=(a+z*t)%q:=by
 obtain⟨a1,a2⟩:=ha
 obtain⟨z1,z2⟩:=hz
 obtain⟨t1,t2⟩:=ht
 have h1:0≤z*t:=Int.mul_nonneg z1 t1
 have h2:z*t≤2000000000*2000000000:=Int.mul_le_mul (by omega) (by omega) t1 (by omega)
 rw[zag (n:=z*t) (by omega) (by omega),zag (n:=a+z*t) (by omega) (by omega)]
 exact⟨rfl,Int.tmod_eq_emod_of_nonneg (by omega)⟩
theorem zj7 {q:Int}(hq:0<q) (x:Int):E9 q (x%q):=⟨Int.emod_nonneg _ (by omega),Int.emod_lt_of_pos _ hq⟩
theorem zuM {α:Type}{l:List α}{P:α→Prop}(h:∀x∈l,P x) {i:Nat}(hi:i<l.length):P l[i]:=h _ (List.getElem_mem hi)
def smN (q:Int) (l:List Int):Nat→Int
 |0=>0
 |i+1=>(smN q l i+l.getD i 0)%q
theorem zng {q:Int}(hq:0<q) (l:List Int):∀i,E9 q (smN q l i)
 |0=>⟨by show(0:Int)≤0;omega,hq⟩
 |i+1=>zj7 hq _
theorem zzv {q:Int}(hq:0<q∧q≤2000000000) {l:List Int}(hl:∀x∈l,E9 q x):zg9 l q=some (smN q l l.length)∧zl5 l q=some (smN q l l.length):=by
 refine⟨?_,?_⟩
 ·unfold zg9
  refine zah (zaC (ψ:=(· =smN q l l.length)) (zbe (fun i s=>s=smN q l i) rfl ?_ fun s h=>h) fun x hx=>zae hx)
  rintro i s hi rfl
  have ha:=zng hq.1 l i
  have h1:=zuM hl hi
  refine zbi hi (zap (by omega) (zae ?_))
  show _=(smN q l i+l.getD i 0)%q
  rw[zjP hi,zag (by have:=ha.1;have:=h1.1;omega) (by have:=ha.2;have:=h1.2;omega),Int.tmod_eq_emod_of_nonneg (by have:=ha.1;have:=h1.1;omega)]
 unfold zl5
 refine zah (zaC (ψ:=(· =smN q l l.length)) (zbe (fun i s=>s=smN q l i) rfl ?_ fun s h=>h) fun x hx=>zae hx)
 rintro i s hi rfl
 have ha:=zng hq.1 l i
 have h1:=zuM hl hi
 refine zbi hi (zap (by omega) (zae ?_))
 show _=(smN q l i+l.getD i 0)%q
 rw[zjP hi,zag (by have:=ha.1;have:=h1.1;omega) (by have:=ha.2;have:=h1.2;omega),Int.tmod_eq_emod_of_nonneg (by have:=ha.1;have:=h1.1;omega)]
def smL (f:Nat→Int):Nat→Int
 |0=>0
 |n+1=>smL f n+f n
theorem zhE {P:Int→Prop}{l:List Int}(h:∀x∈l,P x) {i:Nat}(hi:i<l.length):P (l.getD i 0):=by
 rw[zjP hi];exact h _ (List.getElem_mem hi)
theorem zfQ {l:List Int}{i:Nat}(hi:i<l.length):ix l (i:Int)=some (l.getD i 0):=by rw[zeq hi,zjP hi]
theorem zi1 {σ γ:Type}{body:Int→σ→Option (Stp σ γ)}{stop:σ→γ}{n:Nat}{s0:σ}(S:Nat→σ) (h0:s0=S 0) (hs:∀i,i<n→Rn (body (i:Int) (S i)) (· =.go (S (i+1)))):zak body stop n 0 s0=some (stop (S n)):=by
 refine zah (zbe (fun i y=>y=S i) h0 ?_ ?_)
 ·rintro i y hi rfl
  obtain⟨v,h1,rfl⟩:=hs i hi
  exact⟨_,h1,rfl⟩
 rintro y rfl;rfl
def pg (gr:Group) (a:Int):Int:=zaq gr gr.G a
section
variable {gr:Group}
theorem zpI {a b:Int}(h:a%gr.Q=b%gr.Q):pg gr a=pg gr b:=by unfold pg zaq;rw[h]
theorem zEJ {x a b:Int}(h:a%gr.Q=b%gr.Q):zaq gr x a=zaq gr x b:=by unfold zaq;rw[h]
theorem zsm (a:Int):pg gr (a%gr.Q)=pg gr a:=zpI (Int.emod_emod _ _)
theorem zjm (k:OkG gr) (a b:Int):zee gr [pg gr a,pg gr b]=pg gr (a+b):=by
 have hq:=k.q
 rw[←zsm a,←zsm b]
 unfold pg
 rw[zvC k (Int.emod_nonneg _ (by omega)) (Int.emod_nonneg _ (by omega))]
 exact zpI (Int.add_emod a b gr.Q).symm
theorem zux (k:OkG gr) (a e:Int):zaq gr (pg gr a) e=pg gr (a*e):=by
 have hq:=k.q
 rw[←zsm a,zEJ (b:=e%gr.Q) (Int.emod_emod _ _).symm]
 unfold pg
 rw[zvX k (zfC k) (Int.emod_nonneg _ (by omega)) (Int.emod_nonneg _ (by omega))]
 exact zpI (Int.mul_emod a e gr.Q).symm
theorem zzB (k:OkG gr):pg gr 0=1:=zub k
theorem zjG (k:OkG gr) (a:Int):zaH gr (pg gr a)=true:=zpk k (zfC k) a
open Classical in
def dl (gr:Group) (x:Int):Int:=if h:∃a,x=pg gr a then Classical.choose h else 0
theorem zyj (k:OkG gr) {x:Int}(h:zaH gr x=true):x=pg gr (dl gr x):=by
 have hg:=k.g
 have hq:=k.q
 have he:∃a,x=pg gr a:=by
  obtain⟨s,hs⟩:=zyV k (zfC k) (show gr.G≠1 by omega) h
  have hx:=(zlM h).1
  refine⟨s,?_⟩
  unfold pg zaq
  obtain⟨n,hn⟩:=Int.eq_ofNat_of_zero_le (show 0≤gr.Q by omega)
  have h3:=(zlM (zfC k)).2.2
  rw[hn]at h3⊢
  rw[Int.toNat_natCast]at h3
  rw[←Int.natCast_emod,Int.toNat_natCast,zjn h3,hs];omega
 unfold dl
 rw[dif_pos he]
 exact Classical.choose_spec he
end
theorem apL {P:Int→Prop}{l m:List Int}(h1:∀x∈l,P x) (h2:∀x∈m,P x):∀x∈l++m,P x:=fun x hx=>(List.mem_append.1 hx).elim (h1 x) (h2 x)
theorem wrL {gr:Group}(k:OkG gr) {z:Int}(hz:E9 gr.Q z):IntKind.i64.wrap (0-z)=0-z:=by
 have h1:=hz.1
 have h2:=hz.2
 have hq:=k.q
 have hp:=k.p
 exact zag (by omega) (by omega)
theorem exL {gr:Group}{l:List Int}(h:∀z∈l,E9 gr.Q z):l.all (zgA gr)=true:=List.all_eq_true.2 fun z hz=>zin.2 (h z hz)
theorem chL {gr:Group}(k:OkG gr) {s:ByteArray}{L:List Int}(hs:s.size≤40) (hl:L.length≤300) (hd:L.all zbq=true):zbj gr s L=some (chG gr s L,true)∧zbK gr s L=some (chG gr s L):=by
 refine⟨?_,zqa k (by omega) (by omega) hd⟩
 rw[zt7 k _ (by omega),if_pos (zwp k hs (by omega) hd)]
theorem wNL {m:Nat}(h:m≤1000000) {z:Int}(e:z=(m:Int)):IntKind.i64.wrap z=(m:Int):=by rw[e];exact zag (by omega) (by omega)
def znJ (a:Int):ByteArray:=⟨(Lib.itoa a).toArray⟩
theorem zwZ (u:Nat):Lib.itoa (u:Int)=Lib.decDigits u:=by unfold Lib.itoa;rw[if_neg (by omega)];simp
theorem zpv {d:Nat}(h:d<10):zdM [IntKind.u8.wrap (IntKind.i64.wrap (48+(d:Int)))]=⟨#[UInt8.ofNat (48+d)]⟩:=by
 rw[zag (n:=48+(d:Int)) (by omega) (by omega)]
 have e:IntKind.u8.wrap (48+(d:Int))=((48+d:Nat):Int):=by
  unfold IntKind.wrap
  simp[IntKind.bits,IntKind.signed];omega
 rw[e]
 unfold zdM
 simp only[List.map_cons,List.map_nil,Int.toNat_natCast]
theorem zwx:∀(n:Nat) {u:Nat},n≤17→u<10^(n+1)→zbm (n+1) (u:Int)=some ⟨(Lib.decDigits u).toArray⟩∧(Lib.decDigits u).length≤n+1
 |0,u,_,h=>by
  have h:u<10:=by simpa using h
  rw[zbm,if_pos (by simp;omega),Lib.decDigits,dif_pos h,zpv h]
  exact⟨rfl,by simp⟩
 |n+1,u,hn,h=>by
  by_cases h10:u<10
  ·rw[zbm,if_pos (by simp;omega),Lib.decDigits,dif_pos h10,zpv h10]
   exact⟨rfl,by simp⟩
  ·have hp:10^(n+1+1)=10^(n+1)*10:=Nat.pow_succ ..
   have hp2:(10:Nat)^(n+1+1)≤10^18*10:=by
    have:(10:Nat)^(n+1)≤10^18:=Nat.pow_le_pow_right (by omega) (by omega)
    omega
   obtain⟨i1,i2⟩:=zwx n (u:=u/10) (by omega) (by omega)
   have e1:IntKind.i64.wrap ((u:Int).tdiv 10)=((u/10:Nat):Int):=by
    rw[Int.tdiv_eq_ediv_of_nonneg (by omega)]
    by_cases hb:u<9223372036854775807
    ·rw[zag (by omega) (by omega)];rfl
    ·rw[zag (n:=(u:Int)/10) (by omega) (by omega)];rfl
   have e2:(u:Int).tmod 10=((u%10:Nat):Int):=by rw[Int.tmod_eq_emod_of_nonneg (by omega)];rfl
   have e3:Lib.decDigits u=Lib.decDigits (u/10)++[UInt8.ofNat (48+u%10)]:=by rw[Lib.decDigits,dif_neg h10]
   rw[zbm,if_neg (by simp;omega),e1,i1,e2,zpv (Nat.mod_lt _ (by omega)),e3]
   have hs:(⟨(Lib.decDigits (u/10)).toArray⟩:ByteArray).size=(Lib.decDigits (u/10)).length:=by simp[ByteArray.size]
   have hs1:(⟨#[UInt8.ofNat (48+u%10)]⟩:ByteArray).size=1:=rfl
   refine⟨?_,by simp;omega⟩
   rw[Option.bind_some,zcu (by rw[hs,hs1];omega)]
   congr 1
def labP:ByteArray:=⟨#[98,97,108,108,111,116,32]⟩
def zgv (a:Int):ByteArray:=labP++znJ a
theorem zsK {a:Int}(h0:0≤a) (h1:a≤999999):ziu a=some (znJ a)∧(znJ a).size≤6:=by
 obtain⟨u,rfl⟩:=Int.eq_ofNat_of_zero_le h0
 obtain⟨e,hs⟩:=zwx 5 (u:=u) (by omega) (by omega)
 have hd:znJ (u:Int)=⟨(Lib.decDigits u).toArray⟩:=by unfold znJ;rw[zwZ]
 rw[hd]
 exact⟨zxq (f:=fun n_=>zbm n_ (u:Int)) e fun n b=>zpt n _ b,by simp[ByteArray.size];omega⟩
theorem zys {a:Int}(h0:0≤a) (h1:a≤999999):(zgv a).size≤13:=by
 have:=(zsK h0 h1).2
 have h7:labP.size=7:=rfl
 unfold zgv
 rw[ByteArray.size_append,h7];omega
theorem ztW {a:Int}(h0:0≤a) (h1:a≤999999):zdI a=some (zgv a):=by
 have hs:=(zsK h0 h1).2
 have e:ze4 a=some (znJ a):=by unfold ze4;rw[zcu (by omega)];rfl
 have h7:(⟨#[98,97,108,108,111,116,32]⟩:ByteArray).size=7:=rfl
 unfold zdI
 rw[e,Option.bind_some,zcu (by rw[h7];omega)];rfl
theorem zuf {a:Int}(h0:0≤a) (h1:a≤999999):zfy a=some (zgv a):=by
 obtain⟨e,hs⟩:=zsK h0 h1
 have h7:(⟨#[98,97,108,108,111,116,32]⟩:ByteArray).size=7:=rfl
 unfold zfy
 rw[e,Option.bind_some,zcu (by rw[h7];omega)];rfl
section
variable {gr:Group}
theorem zA9 (k:Gb gr) {s:ByteArray}(hs:s.size≤1000) {x w:Int}(hx:0≤x∧x≤2100000000) (hw:0≤w∧w≤2100000000):zfw gr s [[gr.G]] [x] [w]=some (ziM gr s x w):=by
 have hq:=k.q
 have he:=zoi k s x w
 have hc:zbK gr s ([[gr.G]].flatten++[zaq gr gr.G x]++[zaq gr gr.G w])=some (zhW gr s x w):=by
  unfold zbK
  rw[zcu (by simp),zjb (by omega) (by simp) (zwz k x w),Option.bind_some,zcu (by omega),Int.tmod_eq_emod_of_nonneg (zc1.1 (zkh s _)).1];rfl
 unfold zfw
 rw[show ziM gr s x w=⟨[zaq gr gr.G w],[zhW gr s x w],[(w+zhW gr s x w*x)%gr.Q]⟩from rfl]
 rw[zou k,zou k,Option.bind_some,Option.bind_some,zyP (by simp) (by simp) (by simp),Option.bind_some,hc,Option.bind_some]
 generalize zhW gr s x w=c at he hc
 have hm:0≤c*x:=Int.mul_nonneg he.1 hx.1
 have hm2:c*x≤2000000000*2100000000:=Int.mul_le_mul (by omega) hx.2 hx.1 (by omega)
 have hl:zak (σ:=List Int×List Int×List Int) (β:=List Int×List Int×List Int) (fun i18 s17=>(ix [x] i18).bind fun x24=>(ix [w] i18).bind fun x25=>gd (gr.Q≠0)<|gd ((s17.2.2.length+1)*8≤140737488355328∧s17.2.2.length+1≤4611686018427387904)<|
  some (.go (s17.1,s17.2.1,s17.2.2++[(IntKind.i64.wrap (x25+(IntKind.i64.wrap (c*x24)))).tmod gr.Q]))) (fun s17=>(s17.1,s17.2.1,s17.2.2)) ([x].length) 0 ([zaq gr gr.G w],[c],[])=some ([zaq gr gr.G w],[c],[(w+c*x)%gr.Q]):=by
  refine zah (zbe (fun i s=>s=if i=0 then([zaq gr gr.G w],[c],[])else([zaq gr gr.G w],[c],[(w+c*x)%gr.Q])) rfl ?_ fun s h=>h)
  rintro i s hi rfl
  have hi:i<1:=hi
  obtain rfl:i=0:=by omega
  refine zbi (l:=[x]) (by simp) (zbi (l:=[w]) (by simp) (zap (by omega) (zap (by simp) (zae ?_))))
  show(_,_,[(IntKind.i64.wrap (w+IntKind.i64.wrap (c*x))).tmod gr.Q])=_
  rw[zag (n:=c*x) (by omega) (by omega),zag (by omega) (by omega),Int.tmod_eq_emod_of_nonneg (by omega)];rfl
 rw[hl,Option.bind_some]
def stV (gr:Group) (key:Int) (c:Cipher) (lo:Int) (n:Nat):List EqualLog:=(List.range n).map fun(i:Nat)=>⟨gr.G,c.A,key,zee gr [c.B,zaq gr gr.G (0-(lo+(i:Int)))]⟩
theorem zlj (gr:Group) (key:Int) (c:Cipher) (lo:Int) (n:Nat):(stV gr key c lo n).length=n:=by simp[stV]
theorem zrM (k:OkG gr) {key:Int}{c:Cipher}(hc:znW gr c=true) {lo:Int}(h0:0≤lo∧lo≤1000) {n:Nat}(hn:n≤1000) {PW:Int→Option Int}{ML:List Int→Option Int}(hP:∀e,PW e=some (zaq gr gr.G e)) (hM:∀x y,R9 x→R9 y→ML [x,y]=some (zee gr [x,y])):za8 (σ:=(List EqualLog)×Int) (fun s4=>
 if decide (s4.2≤lo+(n:Int)-1)=true then(
 (PW (IntKind.i64.wrap (0-s4.2))).bind fun z10=>
 (ML [c.B,z10]).bind fun z11=>
 gd ((s4.1.length+1)*32≤140737488355328∧s4.1.length+1≤4611686018427387904)<|
 some (.go (s4.1++[(EqualLog.mk gr.G c.A key z11)],IntKind.i64.wrap (s4.2+1))))else(
 some (.out s4.1))) ([],lo)=some (stV gr key c lo n):=by
 have hb:R9 c.B:=by
  simp only[znW,Bool.and_eq_true]at hc
  exact zdL k hc.2
 refine zah (zgD n (fun i s=>s=(stV gr key c lo i,lo+(i:Int))∧i≤n) ⟨by simp[stV],by omega⟩ ?_ ?_)
 ·rintro i s hi ⟨rfl,_⟩
  refine zke (by simp;omega) ?_
  dsimp only
  rw[zag (n:=0-(lo+(i:Int))) (by omega) (by omega),hP,Option.bind_some,hM _ _ hb (zc8 k _ _),Option.bind_some]
  refine zap (by rw[zlj];omega) (zae ⟨?_,by omega⟩)
  rw[zag (n:=lo+(i:Int)+1) (by omega) (by omega)]
  refine Prod.ext ?_ (by show lo+(i:Int)+1=lo+((i+1:Nat):Int);omega)
  show stV gr key c lo i++_=stV gr key c lo (i+1)
  simp[stV,List.range_succ]
 rintro s ⟨rfl,_⟩
 exact zbU (by simp;omega) (zae rfl)
theorem zwF (k:OkG gr) {key:Int}{c:Cipher}(hc:znW gr c=true) {lo hi:Int}(h0:0≤lo∧lo≤1000) {n:Nat}(hn:n≤1000) (hh:hi=lo+(n:Int)-1):zbx gr key c lo hi=some (stV gr key c lo n):=by
 subst hh
 unfold zbx
 rw[zrM k hc h0 hn (fun e=>pwI k (r_G k) e) (fun x y hx hy=>m2I k hx hy)];rfl
theorem zwC (k:OkG gr) {key:Int}{c:Cipher}(hc:znW gr c=true) {lo hi:Int}(h0:0≤lo∧lo≤1000) {n:Nat}(hn:n≤1000) (hh:hi=lo+(n:Int)-1):zck gr key c lo hi=some (stV gr key c lo n):=by
 subst hh
 unfold zck
 rw[zrM k hc h0 hn (fun e=>pwS k (r_G k) e) (fun x y hx hy=>m2S k hx hy)];rfl
end
def q0:EqualLog:=⟨0,0,0,0⟩
def siV (gr:Group) (g y c z:Int):Int:=zee gr [zaq gr g z,zaq gr y (0-c)]
def ooN (gr:Group) (l:List EqualLog) (m:Nat) (w:Int) (coins:List Int):Nat→List Int×List Int×List Int×Nat
 |0=>([],[],[],0)
 |i+1=>
  let s:=ooN gr l m w coins i
  let e:=l.getD i q0
  if i=m then(s.1++[zaq gr e.G1 w,zaq gr e.G2 w],s.2.1++[0],s.2.2.1++[0],s.2.2.2)
  else(s.1++[siV gr e.G1 e.Y1 (coins.getD s.2.2.2 0) (coins.getD (s.2.2.2+1) 0),siV gr e.G2 e.Y2 (coins.getD s.2.2.2 0) (coins.getD (s.2.2.2+1) 0)],s.2.1++[coins.getD s.2.2.2 0],s.2.2.1++[coins.getD (s.2.2.2+1) 0],s.2.2.2+2)
def flE (l:List EqualLog):List Int:=l.flatMap fun e=>[e.G1,e.Y1,e.G2,e.Y2]
def ooE (gr:Group) (s:ByteArray) (l:List EqualLog) (S:List Int×List Int×List Int×Nat):Int:=chG gr s (flE l++S.1)
def ooC (gr:Group) (s:ByteArray) (l:List EqualLog) (S:List Int×List Int×List Int×Nat):Int:=(ooE gr s l S-smN gr.Q S.2.1 l.length)%gr.Q
def ooV (gr:Group) (s:ByteArray) (l:List EqualLog) (m:Nat) (x:Int) (coins:List Int):Proof:=
 let w:=coins.getD (coins.length-1) 0
 let S:=ooN gr l m w coins l.length
 ⟨S.1,S.2.1.set m (ooC gr s l S),S.2.2.1.set m ((w+ooC gr s l S*x)%gr.Q)⟩
structure OoOk (gr:Group) (s:ByteArray) (l:List EqualLog) (m:Nat) (x:Int) (coins:List Int):Prop where
 hs:s.size≤40
 hn:1≤l.length∧l.length≤8
 hl:∀e∈l,zaH gr e.G1=true∧zaH gr e.Y1=true∧zaH gr e.G2=true∧zaH gr e.Y2=true
 hm:m<l.length
 hx:E9 gr.Q x
 cl:coins.length=2*l.length-1
 hc:∀z∈coins,E9 gr.Q z
 ht:zaq gr (l.getD m q0).G1 x=(l.getD m q0).Y1∧zaq gr (l.getD m q0).G2 x=(l.getD m q0).Y2
section
variable {gr:Group}{s:ByteArray}{l:List EqualLog}{m:Nat}{x w:Int}{coins:List Int}
theorem zoX {i:Nat}(hi:i<l.length):l.getD i q0=l[i]:=by simp[List.getD,hi]
theorem znd (gr:Group) (l:List EqualLog) (m:Nat) (w:Int) (coins:List Int):∀i,(ooN gr l m w coins i).2.2.2=if i≤m then 2*i else 2*(i-1)
 |0=>by simp[ooN]
 |i+1=>by
  have h:=znd gr l m w coins i
  rw[ooN]
  by_cases e:i=m
  ·subst e
   rw[if_pos rfl,if_neg (by omega)]
   show(ooN gr l i w coins i).2.2.2=_
   rw[h,if_pos (Nat.le_refl _)];omega
  ·rw[if_neg e]
   show(ooN gr l m w coins i).2.2.2+2=_
   rw[h]
   by_cases hl:i≤m
   ·rw[if_pos hl,if_pos (by omega)];omega
   ·rw[if_neg hl,if_neg (by omega)];omega
theorem zjs (gr:Group) (l:List EqualLog) (m:Nat) (w:Int) (coins:List Int):∀i,(ooN gr l m w coins i).1.length=2*i∧(ooN gr l m w coins i).2.1.length=i∧(ooN gr l m w coins i).2.2.1.length=i
 |0=>⟨rfl,rfl,rfl⟩
 |i+1=>by
  obtain⟨h1,h2,h3⟩:=zjs gr l m w coins i
  rw[ooN]
  by_cases e:i=m
  ·rw[if_pos e];simp[h1,h2,h3];omega
  ·rw[if_neg e];simp[h1,h2,h3];omega
theorem zCH (k:OkG gr) (g y c z:Int):R9 (siV gr g y c z):=zzq k (zc8 k _ _) (zc8 k _ _)
theorem zoY (k:OkG gr) (O:OoOk gr s l m x coins) (w:Int):∀i,i≤l.length→(∀z∈(ooN gr l m w coins i).1,R9 z)∧∀z∈(ooN gr l m w coins i).2.1,E9 gr.Q z
 |0,_=>⟨by intro z hz;simp[ooN]at hz,by intro z hz;simp[ooN]at hz⟩
 |i+1,hi=>by
  obtain⟨h1,h2⟩:=zoY k O w i (by omega)
  have hq:=k.q
  have hnx:=znd gr l m w coins i
  have hc:i≠m→(ooN gr l m w coins i).2.2.2+1<coins.length:=fun e=>by
   have:=O.cl;have:=O.hm
   rw[hnx];split<;>omega
  rw[ooN]
  by_cases e:i=m
  ·rw[if_pos e]
   refine⟨apL h1 fun z hz=>?_,apL h2 fun z hz=>?_⟩
   ·simp only[List.mem_cons,List.not_mem_nil,or_false]at hz
    rcases hz with rfl|rfl<;>exact zc8 k _ _
   ·rw[List.mem_singleton]at hz;subst hz;exact⟨Int.le_refl 0,by omega⟩
  ·rw[if_neg e]
   refine⟨apL h1 fun z hz=>?_,apL h2 fun z hz=>?_⟩
   ·simp only[List.mem_cons,List.not_mem_nil,or_false]at hz
    rcases hz with rfl|rfl<;>exact zCH k _ _ _ _
   ·rw[List.mem_singleton]at hz;subst hz;exact zhE O.hc (by have:=hc e;omega)
theorem zqA (l:List EqualLog):(flE l).length=4*l.length:=by
 induction l with
 |nil=>rfl
 |cons e l ih=>show([e.G1,e.Y1,e.G2,e.Y2]++flE l).length=_;simp[ih];omega
theorem zrA {l:List EqualLog}(hl:l.length≤1000):zak (σ:=(List Int)) (fun i5 s4=>
 (ix l i5).bind fun x11=>
 gd ((s4.length+4)*8≤140737488355328∧s4.length+4≤4611686018427387904)<|
 some (.go (s4++[x11.G1,x11.Y1,x11.G2,x11.Y2]))) (fun s4=>s4) (l.length) 0 []=some (flE l):=by
 refine zah (zbe (fun i s=>s=flE (l.take i)∧i≤l.length) ⟨rfl,by omega⟩ ?_ fun s h=>by rw[h.1,List.take_length])
 rintro i s hi ⟨rfl,_⟩
 have hn:(flE (l.take i)).length=4*i:=by rw[zqA,List.length_take];omega
 refine zbi hi (zap (by omega) (zae ⟨?_,by omega⟩))
 rw[List.take_succ_eq_append_getElem hi]
 show flE (l.take i)++_=flE (l.take i++[l[i]])
 unfold flE
 rw[List.flatMap_append];rfl
theorem zuq (k:OkG gr) (O:OoOk gr s l m x coins) {S:List Int}(hS:∀z∈S,R9 z):(flE l++S).all zbq=true:=by
 rw[List.all_append,zo1 hS,Bool.and_true]
 refine zo1 fun z hz=>?_
 obtain⟨e,he,hz⟩:=List.mem_flatMap.1 hz
 obtain⟨h1,h2,h3,h4⟩:=O.hl e he
 simp only[List.mem_cons,List.not_mem_nil,or_false]at hz
 rcases hz with rfl|rfl|rfl|rfl
 ·exact zdL k h1
 ·exact zdL k h2
 ·exact zdL k h3
 exact zdL k h4
theorem zy0 (k:OkG gr) {e:EqualLog}{c z:Int}(he:zaH gr e.G1=true∧zaH gr e.Y1=true∧zaH gr e.G2=true∧zaH gr e.Y2=true) (hc:E9 gr.Q c):zb4 gr e c z=some (siV gr e.G1 e.Y1 c z,siV gr e.G2 e.Y2 c z):=by
 unfold zb4
 rw[wrL k hc]
 exact zah (zad (pwI k (zdL k he.1) _) (zad (pwI k (zdL k he.2.1) _) (zad (m2I k (zc8 k _ _) (zc8 k _ _)) (zad (pwI k (zdL k he.2.2.1) _) (zad (pwI k (zdL k he.2.2.2) _) (zad (m2I k (zc8 k _ _) (zc8 k _ _)) (zae rfl)))))))
theorem zwy (k:OkG gr) (O:OoOk gr s l m x coins):zcv gr s l (m:Int) x coins=some (ooV gr s l m x coins,true):=by
 have hq:=k.q
 have hp:=k.p
 have hn:=O.hn
 have hm:=O.hm
 have hcl:=O.cl
 have w1:IntKind.i64.wrap ((l.length:Int)-1)=(l.length:Int)-1:=zag (by omega) (by omega)
 have w2:IntKind.i64.wrap (IntKind.i64.wrap (2*(l.length:Int))-1)=((2*l.length-1:Nat):Int):=by
  rw[zag (n:=2*(l.length:Int)) (by omega) (by omega),zag (by omega) (by omega)];omega
 have w3:IntKind.i64.wrap ((coins.length:Int)-1)=((coins.length-1:Nat):Int):=by rw[zag (by omega) (by omega)];omega
 have hst:zbY gr l=some true:=by
  unfold zbY
  have hcf:zal l gr.P gr.Q gr.G=some (l.any fun _=>false):=zy6 (f:=fun e=>zbF e gr.P gr.Q gr.G) fun e he=>by
   obtain⟨h1,h2,h3,h4⟩:=O.hl e he
   have hh:zcb gr e=some true:=by
    unfold zcb
    rw[zqs k]
    simp[h1,h2,h3,h4]
   unfold zbF
   show(zcb gr e).bind _=_
   rw[hh];rfl
  rw[zc3,hcf]
  have:(decide ((1:Int)≤(l.length:Int))&&decide ((l.length:Int)≤8))=true:=by simp;omega
  rw[this]
  simp
 have hti:zds gr (l.getD m q0) x=some true:=by
  have hg:=zoX hm
  obtain⟨h1,h2,h3,h4⟩:=O.hl _ (List.getElem_mem hm)
  rw[←hg]at h1 h3
  unfold zds
  rw[pwI k (zdL k h1),Option.bind_some,O.ht.1,beq_self_eq_true,if_pos rfl,pwI k (zdL k h3),O.ht.2]
  simp
 have hc9:[x].all (zgA gr)=true:=by simp[zin.2 O.hx]
 have hw:=O.hc
 unfold zcv
 have hlb:zcT s=some true:=by unfold zcT;rw[decide_eq_true (by have:=O.hs;omega)]
 have hwi:zaw (m:Int) 0 ((l.length:Int)-1)=some true:=by rw[zc3];congr 1;simp;omega
 rw[zmn,zlA.2 k,hlb,hst,w1,hwi,zr1 (by omega) (by omega),zin.2 O.hx,w2,zlf (by omega) (by omega),exL O.hc,w3]
 have hS:=zi1 (σ:=List Int×List Int×List Int×Int) (γ:=List Int×List Int×List Int) (n:=l.length) (stop:=fun s41=>(s41.1,s41.2.1,s41.2.2.1)) (s0:=([],[],[],0)) (body:=fun i42 s41=>
  (ix l i42).bind fun x48=>
  ((if(i42==(m:Int))=true then(
  (zao gr x48.G1 (coins.getD (coins.length-1) 0)).bind fun z53=>
  (zao gr x48.G2 (coins.getD (coins.length-1) 0)).bind fun z54=>
  some (s41.2.2.2,0,0,z53,z54))else(
  (ix coins s41.2.2.2).bind fun x55=>
  (ix coins (IntKind.i64.wrap (s41.2.2.2+1))).bind fun x56=>
  (zb4 gr x48 x55 x56).bind fun z57=>
  some (IntKind.i64.wrap (s41.2.2.2+2),x55,x56,z57.1,z57.2)):Option ((Int×Int×Int×Int×Int))).bind fun x51=>
  gd ((s41.1.length+2)*8≤140737488355328∧s41.1.length+2≤4611686018427387904)<|
  gd ((s41.2.1.length+1)*8≤140737488355328∧s41.2.1.length+1≤4611686018427387904)<|
  gd ((s41.2.2.1.length+1)*8≤140737488355328∧s41.2.2.1.length+1≤4611686018427387904)<|
  some (.go (s41.1++[x51.2.2.2.1,x51.2.2.2.2],s41.2.1++[x51.2.1],s41.2.2.1++[x51.2.2.1],x51.1))))
  (fun i=>let S:=ooN gr l m (coins.getD (coins.length-1) 0) coins i;(S.1,S.2.1,S.2.2.1,(S.2.2.2:Int))) rfl fun i hi=>by
    have hnx:=znd gr l m (coins.getD (coins.length-1) 0) coins i
    obtain⟨l1,l2,l3⟩:=zjs gr l m (coins.getD (coins.length-1) 0) coins i
    have hO:=O.hl _ (List.getElem_mem hi)
    have hg:=zoX hi
    refine zbi hi ?_
    dsimp only
    rw[ooN]
    by_cases e:i=m
    ·rw[if_pos e]
     refine zaC (ψ:=(· =(((ooN gr l m (coins.getD (coins.length-1) 0) coins i).2.2.2:Int),0,0,zaq gr l[i].G1 (coins.getD (coins.length-1) 0),zaq gr l[i].G2 (coins.getD (coins.length-1) 0)))) (zke (by simp[e]) (zad (pwI k (zdL k hO.1) _) (zad (pwI k (zdL k hO.2.2.1) _) (zae rfl)))) ?_
     rintro _ rfl
     refine zap (by omega) (zap (by omega) (zap (by omega) (zae ?_)))
     rw[hg]
    ·rw[if_neg e]
     have hc:(ooN gr l m (coins.getD (coins.length-1) 0) coins i).2.2.2+1<coins.length:=by rw[hnx];split<;>omega
     generalize hS0:ooN gr l m (coins.getD (coins.length-1) 0) coins i=S at l1 l2 l3 hc⊢
     have w5:IntKind.i64.wrap ((S.2.2.2:Int)+1)=((S.2.2.2+1:Nat):Int):=wNL (by omega) (by omega)
     have w6:IntKind.i64.wrap ((S.2.2.2:Int)+2)=((S.2.2.2+2:Nat):Int):=wNL (by omega) (by omega)
     refine zaC (ψ:=(· =(((S.2.2.2+2:Nat):Int),coins.getD S.2.2.2 0,coins.getD (S.2.2.2+1) 0,siV gr l[i].G1 l[i].Y1 (coins.getD S.2.2.2 0) (coins.getD (S.2.2.2+1) 0),siV gr l[i].G2 l[i].Y2 (coins.getD S.2.2.2 0) (coins.getD (S.2.2.2+1) 0)))) (zbU (by simp;omega) (zad (zfQ (by omega)) ?_)) ?_
     ·rw[w5,w6]
      exact zad (zfQ (by omega)) (zad (zy0 k hO (zhE O.hc (by omega))) (zae rfl))
     rintro _ rfl
     refine zap (by omega) (zap (by omega) (zap (by omega) (zae ?_)))
     rw[hg]
 have hx0:ix l (m:Int)=some (l.getD m q0):=by rw[zeq hm,zoX hm]
 have hE:((coins.length:Int) !=((2*l.length-1:Nat):Int))=false:=by rw[hcl];simp
 rw[hE]
 refine zah (zaC (ψ:=(· =false)) (zad rfl (zbU rfl (zad rfl (zbU rfl (zad rfl (zbU rfl (zad rfl (zbU rfl (zad rfl (zbU rfl (zbU rfl (zad rfl (zbU rfl (zad hx0 (zad hti (zae rfl)))))))))))))))) ?_)
 rintro _ rfl
 refine zbU rfl (zad (zfQ (by omega)) (zad hS ?_))
 obtain⟨l1,l2,l3⟩:=zjs gr l m (coins.getD (coins.length-1) 0) coins l.length
 obtain⟨g1,g2⟩:=zoY k O (coins.getD (coins.length-1) 0) l.length (Nat.le_refl _)
 have hV:ooV gr s l m x coins=(let w:=coins.getD (coins.length-1) 0;let S:=ooN gr l m w coins l.length;⟨S.1,S.2.1.set m (ooC gr s l S),S.2.2.1.set m ((w+ooC gr s l S*x)%gr.Q)⟩):=rfl
 rw[hV]
 dsimp only
 have hwb:E9 gr.Q (coins.getD (coins.length-1) 0):=zhE O.hc (by omega)
 generalize ooN gr l m (coins.getD (coins.length-1) 0) coins l.length=S at l1 l2 l3 g1 g2⊢
 generalize coins.getD (coins.length-1) 0=w at hwb⊢
 have hfl:=zqA l
 have hch:zbQ gr s l S.1=some (ooE gr s l S,true):=by
  unfold zbQ
  rw[zrA (by omega)]
  exact zah (zad rfl (zap (by omega) (zad (chL k O.hs (by rw[List.length_append];omega) (zuq k O g1)).1 (zae rfl))))
 have hEb:E9 gr.Q (ooE gr s l S):=zu9 k _ _
 have hsm:E9 gr.Q (smN gr.Q S.2.1 S.2.1.length):=zng (by omega) _ _
 refine zad hch (zbU rfl (zad (zzv (by omega) g2).1 ?_))
 have e1:(IntKind.i64.wrap (ooE gr s l S-smN gr.Q S.2.1 S.2.1.length))%gr.Q=ooC gr s l S:=by
  unfold ooC
  rw[l2]at hsm⊢
  have h1:=hEb.1;have h2:=hEb.2;have h3:=hsm.1;have h4:=hsm.2
  rw[zag (by omega) (by omega)]
 have hC:E9 gr.Q (ooC gr s l S):=zj7 (by omega) _
 refine zad (zpG k _) ?_
 rw[e1]
 have hmm:m<S.2.1.length:=by omega
 refine zad (zfQ hmm) (zad (a:=ooC gr s l S) ?_ ?_)
 ·rw[Int.toNat_natCast,zeq (show m<(S.2.1.set m (ooC gr s l S)).length by simpa using hmm)];simp
 refine zad (zpG k _) (zad (zfQ (show m<S.2.2.1.length by omega)) (zae ?_))
 rw[(zyx (q:=gr.Q) (by omega) hwb hC O.hx).1,Int.toNat_natCast]
theorem zuS {q:Int}{l m:List Int}:∀{i:Nat},i≤l.length→smN q (l++m) i=smN q l i
 |0,_=>rfl
 |i+1,h=>by
  show(smN q (l++m) i+(l++m).getD i 0)%q=(smN q l i+l.getD i 0)%q
  rw[zuS (by omega)]
  simp[List.getD,List.getElem?_append_left (show i<l.length by omega)]
theorem zrV {q a:Int}{l:List Int}{i:Nat}(h:l.length=i):smN q (l++[a]) (i+1)=(smN q l i+a)%q:=by
 show(smN q (l++[a]) i+(l++[a]).getD i 0)%q=_
 rw[zuS (by omega)]
 subst h;simp[List.getD]
theorem zwI (k:OkG gr) (O:OoOk gr s l m x coins):zdP gr s l (m:Int) x coins=some (ooV gr s l m x coins):=by
 have hq:=k.q
 have hp:=k.p
 have hn:=O.hn
 have hm:=O.hm
 have hcl:=O.cl
 have w3:IntKind.i64.wrap ((coins.length:Int)-1)=((coins.length-1:Nat):Int):=by rw[zag (by omega) (by omega)];omega
 unfold zdP
 rw[w3]
 have hS:=zi1 (σ:=List Int×List Int×List Int×List Int×Int) (γ:=List Int×List Int×List Int×Int) (n:=l.length) (stop:=fun s27=>(s27.2.1,s27.2.2.1,s27.2.2.2.1,s27.2.2.2.2)) (s0:=(coins,[],[],[],0)) (body:=fun i28 s27=>
  (((ix l i28).bind fun x37=>
  if(i28==(m:Int))=true then(
  (zaJ gr x37.G1 (coins.getD (coins.length-1) 0)).bind fun z39=>
  (zaJ gr x37.G2 (coins.getD (coins.length-1) 0)).bind fun z40=>
  gd ((s27.2.1.length+2)*8≤140737488355328∧s27.2.1.length+2≤4611686018427387904)<|
  gd ((s27.2.2.1.length+1)*8≤140737488355328∧s27.2.2.1.length+1≤4611686018427387904)<|
  gd ((s27.2.2.2.1.length+1)*8≤140737488355328∧s27.2.2.2.1.length+1≤4611686018427387904)<|
  some (s27.1,s27.2.1++[z39,z40],s27.2.2.1++[0],s27.2.2.2.1++[0],s27.2.2.2.2))else(
  (ix s27.1 0).bind fun x41=>
  (ix s27.1 1).bind fun x42=>
  gd (2≤s27.1.length∧s27.1.length≤s27.1.length)<|
  (zaJ gr x37.G1 x42).bind fun z43=>
  (zaJ gr x37.Y1 (IntKind.i64.wrap (0-x41))).bind fun z44=>
  (zbD gr [z43,z44]).bind fun z45=>
  (zaJ gr x37.G2 x42).bind fun z46=>
  (zaJ gr x37.Y2 (IntKind.i64.wrap (0-x41))).bind fun z47=>
  (zbD gr [z46,z47]).bind fun z48=>
  gd ((s27.2.1.length+2)*8≤140737488355328∧s27.2.1.length+2≤4611686018427387904)<|
  gd ((s27.2.2.1.length+1)*8≤140737488355328∧s27.2.2.1.length+1≤4611686018427387904)<|
  gd ((s27.2.2.2.1.length+1)*8≤140737488355328∧s27.2.2.2.1.length+1≤4611686018427387904)<|
  gd (gr.Q≠0)<|
  some ((s27.1.take s27.1.length).drop 2,s27.2.1++[z45,z48],s27.2.2.1++[x41],s27.2.2.2.1++[x42],(IntKind.i64.wrap (s27.2.2.2.2+x41)).tmod gr.Q)):Option ((List Int×List Int×List Int×List Int×Int))).bind fun x36=>
  some (.go (x36.1,x36.2.1,x36.2.2.1,x36.2.2.2.1,x36.2.2.2.2))))
  (fun i=>let S:=ooN gr l m (coins.getD (coins.length-1) 0) coins i;(coins.drop S.2.2.2,S.1,S.2.1,S.2.2.1,smN gr.Q S.2.1 i)) rfl fun i hi=>by
    have hnx:=znd gr l m (coins.getD (coins.length-1) 0) coins i
    obtain⟨l1,l2,l3⟩:=zjs gr l m (coins.getD (coins.length-1) 0) coins i
    have hO:=O.hl _ (List.getElem_mem hi)
    have hg:=zoX hi
    dsimp only
    rw[ooN]
    generalize hS0:ooN gr l m (coins.getD (coins.length-1) 0) coins i=S at hnx l1 l2 l3⊢
    have hse:=zng (show 0<gr.Q by omega) S.2.1 i
    by_cases e:i=m
    ·rw[if_pos e]
     refine zaC (ψ:=(· =(coins.drop S.2.2.2,S.1++[zaq gr l[i].G1 (coins.getD (coins.length-1) 0),zaq gr l[i].G2 (coins.getD (coins.length-1) 0)],S.2.1++[0],S.2.2.1++[0],smN gr.Q S.2.1 i))) (zbi hi (zke (by simp[e]) (zad (pwS k (zdL k hO.1) _) (zad (pwS k (zdL k hO.2.2.1) _) (zap (by omega) (zap (by omega) (zap (by omega) (zae rfl)))))))) ?_
     rintro _ rfl
     refine zae ?_
     dsimp only
     rw[hg,zrV l2,Int.add_zero,Int.emod_eq_of_lt hse.1 hse.2]
    ·rw[if_neg e]
     have hc:S.2.2.2+1<coins.length:=by rw[hnx];split<;>omega
     have hca:=zhE O.hc (i:=S.2.2.2) (by omega)
     have e0:ix (coins.drop S.2.2.2) 0=some (coins.getD S.2.2.2 0):=by
      rw[show(0:Int)=((0:Nat):Int)from rfl,zfQ (by rw[List.length_drop];omega)];simp[List.getD]
     have e1:ix (coins.drop S.2.2.2) 1=some (coins.getD (S.2.2.2+1) 0):=by
      rw[show(1:Int)=((1:Nat):Int)from rfl,zfQ (by rw[List.length_drop];omega)];simp[List.getD]
     have hse1:=hse.1
     have hse2:=hse.2
     have hca1:=hca.1
     have hca2:=hca.2
     have e2:(IntKind.i64.wrap (smN gr.Q S.2.1 i+coins.getD S.2.2.2 0)).tmod gr.Q=(smN gr.Q S.2.1 i+coins.getD S.2.2.2 0)%gr.Q:=by
      rw[zag (by omega) (by omega),Int.tmod_eq_emod_of_nonneg (by omega)]
     refine zaC (ψ:=(· =(coins.drop (S.2.2.2+2),S.1++[siV gr l[i].G1 l[i].Y1 (coins.getD S.2.2.2 0) (coins.getD (S.2.2.2+1) 0),siV gr l[i].G2 l[i].Y2 (coins.getD S.2.2.2 0) (coins.getD (S.2.2.2+1) 0)],S.2.1++[coins.getD S.2.2.2 0],S.2.2.1++[coins.getD (S.2.2.2+1) 0],(smN gr.Q S.2.1 i+coins.getD S.2.2.2 0)%gr.Q))) (zbi hi (zbU (by simp;omega) (zad e0 (zad e1 (zap (by rw[List.length_drop];omega) ?_))))) ?_
     ·rw[wrL k hca]
      refine zad (pwS k (zdL k hO.1) _) (zad (pwS k (zdL k hO.2.1) _) (zad (m2S k (zc8 k _ _) (zc8 k _ _)) (zad (pwS k (zdL k hO.2.2.1) _) (zad (pwS k (zdL k hO.2.2.2) _) (zad (m2S k (zc8 k _ _) (zc8 k _ _)) (zap (by omega) (zap (by omega) (zap (by omega) (zap (by omega) (zae ?_))))))))))
      rw[e2,List.take_length,List.drop_drop];rfl
     rintro _ rfl
     refine zae ?_
     dsimp only
     rw[hg,zrV l2]
 refine zah (zad (zfQ (by omega)) (zad hS ?_))
 obtain⟨l1,l2,l3⟩:=zjs gr l m (coins.getD (coins.length-1) 0) coins l.length
 obtain⟨g1,g2⟩:=zoY k O (coins.getD (coins.length-1) 0) l.length (Nat.le_refl _)
 have hV:ooV gr s l m x coins=(let w:=coins.getD (coins.length-1) 0;let S:=ooN gr l m w coins l.length;⟨S.1,S.2.1.set m (ooC gr s l S),S.2.2.1.set m ((w+ooC gr s l S*x)%gr.Q)⟩):=rfl
 rw[hV]
 dsimp only
 have hwb:E9 gr.Q (coins.getD (coins.length-1) 0):=zhE O.hc (by omega)
 generalize ooN gr l m (coins.getD (coins.length-1) 0) coins l.length=S at l1 l2 l3 g1 g2⊢
 generalize coins.getD (coins.length-1) 0=w at hwb⊢
 have hfl:=zqA l
 have hch:zfu gr s l S.1=some (ooE gr s l S):=by
  unfold zfu
  rw[zrA (by omega)]
  exact zah (zad rfl (zap (by omega) (zad (chL k O.hs (by rw[List.length_append];omega) (zuq k O g1)).2 (zae rfl))))
 have hEb:E9 gr.Q (ooE gr s l S):=zu9 k _ _
 have hsm:E9 gr.Q (smN gr.Q S.2.1 l.length):=zng (by omega) _ _
 have e1:(IntKind.i64.wrap (ooE gr s l S-smN gr.Q S.2.1 l.length))%gr.Q=ooC gr s l S:=by
  unfold ooC
  have h1:=hEb.1;have h2:=hEb.2;have h3:=hsm.1;have h4:=hsm.2
  rw[zag (by omega) (by omega)]
 have hC:E9 gr.Q (ooC gr s l S):=zj7 (by omega) _
 refine zad hch (zad (zqi (by omega) (by omega)) ?_)
 rw[e1]
 refine zad (zfQ (show m<S.2.1.length by omega)) (zap (by omega) (zad (zfQ (show m<S.2.2.1.length by omega)) (zae ?_)))
 rw[(zyx (q:=gr.Q) (by omega) hwb hC O.hx).2,Int.toNat_natCast]
end
theorem zuZ {ct:Contest}(k:OkC ct) {v:List Int}(hv:zfn ct v=true):zce ct v=some (zfI ct v):=by
 unfold zce zfI
 unfold zfn at hv
 rcases k.k with⟨k1|k3,ho,hm,hp⟩|⟨k2,ho,hp,hm⟩|⟨k4,ho,hm,hp⟩
 ·simp only[k1,if_true,Bool.and_eq_true]at hv⊢
  rw[zsq,if_pos (show((1:Int)==1)=true from rfl),zka (by omega) hv.1.1];rfl
 ·simp only[k3,show¬(3:Int)=1 by omega,show¬(3:Int)=2 by omega,if_false,if_true,Bool.and_eq_true]at hv⊢
  have hl:=zdg.1 hv.2.2
  simp only[show((3:Int)==1)=false from rfl,show((3:Int)==3)=true from rfl,Bool.false_eq_true,if_false,if_true]
  have e:zak (σ:=(List Int)) (fun i8 s7=>(ix v i8).bind fun x14=>gd ((s7.length+1)*8≤140737488355328∧s7.length+1≤4611686018427387904)<|some (.go (s7++[IntKind.i64.wrap (x14+1)]))) (fun s7=>s7) (v.length) 0 []=some (v.map (· +1)):=by
   refine zah (zbe (fun i s=>s=(v.take i).map (· +1)∧i≤v.length) ⟨rfl,by omega⟩ ?_ fun s h=>by rw[h.1,List.take_length])
   rintro i s hi ⟨rfl,_⟩
   have hx:=zdg.1 (List.all_eq_true.1 hv.1 v[i] (List.getElem_mem hi))
   refine zbi hi (zap (by simp;omega) (zae ⟨?_,by omega⟩))
   rw[zag (n:=v[i]+1) (by omega) (by omega),List.take_succ_eq_append_getElem hi,List.map_append];rfl
  rw[e];rfl
 ·simp only[k2,show¬(2:Int)=1 by omega,show¬(2:Int)=3 by omega,if_false,if_true,Bool.and_eq_true,decide_eq_true_eq]at hv⊢
  have:=hv.1
  simp only[show((2:Int)==1)=false from rfl,show((2:Int)==3)=false from rfl,Bool.false_eq_true,if_false]
  unfold zcD
  rw[zcu (by omega)];rfl
 simp only[k4,show¬(4:Int)=1 by omega,show¬(4:Int)=2 by omega,show¬(4:Int)=3 by omega,if_false,Bool.and_eq_true]at hv⊢
 have hl:=zdg.1 hv.2
 simp only[show((4:Int)==1)=false from rfl,show((4:Int)==3)=false from rfl,Bool.false_eq_true,if_false]
 unfold zcD
 rw[zcu (by omega)];rfl
theorem zzK {ct:Contest}(k:OkC ct) {v:List Int}(hv:zfn ct v=true):zdq ct v=some (zmL ct v):=by
 obtain⟨_,h1,h2⟩:=zqL k hv
 have hb:zaE ct=some (zjX ct)∧1≤zjX ct∧zjX ct≤27:=by
  unfold zaE zjX
  rcases k.k with⟨k1|k3,ho,hm,hp⟩|⟨k2,ho,hp,hm⟩|⟨k4,ho,hm,hp⟩
  ·rw[k1];exact⟨rfl,by simp,by simp⟩
  ·rw[k3,zag (n:=ct.Options+1) (by omega) (by omega)];exact⟨rfl,by simp;omega,by simp;omega⟩
  ·rw[k2,zag (n:=ct.Points+1) (by omega) (by omega)];exact⟨rfl,by simp;omega,by simp;omega⟩
  ·rw[k4];exact⟨rfl,by simp,by simp⟩
 unfold zdq
 rw[zuZ k hv,Option.bind_some,hb.1,Option.bind_some,ziK (by omega) h2 (zeV (Int.le_refl 0) (by omega) h1)];rfl
theorem zzF {ct:Contest}(k:OkC ct) {v:List Int}(hv:zfn ct v=true):zbM ct v=some (zn2 ct v):=by
 unfold zbM zn2
 rw[ziS,Option.bind_some,show(ct.Kind==1||ct.Kind==2)=zd1 ct from rfl,zuZ k hv,zzK k hv]
 cases zd1 ct<;>rfl
theorem zwg {ct:Contest}(k:OkC ct):zc9 ct=some (zjR ct):=by
 unfold zc9 zjR
 rw[zlz,show(ct.Kind==1||ct.Kind==2)=zd1 ct from rfl]
 cases h:zd1 ct with
 |false=>rfl
 |true=>
  obtain⟨h1,h2,h3,h4⟩:=zlL k h
  have e1:(2*zcZ ct+2)*ct.Options≤12*8:=Int.mul_le_mul (by omega) h1.2 (by omega) (by omega)
  have e2:0≤(2*zcZ ct+2)*ct.Options:=Int.mul_nonneg (by omega) (by omega)
  have e3:ct.Options*zcZ ct≤8*5:=Int.mul_le_mul h1.2 h2.2 (by omega) (by omega)
  rw[zum (.inl h),if_pos h]
  simp only[Option.bind_some,Bool.not_true,Bool.false_eq_true,if_false,if_true]
  rw[zag (n:=2*zcZ ct) (by omega) (by omega),zag (n:=2*zcZ ct+2) (by omega) (by omega),zag (n:=(2*zcZ ct+2)*ct.Options) (by omega) (by omega),zag (n:=ct.Most-ct.Least) (by omega) (by omega),zag (n:=2*(ct.Most-ct.Least)) (by omega) (by omega),zag (n:=(2*zcZ ct+2)*ct.Options+2*(ct.Most-ct.Least)) (by omega) (by omega),zag (by omega) (by omega),Int.mul_comm]
def cK (gr:Group) (key e r:Int):Cipher:=⟨zaq gr gr.G r,zee gr [zaq gr gr.G e,zaq gr key r]⟩
theorem zwA {gr:Group}(k:OkG gr) {key:Int}(hk:zaH gr key=true) (e r:Int):zbC gr key (zaq gr gr.G e) r=some (cK gr key e r):=(zov k hk (zpk k (zfC k) e) r).1
theorem zrZ {gr:Group}(k:OkG gr) {key:Int}(hk:zaH gr key=true) (e r:Int):zeU gr key e r=some (cK gr key e r):=by
 unfold zeU
 rw[pwS k (r_G k),Option.bind_some,(zov k hk (zpk k (zfC k) e) r).2];rfl
theorem znq {gr:Group}(k:OkG gr) {key:Int}(hk:zaH gr key=true) (e r:Int):cK gr key e r=⟨pg gr r,pg gr (e+dl gr key*r)⟩:=by
 have h:=zyj k hk
 unfold cK
 rw[←zjm k,←zux k,←h];rfl
theorem zup {gr:Group}(k:OkG gr) {key:Int}(hk:zaH gr key=true) (e r:Int):znW gr (cK gr key e r)=true:=by
 rw[znq k hk]
 show(zaH gr (pg gr r)&&zaH gr (pg gr _))=true
 rw[zjG k,zjG k];rfl
theorem zwv {gr:Group}(k:OkG gr) {key:Int}(hk:zaH gr key=true) {s:ByteArray}{e r lo:Int}{m n:Nat}{c:Cipher}{coins:List Int}(hc:c=⟨pg gr r,pg gr (e+dl gr key*r)⟩) (he:e=lo+(m:Int)) (hs:s.size≤40) (hm:m<n) (hn:n≤8) (hr:E9 gr.Q r) (hl:coins.length=2*n-1) (ha:∀z∈coins,E9 gr.Q z):OoOk gr s (stV gr key c lo n) m r coins:=by
 have hd:=zyj k hk
 subst hc
 have hY:∀j:Int,zee gr [pg gr (e+dl gr key*r),zaq gr gr.G j]=pg gr (e+dl gr key*r+j):=fun j=>zjm k _ _
 refine⟨hs,⟨by rw[zlj];omega,by rw[zlj];omega⟩,?_,by rw[zlj];exact hm,hr,by rw[zlj];exact hl,ha,?_⟩
 ·intro x hx
  obtain⟨i,_,rfl⟩:=List.mem_map.1 hx
  dsimp only
  rw[hY]
  exact⟨zfC k,zjG k _,hk,zjG k _⟩
 have e1:(stV gr key ⟨pg gr r,pg gr (e+dl gr key*r)⟩ lo n).getD m q0=⟨gr.G,pg gr r,key,pg gr (dl gr key*r)⟩:=by
  unfold stV
  rw[List.getD,List.getElem?_map,List.getElem?_range hm]
  show EqualLog.mk gr.G (pg gr r) key (zee gr [pg gr (e+dl gr key*r),zaq gr gr.G (0-(lo+(m:Int)))])=_
  rw[hY,show e+dl gr key*r+(0-(lo+(m:Int)))=dl gr key*r by omega]
 rw[e1]
 refine⟨rfl,?_⟩
 show zaq gr key r=pg gr (dl gr key*r)
 rw[←zux k,←hd]
attribute [local irreducible] ooV stV chG
def smE (d:List Int):Nat→Int:=smL fun i=>d.getD i 0
def srN (Q:Int) (r:Nat→Int):Nat→Int
 |0=>0
 |i+1=>(srN Q r i+r i)%Q
def svR (coins:List Int) (q i:Nat):Int:=coins.getD (i*(2*q+2)) 0
def svC (gr:Group) (key:Int) (d coins:List Int) (q i:Nat):Cipher:=cK gr key (d.getD i 0) (svR coins q i)
def svP (gr:Group) (key:Int) (lab:ByteArray) (d coins:List Int) (q i:Nat):Proof:=ooV gr lab (stV gr key (svC gr key d coins q i) 0 (q+1)) (d.getD i 0).toNat (svR coins q i) (((coins.drop (i*(2*q+2))).take (2*q+2)).drop 1)
structure SvOk (gr:Group) (key:Int) (lab:ByteArray) (d coins:List Int) (q:Nat):Prop where
 k:OkG gr
 hk:zaH gr key=true
 hs:lab.size≤40
 hn:d.length≤8
 hq:1≤q∧q≤5
 hd:∀z∈d,0≤z∧z≤(q:Int)
 hl:d.length*(2*q+2)≤coins.length∧coins.length≤300
 hc:∀z∈coins,E9 gr.Q z
theorem zvS {Q:Int}(h:0<Q) (r:Nat→Int):∀n,E9 Q (srN Q r n)
 |0=>⟨Int.le_refl 0,h⟩
 |n+1=>zj7 h _
theorem zwL (Q:Int) (r:Nat→Int):∀n,srN Q r n%Q=smL r n%Q
 |0=>rfl
 |n+1=>by
  show(srN Q r n+r n)%Q%Q=(smL r n+r n)%Q
  rw[Int.emod_emod,Int.add_emod,zwL Q r n,←Int.add_emod]
section
variable {gr:Group}{key:Int}{lab:ByteArray}{d coins:List Int}{q:Nat}
theorem ztr (S:SvOk gr key lab d coins q) {i:Nat}(hi:i<d.length):i*(2*q+2)+(2*q+2)≤coins.length:=by
 have h:=Nat.mul_le_mul_right (2*q+2) (show i+1≤d.length by omega)
 rw[Nat.succ_mul]at h
 exact Nat.le_trans h S.hl.1
theorem ztj (S:SvOk gr key lab d coins q) {i:Nat}(hi:i<d.length):0≤d.getD i 0∧d.getD i 0≤(q:Int):=zhE S.hd hi
theorem zvG (S:SvOk gr key lab d coins q) {i:Nat}(hi:i<d.length):E9 gr.Q (svR coins q i):=zhE S.hc (by have:=ztr S hi;have:=S.hq;omega)
theorem zsx (S:SvOk gr key lab d coins q):∀i,i≤d.length→0≤smE d i∧smE d i≤5*(i:Int)
 |0,_=>⟨Int.le_refl 0,Int.le_refl 0⟩
 |i+1,hi=>by
  have h:=zsx S i (by omega)
  have hd:=ztj S (i:=i) (by omega)
  have hq:=S.hq
  show 0≤smE d i+d.getD i 0∧smE d i+d.getD i 0≤5*((i+1:Nat):Int)
  omega
theorem zsw (S:SvOk gr key lab d coins q) {i:Nat}(hi:i<d.length):OoOk gr lab (stV gr key (svC gr key d coins q i) 0 (q+1)) (d.getD i 0).toNat (svR coins q i) (((coins.drop (i*(2*q+2))).take (2*q+2)).drop 1):=by
 have hd:=ztj S hi
 have ha:=ztr S hi
 have hq:=S.hq
 refine zwv S.k S.hk (znq S.k S.hk _ _) (by omega) S.hs (by omega) (by omega) (zvG S hi) ?_ fun z hz=>S.hc z (List.mem_of_mem_drop (List.mem_of_mem_take (List.mem_of_mem_drop hz)))
 rw[List.length_drop,List.length_take,List.length_drop];omega
theorem zHG (S:SvOk gr key lab d coins q) {ct:Contest}(hm:zbr ct=some (q:Int)) (voter:Int):zak (σ:=Int×List Cipher×List Proof×List Int×List Int×List Int×Int×Int) (β:=(Int×List Cipher×List Proof×List Int×List Int×List Int×Int×Int) ⊕ (Sealed×Bool)) (fun i62 s61=>
 (ix d i62).bind fun x68=>
 gd (0≤(IntKind.i64.wrap (i62*(IntKind.i64.wrap ((IntKind.i64.wrap (2*(q:Int)))+2)))))<|
 gd (0≤(IntKind.i64.wrap ((IntKind.i64.wrap (i62+1))*(IntKind.i64.wrap ((IntKind.i64.wrap (2*(q:Int)))+2)))))<|
 gd ((IntKind.i64.wrap (i62*(IntKind.i64.wrap ((IntKind.i64.wrap (2*(q:Int)))+2)))).toNat≤(IntKind.i64.wrap ((IntKind.i64.wrap (i62+1))*(IntKind.i64.wrap ((IntKind.i64.wrap (2*(q:Int)))+2)))).toNat∧(IntKind.i64.wrap ((IntKind.i64.wrap (i62+1))*(IntKind.i64.wrap ((IntKind.i64.wrap (2*(q:Int)))+2)))).toNat≤coins.length)<|
 (ix ((coins.take ((IntKind.i64.wrap ((IntKind.i64.wrap (i62+1))*(IntKind.i64.wrap ((IntKind.i64.wrap (2*(q:Int)))+2)))).toNat)).drop ((IntKind.i64.wrap (i62*(IntKind.i64.wrap ((IntKind.i64.wrap (2*(q:Int)))+2)))).toNat)) 0).bind fun x69=>
 (zao gr gr.G x68).bind fun z70=>
 (zbC gr key z70 x69).bind fun z71=>
 gd (1≤((coins.take ((IntKind.i64.wrap ((IntKind.i64.wrap (i62+1))*(IntKind.i64.wrap ((IntKind.i64.wrap (2*(q:Int)))+2)))).toNat)).drop ((IntKind.i64.wrap (i62*(IntKind.i64.wrap ((IntKind.i64.wrap (2*(q:Int)))+2)))).toNat)).length∧((coins.take ((IntKind.i64.wrap ((IntKind.i64.wrap (i62+1))*(IntKind.i64.wrap ((IntKind.i64.wrap (2*(q:Int)))+2)))).toNat)).drop ((IntKind.i64.wrap (i62*(IntKind.i64.wrap ((IntKind.i64.wrap (2*(q:Int)))+2)))).toNat)).length≤((coins.take ((IntKind.i64.wrap ((IntKind.i64.wrap (i62+1))*(IntKind.i64.wrap ((IntKind.i64.wrap (2*(q:Int)))+2)))).toNat)).drop ((IntKind.i64.wrap (i62*(IntKind.i64.wrap ((IntKind.i64.wrap (2*(q:Int)))+2)))).toNat)).length)<|
 (zbr ct).bind fun z72=>
 (zbx gr key z71 0 z72).bind fun z73=>
 (zcv gr lab z73 x68 x69 ((((coins.take ((IntKind.i64.wrap ((IntKind.i64.wrap (i62+1))*(IntKind.i64.wrap ((IntKind.i64.wrap (2*(q:Int)))+2)))).toNat)).drop ((IntKind.i64.wrap (i62*(IntKind.i64.wrap ((IntKind.i64.wrap (2*(q:Int)))+2)))).toNat)).take (((coins.take ((IntKind.i64.wrap ((IntKind.i64.wrap (i62+1))*(IntKind.i64.wrap ((IntKind.i64.wrap (2*(q:Int)))+2)))).toNat)).drop ((IntKind.i64.wrap (i62*(IntKind.i64.wrap ((IntKind.i64.wrap (2*(q:Int)))+2)))).toNat)).length)).drop 1)).bind fun z74=>
 if(!z74.2)=true then(
 some (.out (.inr ((Sealed.mk 0 [] [] (Proof.mk [] [] [])),false))))else(
 gd ((s61.2.1.length+1)*16≤140737488355328∧s61.2.1.length+1≤4611686018427387904)<|
 gd ((s61.2.2.1.length+1)*72≤140737488355328∧s61.2.2.1.length+1≤4611686018427387904)<|
 (zbh gr (IntKind.i64.wrap (s61.2.2.2.2.2.2.2+x69))).bind fun z76=>
 some (.go (s61.1,s61.2.1++[z71],s61.2.2.1++[z74.1],s61.2.2.2.1,s61.2.2.2.2.1,s61.2.2.2.2.2.1,IntKind.i64.wrap (s61.2.2.2.2.2.2.1+x68),z76)))) (fun s61=>.inl (s61.1,s61.2.1,s61.2.2.1,s61.2.2.2.1,s61.2.2.2.2.1,s61.2.2.2.2.2.1,s61.2.2.2.2.2.2.1,s61.2.2.2.2.2.2.2)) (d.length) 0 (voter,[],[],[],[],[],0,0)=some (.inl (voter,(List.range d.length).map (svC gr key d coins q),(List.range d.length).map (svP gr key lab d coins q),[],[],[],smE d d.length,srN gr.Q (svR coins q) d.length)):=by
 have hp:=S.k.p
 have hQ:=S.k.q
 have hq:=S.hq
 have hn:=S.hn
 have hcl:=S.hl.2
 refine zi1 (fun i=>(voter,(List.range i).map (svC gr key d coins q),(List.range i).map (svP gr key lab d coins q),[],[],[],smE d i,srN gr.Q (svR coins q) i)) rfl fun i hi=>?_
 have ha:=ztr S hi
 have hd:=ztj S hi
 have hr:=zvG S hi
 have hsm:=zsx S i (by omega)
 have hsr:=zvS (Q:=gr.Q) (by omega) (svR coins q) i
 have wT:IntKind.i64.wrap (IntKind.i64.wrap (2*(q:Int))+2)=((2*q+2:Nat):Int):=by
  rw[zag (n:=2*(q:Int)) (by omega) (by omega),zag (by omega) (by omega)];omega
 have wA:IntKind.i64.wrap ((i:Int)*((2*q+2:Nat):Int))=((i*(2*q+2):Nat):Int):=by
  rw[←Int.natCast_mul];exact zag (by omega) (by omega)
 have wB:IntKind.i64.wrap (IntKind.i64.wrap ((i:Int)+1)*((2*q+2:Nat):Int))=((i*(2*q+2)+(2*q+2):Nat):Int):=by
  rw[zag (n:=(i:Int)+1) (by omega) (by omega),show(i:Int)+1=((i+1:Nat):Int)by omega,←Int.natCast_mul,Nat.succ_mul];exact zag (by omega) (by omega)
 have eB:(coins.take (i*(2*q+2)+(2*q+2))).drop (i*(2*q+2))=(coins.drop (i*(2*q+2))).take (2*q+2):=by rw[List.drop_take,Nat.add_sub_cancel_left]
 have lB:((coins.drop (i*(2*q+2))).take (2*q+2)).length=2*q+2:=by rw[List.length_take,List.length_drop];omega
 have e0:ix ((coins.drop (i*(2*q+2))).take (2*q+2)) 0=some (svR coins q i):=by
  rw[show(0:Int)=((0:Nat):Int)from rfl,zfQ (by omega)]
  simp[List.getD,svR]
 have hP:=zwy S.k (zsw S hi)
 rw[show(((d.getD i 0).toNat:Nat):Int)=d.getD i 0 by omega]at hP
 have hst:=zwF S.k (key:=key) (c:=svC gr key d coins q i) (zup S.k S.hk _ _) (lo:=0) (hi:=(q:Int)) (n:=q+1) (by omega) (by omega) (by omega)
 dsimp only
 rw[wT,wA,wB,Int.toNat_natCast,Int.toNat_natCast,eB,lB]
 refine zad (zfQ hi) (zap (by omega) (zap (by omega) (zap (by omega) (zad e0 (zad (pwI S.k (r_G S.k) _) (zad (zwA S.k S.hk _ _) (zap (by omega) (zad hm (zad hst ?_)))))))))
 rw[List.take_of_length_le (Nat.le_of_eq lB)]
 refine zad hP (zbU rfl (zap (by simp;omega) (zap (by simp;omega) (zad (zpG S.k _) (zae ?_)))))
 rw[zag (n:=smE d i+d.getD i 0) (by omega) (by omega),zag (n:=srN gr.Q (svR coins q) i+svR coins q i) (by have:=hsr.1;have:=hr.1;omega) (by have:=hsr.2;have:=hr.2;omega),List.range_succ,List.map_append,List.map_append]
 rfl
theorem zIi (S:SvOk gr key lab d coins q) (voter:Int):zak (σ:=(List Int)×Int×List Cipher×List Proof×List Int×List Int×List Int×Int×Int) (fun i38 s37=>
 (ix d i38).bind fun x44=>
 (ix s37.1 0).bind fun x45=>
 (zeU gr key x44 x45).bind fun z46=>
 gd ((s37.2.2.1.length+1)*16≤140737488355328∧s37.2.2.1.length+1≤4611686018427387904)<|
 gd (0≤(IntKind.i64.wrap ((IntKind.i64.wrap (2*(q:Int)))+2)))<|
 gd (1≤(IntKind.i64.wrap ((IntKind.i64.wrap (2*(q:Int)))+2)).toNat∧(IntKind.i64.wrap ((IntKind.i64.wrap (2*(q:Int)))+2)).toNat≤s37.1.length)<|
 (zck gr key z46 0 (q:Int)).bind fun z47=>
 (zdP gr lab z47 x44 x45 ((s37.1.take ((IntKind.i64.wrap ((IntKind.i64.wrap (2*(q:Int)))+2)).toNat)).drop 1)).bind fun z48=>
 gd ((s37.2.2.2.1.length+1)*72≤140737488355328∧s37.2.2.2.1.length+1≤4611686018427387904)<|
 gd (gr.Q≠0)<|
 gd (0≤(IntKind.i64.wrap ((IntKind.i64.wrap (2*(q:Int)))+2)))<|
 gd ((IntKind.i64.wrap ((IntKind.i64.wrap (2*(q:Int)))+2)).toNat≤s37.1.length∧s37.1.length≤s37.1.length)<|
 some (.go ((s37.1.take s37.1.length).drop ((IntKind.i64.wrap ((IntKind.i64.wrap (2*(q:Int)))+2)).toNat),s37.2.1,s37.2.2.1++[z46],s37.2.2.2.1++[z48],s37.2.2.2.2.1,s37.2.2.2.2.2.1,s37.2.2.2.2.2.2.1,IntKind.i64.wrap (s37.2.2.2.2.2.2.2.1+x44),(IntKind.i64.wrap (s37.2.2.2.2.2.2.2.2+x45)).tmod gr.Q))) (fun s37=>(s37.1,s37.2.1,s37.2.2.1,s37.2.2.2.1,s37.2.2.2.2.1,s37.2.2.2.2.2.1,s37.2.2.2.2.2.2.1,s37.2.2.2.2.2.2.2.1,s37.2.2.2.2.2.2.2.2)) (d.length) 0 (coins,voter,[],[],[],[],[],0,0)=some (coins.drop (d.length*(2*q+2)),voter,(List.range d.length).map (svC gr key d coins q),(List.range d.length).map (svP gr key lab d coins q),[],[],[],smE d d.length,srN gr.Q (svR coins q) d.length):=by
 have hp:=S.k.p
 have hQ:=S.k.q
 have hq:=S.hq
 have hn:=S.hn
 have hcl:=S.hl.2
 refine zi1 (fun i=>(coins.drop (i*(2*q+2)),voter,(List.range i).map (svC gr key d coins q),(List.range i).map (svP gr key lab d coins q),[],[],[],smE d i,srN gr.Q (svR coins q) i)) (by rw[Nat.zero_mul];rfl) fun i hi=>?_
 have ha:=ztr S hi
 have hd:=ztj S hi
 have hr:=zvG S hi
 have hsm:=zsx S i (by omega)
 have hsr:=zvS (Q:=gr.Q) (by omega) (svR coins q) i
 have wT:IntKind.i64.wrap (IntKind.i64.wrap (2*(q:Int))+2)=((2*q+2:Nat):Int):=by
  rw[zag (n:=2*(q:Int)) (by omega) (by omega),zag (by omega) (by omega)];omega
 have lB:(coins.drop (i*(2*q+2))).length=coins.length-i*(2*q+2):=List.length_drop
 have e0:ix (coins.drop (i*(2*q+2))) 0=some (svR coins q i):=by
  rw[show(0:Int)=((0:Nat):Int)from rfl,zfQ (by omega)]
  simp[List.getD,svR]
 have hP:=zwI S.k (zsw S hi)
 rw[show(((d.getD i 0).toNat:Nat):Int)=d.getD i 0 by omega]at hP
 have hst:=zwC S.k (key:=key) (c:=svC gr key d coins q i) (zup S.k S.hk _ _) (lo:=0) (hi:=(q:Int)) (n:=q+1) (by omega) (by omega) (by omega)
 dsimp only
 rw[wT,Int.toNat_natCast,lB]
 refine zad (zfQ hi) (zad e0 (zad (zrZ S.k S.hk _ _) (zap (by simp;omega) (zap (by omega) (zap (by omega) (zad hst (zad hP (zap (by simp;omega) (zap (by omega) (zap (by omega) (zap (by omega) (zae ?_))))))))))))
 rw[←lB,List.take_length,List.drop_drop,zag (n:=smE d i+d.getD i 0) (by omega) (by omega),zag (n:=srN gr.Q (svR coins q) i+svR coins q i) (by have:=hsr.1;have:=hr.1;omega) (by have:=hsr.2;have:=hr.2;omega),Int.tmod_eq_emod_of_nonneg (by have:=hsr.1;have:=hr.1;omega),List.range_succ,List.map_append,List.map_append,show(i+1)*(2*q+2)=i*(2*q+2)+(2*q+2)from Nat.succ_mul _ _]
 rfl
def zkT (gr:Group) (key:Int) (d coins:List Int) (q:Nat):Cipher:=⟨pg gr (srN gr.Q (svR coins q) d.length),pg gr (smE d d.length+dl gr key*srN gr.Q (svR coins q) d.length)⟩
theorem zrO (S:SvOk gr key lab d coins q):zkT gr key d coins q=⟨pg gr (smL (svR coins q) d.length),pg gr (smE d d.length+dl gr key*smL (svR coins q) d.length)⟩:=by
 have h:=zwL gr.Q (svR coins q) d.length
 unfold zkT
 rw[zpI h,zpI (a:=smE d d.length+dl gr key*srN gr.Q (svR coins q) d.length) (b:=smE d d.length+dl gr key*smL (svR coins q) d.length) (by rw[Int.add_emod,Int.mul_emod,h,←Int.mul_emod,←Int.add_emod])]
theorem zCJ (k:OkG gr) (a b c d:Int):zcB gr ⟨pg gr a,pg gr b⟩ ⟨pg gr c,pg gr d⟩=some ⟨pg gr (a+c),pg gr (b+d)⟩:=by
 unfold zcB
 dsimp only
 rw[m2I k (x:=pg gr a) (y:=pg gr c) (zc8 k _ _) (zc8 k _ _),Option.bind_some,m2I k (x:=pg gr b) (y:=pg gr d) (zc8 k _ _) (zc8 k _ _),Option.bind_some,zjm k,zjm k]
theorem zBZ (S:SvOk gr key lab d coins q):zct gr ((List.range d.length).map (svC gr key d coins q))=some (zkT gr key d coins q):=by
 rw[zrO S]
 unfold zct
 have h:=zi1 (σ:=Int×Int) (γ:=Int×Int) (n:=((List.range d.length).map (svC gr key d coins q)).length) (stop:=fun s13=>(s13.1,s13.2)) (s0:=(1,1)) (body:=fun i14 s13=>
  (ix ((List.range d.length).map (svC gr key d coins q)) i14).bind fun x20=>
  (zcB gr (Cipher.mk s13.1 s13.2) x20).bind fun z21=>
  some (.go (z21.A,z21.B))) (fun i=>(pg gr (smL (svR coins q) i),pg gr (smE d i+dl gr key*smL (svR coins q) i))) (by
   show _=(pg gr 0,pg gr (0+dl gr key*0))
   rw[Int.mul_zero,Int.add_zero,zzB S.k]) fun i hi=>by
  refine zbi hi ?_
  rw[List.getElem_map,List.getElem_range]
  unfold svC
  rw[znq S.k S.hk]
  refine zad (zCJ S.k _ _ _ _) (zae ?_)
  dsimp only
  rw[show smE d (i+1)=smE d i+d.getD i 0 from rfl,show smL (svR coins q) (i+1)=smL (svR coins q) i+svR coins q i from rfl,show smE d i+dl gr key*smL (svR coins q) i+(d.getD i 0+dl gr key*svR coins q i)=smE d i+d.getD i 0+dl gr key*(smL (svR coins q) i+svR coins q i)by rw[Int.mul_add];omega]
 rw[h]
 simp
theorem zC5 (S:SvOk gr key lab d coins q):zgo gr ((List.range d.length).map (svC gr key d coins q))=some (zkT gr key d coins q):=by
 rw[zrO S]
 unfold zgo
 have h:=zi1 (σ:=Int×Int) (γ:=Int×Int) (n:=((List.range d.length).map (svC gr key d coins q)).length) (stop:=fun s14=>(s14.1,s14.2)) (s0:=(1,1)) (body:=fun i15 s14=>
  (ix ((List.range d.length).map (svC gr key d coins q)) i15).bind fun x21=>
  (zbD gr [s14.1,x21.A]).bind fun z22=>
  (zbD gr [s14.2,x21.B]).bind fun z23=>
  some (.go (z22,z23))) (fun i=>(pg gr (smL (svR coins q) i),pg gr (smE d i+dl gr key*smL (svR coins q) i))) (by
   show _=(pg gr 0,pg gr (0+dl gr key*0))
   rw[Int.mul_zero,Int.add_zero,zzB S.k]) fun i hi=>by
  refine zbi hi ?_
  rw[List.getElem_map,List.getElem_range]
  unfold svC
  rw[znq S.k S.hk]
  refine zad (m2S S.k (zc8 S.k _ _) (zc8 S.k _ _)) (zad (m2S S.k (zc8 S.k _ _) (zc8 S.k _ _)) (zae ?_))
  show Stp.go (zee gr [pg gr _,pg gr _],zee gr [pg gr _,pg gr _])=_
  rw[zjm S.k,zjm S.k,show smE d (i+1)=smE d i+d.getD i 0 from rfl,show smL (svR coins q) (i+1)=smL (svR coins q) i+svR coins q i from rfl,show smE d i+dl gr key*smL (svR coins q) i+(d.getD i 0+dl gr key*svR coins q i)=smE d i+d.getD i 0+dl gr key*(smL (svR coins q) i+svR coins q i)by rw[Int.mul_add];omega]
 rw[h]
 simp
end
theorem zwu {gr:Group}{s:ByteArray}{l:List EqualLog}{m:Nat}{x:Int}{coins:List Int}(k:OkG gr) (O:OoOk gr s l m x coins) (w:Int):∀i,i≤l.length→∀z∈(ooN gr l m w coins i).2.2.1,E9 gr.Q z
 |0,_=>by intro z hz;simp[ooN]at hz
 |i+1,hi=>by
  have h2:=zwu k O w i (by omega)
  have hq:=k.q
  have hnx:=znd gr l m w coins i
  have hc:i≠m→(ooN gr l m w coins i).2.2.2+1<coins.length:=fun e=>by
   have:=O.cl;have:=O.hm
   rw[hnx];split<;>omega
  rw[ooN]
  by_cases e:i=m
  ·rw[if_pos e]
   refine apL h2 fun z hz=>?_
   rw[List.mem_singleton]at hz;subst hz;exact⟨Int.le_refl 0,by omega⟩
  ·rw[if_neg e]
   refine apL h2 fun z hz=>?_
   rw[List.mem_singleton]at hz;subst hz;exact zhE O.hc (by have:=hc e;omega)
structure PrOk (p:Proof):Prop where
 a:p.Commits.length≤16
 b:p.Challenges.length≤8
 c:p.Responses.length≤8
 d:(zeX p).all zbq=true
theorem ztk {p:Proof}(a:p.Commits.length≤16) (b:p.Challenges.length≤8) (c:p.Responses.length≤8) (d:∀z∈p.Commits,R9 z) (e:∀z∈p.Challenges,R9 z) (f:∀z∈p.Responses,R9 z):PrOk p:=by
 refine⟨a,b,c,?_⟩
 have h:∀l:List Int,l.length≤16→(∀z∈l,R9 z)→(zbV l).all zbq=true:=fun l hl hz=>by
  unfold zbV
  rw[List.all_cons,zo1 hz,Bool.and_true]
  exact zc1.2 (by omega)
 unfold zeX
 rw[List.all_append,List.all_append,h _ a d,h _ (by omega) e,h _ (by omega) f];rfl
theorem e_r {gr:Group}(k:OkG gr) {z:Int}(h:E9 gr.Q z):R9 z:=⟨h.1,by have:=h.2;have:=k.q;have:=k.p;omega⟩
theorem zwt {gr:Group}{s:ByteArray}{l:List EqualLog}{m:Nat}{x:Int}{coins:List Int}(k:OkG gr) (O:OoOk gr s l m x coins):PrOk (ooV gr s l m x coins):=by
 have hq:=k.q
 have hn:=O.hn
 obtain⟨l1,l2,l3⟩:=zjs gr l m (coins.getD (coins.length-1) 0) coins l.length
 obtain⟨g1,g2⟩:=zoY k O (coins.getD (coins.length-1) 0) l.length (Nat.le_refl _)
 have g3:=zwu k O (coins.getD (coins.length-1) 0) l.length (Nat.le_refl _)
 have hs:∀{L:List Int}{y:Int},(∀z∈L,E9 gr.Q z)→E9 gr.Q y→∀z∈L.set m y,R9 z:=fun h hy z hz=>e_r k ((List.mem_or_eq_of_mem_set hz).elim (h z) fun e=>e▸hy)
 unfold ooV
 refine ztk (by show(ooN gr l m (coins.getD (coins.length-1) 0) coins l.length).1.length≤16;omega) ?_ ?_ g1 (hs g2 (zj7 (by omega) _)) (hs g3 (zj7 (by omega) _))
 ·show(List.set _ _ _).length≤8
  rw[List.length_set];omega
 show(List.set _ _ _).length≤8
 rw[List.length_set];omega
theorem zva {d:List Int}:∀n,n≤d.length→smE d n=(d.take n).sum
 |0,_=>rfl
 |n+1,h=>by
  show smE d n+d.getD n 0=_
  rw[zva n (by omega),List.take_succ_eq_append_getElem (show n<d.length by omega),List.sum_append,zjP (show n<d.length by omega)];simp
theorem zCj {gr:Group}{ct:Contest}(h:zeg gr ct=some true) (kg:OkG gr) (kc:OkC ct) (hf:zd1 ct=true):ct.Most-ct.Least<8:=by
 have lo:=kc.lo
 have b:=zlL kc hf
 have hm:ct.Options*zcZ ct≤8*5:=Int.mul_le_mul b.1.2 b.2.1.2 (by omega) (by omega)
 obtain⟨n,h1,_⟩:=zmY kc
 unfold zeg at h
 rw[zpu,znc,zlA.2 kg,zo5.2 kc]at h
 simp only[h1,zju,Bool.not_true,Bool.false_eq_true,if_false,Option.bind_some,ziS]at h
 rw[show(ct.Kind==1||ct.Kind==2)=zd1 ct from rfl,hf,zag (n:=ct.Most-ct.Least) (by omega) (by omega)]at h
 by_cases hh:ct.Most-ct.Least<8
 ·exact hh
 have e:decide (ct.Most-ct.Least<8)=false:=decide_eq_false hh
 rw[e]at h
 cases hc:(decide (100000<n)||decide (gr.Q≤n))<;>rw[hc]at h<;>cases h
structure SeOk (x:Sealed):Prop where
 v:0≤x.Voter∧x.Voter≤999999
 n:x.Ciphers.length≤8
 c:∀z∈x.Ciphers,R9 z.A∧R9 z.B
 m:x.Proofs.length≤8
 p:∀z∈x.Proofs++[x.Sum],PrOk z
theorem znu (a:Int):zeb a=some (inB 0 999999 a):=by
 unfold zeb
 rw[zqd];rfl
def seV (gr:Group) (key:Int) (lab:ByteArray) (d coins:List Int) (q:Nat) (voter lo:Int) (n:Nat):Sealed:=
 ⟨voter,(List.range d.length).map (svC gr key d coins q),(List.range d.length).map (svP gr key lab d coins q),ooV gr lab (stV gr key (zkT gr key d coins q) lo n) (smE d d.length-lo).toNat (srN gr.Q (svR coins q) d.length) (coins.drop (d.length*(2*q+2)))⟩
theorem zzw {gr:Group}(k:OkG gr) {key:Int}(hk:zaH gr key=true) (e r:Int):R9 (cK gr key e r).A∧R9 (cK gr key e r).B:=by
 rw[znq k hk]
 exact⟨zc8 k gr.G _,zc8 k gr.G _⟩
theorem zBA {gr:Group}{key:Int}{lab:ByteArray}{d coins:List Int}{q:Nat}(S:SvOk gr key lab d coins q) {voter lo:Int}{n:Nat}(hv:0≤voter∧voter≤999999) (O:OoOk gr lab (stV gr key (zkT gr key d coins q) lo n) (smE d d.length-lo).toNat (srN gr.Q (svR coins q) d.length) (coins.drop (d.length*(2*q+2)))):SeOk (seV gr key lab d coins q voter lo n):=by
 have hn:=S.hn
 refine⟨hv,by simpa[seV]using hn,?_,by simpa[seV]using hn,fun z hz=>?_⟩
 ·intro z hz
  obtain⟨i,_,rfl⟩:=List.mem_map.1 hz
  exact zzw S.k S.hk _ _
 rcases List.mem_append.1 hz with hz|hz
 ·obtain⟨i,hi,rfl⟩:=List.mem_map.1 hz
  exact zwt S.k (zsw S (List.mem_range.1 hi))
 rw[List.mem_singleton.1 hz]
 exact zwt S.k O
theorem zxT (gr:Group) (key:Int) (ct:Contest) (voter:Int) {v coins:List Int}(hv:v.length≤1048576):∃x,zeH gr key ct voter v coins=some x∧zeL gr key ct voter v coins=some x∧(x.2=true→SeOk x.1):=by
 obtain⟨b,s1,s2,s3⟩:=zsO gr ct
 unfold zeH zeL
 rw[s1,s2]
 cases b with
 |false=>exact⟨(⟨0,[],[],⟨[],[],[]⟩⟩,false),rfl,rfl,fun h=>by cases h⟩
 |true=>
  obtain⟨kg,kc⟩:=s3 rfl
  have hQ:=kg.q
  have hp:=kg.p
  have hco:=zwf kc
  simp only[zwO kg,zy5 kg,znu,zsi,zv7 kc hv,zxA kc hv,zwg kc,hco.1,zlf (gr:=gr) (by omega) (by omega),zxx (gr:=gr) (by omega) (by omega),Bool.not_true,Bool.false_eq_true,if_false,Option.bind_some,ziS]
  cases hok:(!zaH gr key||(!inB 0 999999 voter||(!zfn ct v||((coins.length:Int) !=zjR ct|| !coins.all (zgA gr)))))with
  |true=>exact⟨(⟨0,[],[],⟨[],[],[]⟩⟩,false),rfl,rfl,fun h=>by cases h⟩
  |false=>
   simp only[Bool.or_eq_false_iff,Bool.not_eq_false',bne_eq_false_iff_eq]at hok
   obtain⟨hk,h2,h3,h4,h5⟩:=hok
   have h2:=zdg.1 h2
   have hc:∀z∈coins,E9 gr.Q z:=fun z hz=>zin.1 (List.all_eq_true.1 h5 z hz)
   have hlb:=zys h2.1 h2.2
   have hE:=zzF kc h3
   unfold zn2 at hE
   cases hf:zd1 ct with
   |false=>
    rw[hf]at hE
    have hn2:coins.length=2:=by
     unfold zjR at h4
     rw[hf]at h4
     have:(coins.length:Int)=2:=h4
     omega
    obtain⟨u0,u1,rfl⟩:∃u0 u1,coins=[u0,u1]:=by
     match coins,hn2 with
     |[a,b],_=>exact⟨a,b,rfl⟩
    have hk1:(ct.Kind==1||ct.Kind==2)=false:=hf
    have b0:=hc u0 (by simp)
    have b1:=hc u1 (by simp)
    have hpk:zcc gr (zgv voter) gr.G u0 u1=some (ziM gr (zgv voter) u0 u1,true):=by
     rw[zwm gr (by omega),zlA.2 kg,zin.2 b0,zin.2 b1];rfl
    have r0:=e_r kg b0
    have r1:=e_r kg b1
    have hps:=zA9 (gr:=gr) kg.gb (s:=zgv voter) (by omega) (x:=u0) (w:=u1) ⟨r0.1,by have:=r0.2;omega⟩ ⟨r1.1,by have:=r1.2;omega⟩
    refine⟨(⟨voter,[cK gr key (zmL ct v) u0],[ziM gr (zgv voter) u0 u1],⟨[],[],[]⟩⟩,true),zah ?_,zah ?_,fun _=>⟨h2,by simp,fun z hz=>?_,by simp,fun z hz=>?_⟩⟩
    ·refine zbU rfl (zad (ztW h2.1 h2.2) (zad hE (zad (zlz ct) (zke (by rw[hk1];rfl) (zad (a:=u0) rfl (zad (a:=u1) rfl (zad hpk (zad (a:=zmL ct v) rfl (zad (pwI kg (r_G kg) _) (zad (zwA kg hk _ _) (zae rfl)))))))))))
    ·refine zbU rfl (zad (a:=(⟨voter,[cK gr key (zmL ct v) u0],[ziM gr (zgv voter) u0 u1],⟨[],[],[]⟩⟩:Sealed)) (zah ?_) (zae rfl))
     unfold zfW
     exact zad (zuf h2.1 h2.2) (zad (zju ct) (zke (by rw[hk1];rfl) (zad (a:=u0) rfl (zad (zqL kc h3).1 (zad (zrZ kg hk _ _) (zap (by omega) (zap (by simp) (zap (by simp) (zad hps (zap (by omega) (zae rfl)))))))))))
    ·rw[List.mem_singleton.1 hz];exact zzw kg hk _ _
    ·have hz:z=ziM gr (zgv voter) u0 u1∨z=⟨[],[],[]⟩:=by simpa using hz
     rcases hz with rfl|rfl
     ·have he:=zoi kg.gb (zgv voter) u0 u1
      refine ztk (by simp[ziM]) (by simp[ziM]) (by simp[ziM]) (fun z hz=>?_) (fun z hz=>?_) fun z hz=>?_
      ·rw[List.mem_singleton.1 hz];exact zc8 kg _ _
      ·rw[List.mem_singleton.1 hz];exact e_r kg he
      ·rw[List.mem_singleton.1 hz];exact e_r kg (zj7 (by omega) _)
     ·exact ztk (by simp) (by simp) (by simp) (by simp) (by simp) (by simp)
   |true=>
    rw[hf]at hE
    obtain⟨f1,f2,f3,f4⟩:=zlL kc hf
    obtain⟨g1,g2,g3,_⟩:=zzC kc hf h3
    have hgd:=zCj s1 kg kc hf
    have hk1:(ct.Kind==1||ct.Kind==2)=true:=hf
    have hm:=zum (ct:=ct) (.inl hf)
    have hbt:=zus ct
    have hEx:=zxp kc h3
    unfold zn2 at hEx
    rw[hf]at hEx
    rw[if_pos hf]at hm
    unfold zjR at h4
    rw[if_pos hf]at h4
    obtain⟨q,hq⟩:∃q:Nat,zcZ ct=(q:Int):=⟨(zcZ ct).toNat,by omega⟩
    rw[hq]at hm hbt f2 f3 g2 h4
    have hE:zbM ct v=some (zfI ct v):=hE
    have hEx:zfd ct v=some (zfI ct v):=hEx
    generalize zfI ct v=d at g1 g2 g3 hE hEx
    rw[←g1]at h4 f1 f3
    have eP:(d.length:Int)*(2*(q:Int)+2)=((d.length*(2*q+2):Nat):Int):=by rw[Int.natCast_mul];rfl
    rw[eP]at h4
    have hDq:(d.length:Int)*(q:Int)≤8*5:=Int.mul_le_mul (by omega) (by omega) (by omega) (by omega)
    have hPb:d.length*(2*q+2)≤8*12:=Nat.mul_le_mul (by omega) (by omega)
    have S:SvOk gr key (zgv voter) d coins q:=⟨kg,hk,by omega,by omega,by omega,fun z hz=>zdg.1 (List.all_eq_true.1 g2 z hz),by omega,hc⟩
    have hsum:smE d d.length=d.sum:=by rw[zva _ (Nat.le_refl _),List.take_length]
    have hsr:=zvS (Q:=gr.Q) (by omega) (svR coins q) d.length
    have O:OoOk gr (zgv voter) (stV gr key (zkT gr key d coins q) ct.Least (ct.Most-ct.Least+1).toNat) (smE d d.length-ct.Least).toNat (srN gr.Q (svR coins q) d.length) (coins.drop (d.length*(2*q+2))):=by
     refine zwv kg hk rfl (by omega) (by omega) (by omega) (by omega) hsr ?_ fun z hz=>hc z (List.mem_of_mem_drop hz)
     rw[List.length_drop];omega
    have hcs:znW gr (zkT gr key d coins q)=true:=by
     show(zaH gr (pg gr _)&&zaH gr (pg gr _))=true
     rw[zjG kg,zjG kg];rfl
    have wE:IntKind.i64.wrap (smE d d.length-ct.Least)=(((smE d d.length-ct.Least).toNat:Nat):Int):=by rw[zag (by omega) (by omega)];omega
    have wT:IntKind.i64.wrap ((d.length:Int)*IntKind.i64.wrap (IntKind.i64.wrap (2*(q:Int))+2))=((d.length*(2*q+2):Nat):Int):=by
     rw[zag (n:=2*(q:Int)) (by omega) (by omega),zag (n:=2*(q:Int)+2) (by omega) (by omega),eP,zag (by omega) (by omega)]
    refine⟨(seV gr key (zgv voter) d coins q voter ct.Least (ct.Most-ct.Least+1).toNat,true),zah ?_,zah ?_,fun _=>zBA S h2 O⟩
    ·refine zbU rfl (zad (ztW h2.1 h2.2) (zad hE (zad (zlz ct) (zbU (by rw[hk1];rfl) (zad hm (zad (zHG S hm voter) ?_))))))
     show Rn (gd _ _) _
     dsimp only
     rw[wT,wE,Int.toNat_natCast,List.take_length]
     exact zap (by omega) (zap (by omega) (zad (zBZ S) (zad (zwF kg hcs (by omega) (n:=(ct.Most-ct.Least+1).toNat) (by omega) (by omega)) (zad (zwy kg O) (zbU rfl (zae rfl))))))
    ·refine zbU rfl (zad (a:=seV gr key (zgv voter) d coins q voter ct.Least (ct.Most-ct.Least+1).toNat) (zah ?_) (zae rfl))
     unfold zfW
     refine zad (zuf h2.1 h2.2) (zad (zju ct) (zbU (by rw[hk1];rfl) (zad hbt (zad hEx (zad (zIi S voter) ?_)))))
     dsimp only
     rw[wE]
     exact zad (zC5 S) (zad (zwC kg hcs (by omega) (n:=(ct.Most-ct.Least+1).toNat) (by omega) (by omega)) (zad (zwI kg O) (zae rfl)))
def zgB (l:List Cipher):List Int:=(l.length:Int)::l.flatMap fun c=>[c.A,c.B]
def zgj (L:List (List Int)):List Int:=(L.length:Int)::L.flatMap zbV
theorem zwD (l:List Cipher):(l.flatMap fun c=>[c.A,c.B]).length=2*l.length:=by
 induction l with
 |nil=>rfl
 |cons e l ih=>show([e.A,e.B]++l.flatMap fun c=>[c.A,c.B]).length=_;rw[List.length_append,ih];simp;omega
theorem zrT (l:List Cipher):(zgB l).length=2*l.length+1:=by unfold zgB;rw[List.length_cons,zwD]
theorem zrQ {l:List Cipher}(hl:l.length≤8) (h:∀z∈l,R9 z.A∧R9 z.B):(zgB l).all zbq=true:=by
 unfold zgB
 rw[List.all_cons,zc1.2 (show 0≤(l.length:Int)∧(l.length:Int)≤4611686018427387903 by omega),Bool.true_and]
 refine zo1 fun z hz=>?_
 obtain⟨c,hc,hz⟩:=List.mem_flatMap.1 hz
 simp only[List.mem_cons,List.not_mem_nil,or_false]at hz
 rcases hz with rfl|rfl
 ·exact(h c hc).1
 exact(h c hc).2
theorem zpJ {l:List Cipher}(hl:l.length≤8):zak (σ:=(List Int)) (fun i5 s4=>
 (ix l i5).bind fun x11=>
 gd ((s4.length+2)*8≤140737488355328∧s4.length+2≤4611686018427387904)<|
 some (.go (s4++[x11.A,x11.B]))) (fun s4=>s4) (l.length) 0 [(l.length:Int)]=some (zgB l):=by
 refine zah (zbe (fun i s=>s=(l.length:Int)::((l.take i).flatMap fun c=>[c.A,c.B])∧i≤l.length) ⟨rfl,by omega⟩ ?_ fun s h=>by rw[h.1,List.take_length];rfl)
 rintro i s hi ⟨rfl,_⟩
 have hn:=zwD (l.take i)
 rw[List.length_take]at hn
 refine zbi hi (zap (by rw[List.length_cons];omega) (zae ⟨?_,by omega⟩))
 rw[List.take_succ_eq_append_getElem hi,List.flatMap_append];rfl
theorem zvc {α:Type}{f:α→List Int}{B:Nat}:∀{l:List α},(∀p∈l,(f p).length≤B)→(l.flatMap f).length≤B*l.length
 |[],_=>by simp
 |p::l,h=>by
  have h1:=zvc (l:=l) fun z hz=>h z (List.mem_cons_of_mem _ hz)
  have h2:=h p (by simp)
  rw[List.flatMap_cons,List.length_append,List.length_cons,Nat.mul_succ];omega
theorem znZ (L:List (List Int)) (i:Nat):((L.take i).flatMap zbV).length≤(L.flatMap zbV).length:=by
 have h:(L.take i).flatMap zbV++(L.drop i).flatMap zbV=L.flatMap zbV:=by rw[←List.flatMap_append,List.take_append_drop]
 rw[←h,List.length_append];omega
theorem ztb {L:List (List Int)}{i:Nat}(hi:i<L.length):L[i].length+1≤(L.flatMap zbV).length:=by
 have h:=znZ L (i+1)
 rw[List.take_succ_eq_append_getElem hi,List.flatMap_append,List.length_append]at h
 have e:([L[i]].flatMap zbV).length=L[i].length+1:=by simp[zbV]
 omega
theorem zvT {L:List (List Int)}(h:(zgj L).length≤400):zfY L=some (zgj L):=by
 have hn:(L.flatMap zbV).length+1≤400:=by simpa[zgj]using h
 unfold zfY
 have e:zak (σ:=(List Int)) (fun i5 s4=>(ix L i5).bind fun x11=>(zbI s4 x11).bind fun z12=>some (.go z12)) (fun s4=>s4) (L.length) 0 [(L.length:Int)]=some (zgj L):=by
  refine zah (zbe (fun i s=>s=(L.length:Int)::(L.take i).flatMap zbV∧i≤L.length) ⟨rfl,by omega⟩ ?_ fun s h=>by rw[h.1,List.take_length];rfl)
  rintro i s hi ⟨rfl,_⟩
  have h1:=znZ L i
  have h2:=ztb hi
  refine zbi hi (zad (zlw (by rw[List.length_cons];omega) (by omega)) (zae ⟨?_,by omega⟩))
  rw[List.take_succ_eq_append_getElem hi,List.flatMap_append]
  simp
 rw[e];rfl
theorem zxG {L:List (List Int)}(h:(zgj L).length≤400) (hd:(zgj L).all zbq=true):zdG L=some (zgj L,true):=by
 have hn:(L.flatMap zbV).length+1≤400:=by simpa[zgj]using h
 unfold zdG
 have e:zak (σ:=(List Int)) (β:=(List Int) ⊕ (List Int×Bool)) (fun i5 s4=>(ix L i5).bind fun x11=>(zcp x11).bind fun z12=>
  gd ((s4.length+z12.length)*8≤140737488355328∧s4.length+z12.length≤4611686018427387904)<|
  if decide (400<((s4++z12).length:Int))=true then(some (.out (.inr ([],false))))else(some (.go (s4++z12)))) (fun s4=>.inl s4) (L.length) 0 [(L.length:Int)]=some (.inl (zgj L)):=by
  refine zah (zbe (fun i s=>s=(L.length:Int)::(L.take i).flatMap zbV∧i≤L.length) ⟨rfl,by omega⟩ ?_ fun s h=>by rw[h.1,List.take_length];rfl)
  rintro i s hi ⟨rfl,_⟩
  have h1:=znZ L (i+1)
  have h2:=ztb hi
  have e1:(L.length:Int)::(L.take i).flatMap zbV++zbV L[i]=(L.length:Int)::(L.take (i+1)).flatMap zbV:=by
   rw[List.take_succ_eq_append_getElem hi,List.flatMap_append];simp
  have e2:=congrArg List.length e1
  rw[List.length_append,List.length_cons,List.length_cons]at e2
  refine zbi hi (zad (znn (by omega)) (zap (by rw[List.length_cons];omega) (zbU ?_ (zae ⟨e1,by omega⟩))))
  rw[List.length_append,List.length_cons]
  exact decide_eq_false (by omega)
 have hr:zir (zgj L)=true:=by unfold zir;rw[hd,decide_eq_true (by omega)];rfl
 have hrec:zdc (zgj L)=some (zgj L,true):=by rw[zmx,if_pos hr]
 rw[e,Option.bind_some,Sum.elim_inl,hrec,Option.bind_some]
def zhU (x:Sealed):List (List Int):=[[x.Voter],zgB x.Ciphers]++(x.Proofs++[x.Sum]).map zeX
def zdu (x:Sealed):List Int:=zgj (zhU x)
theorem zrL (p:Proof):(zeX p).length=p.Commits.length+p.Challenges.length+p.Responses.length+3:=by simp[zeX,zbV];omega
theorem zn0 {x:Sealed}(O:SeOk x):(zdu x).length≤352:=by
 have h1:=zrT x.Ciphers
 have h2:=O.n
 have h3:=O.m
 have h4:(((x.Proofs++[x.Sum]).map zeX).flatMap zbV).length≤36*(x.Proofs++[x.Sum]).length:=by
  have:=zvc (f:=zbV) (B:=36) (l:=(x.Proofs++[x.Sum]).map zeX) fun p hp=>by
   obtain⟨z,hz,rfl⟩:=List.mem_map.1 hp
   have o:=O.p z hz
   have:=o.a;have:=o.b;have:=o.c
   have:=zrL z
   show(zeX z).length+1≤36
   omega
  rwa [List.length_map]at this
 rw[List.length_append]at h4
 unfold zdu zgj zhU
 rw[List.length_cons,List.flatMap_append,List.length_append]
 have h5:([[x.Voter],zgB x.Ciphers].flatMap zbV).length=2+(2*x.Ciphers.length+2):=by simp[zbV,h1];omega
 have h6:[x.Sum].length=1:=rfl
 omega
theorem zxa {l:List Int}(hl:l.length≤1000) (h:l.all zbq=true):(zbV l).all zbq=true:=by
 unfold zbV
 rw[List.all_cons,h,zc1.2 (show 0≤(l.length:Int)∧(l.length:Int)≤4611686018427387903 by omega)];rfl
theorem zrI {x:Sealed}(O:SeOk x):(zdu x).all zbq=true:=by
 have hl:=zn0 O
 have hn:((zhU x).flatMap zbV).length+1≤352:=by simpa[zdu,zgj]using hl
 have hp:∀p∈zhU x,p.all zbq=true:=by
  intro p hp
  rcases List.mem_append.1 hp with hp|hp
  ·simp only[List.mem_cons,List.not_mem_nil,or_false]at hp
   rcases hp with rfl|rfl
   ·have:=O.v
    simp[zbq];omega
   ·exact zrQ O.n O.c
  ·obtain⟨z,hz,rfl⟩:=List.mem_map.1 hp
   exact(O.p z hz).d
 unfold zdu zgj
 have hpl:(zhU x).length≤11:=by
  have:=O.m
  unfold zhU;simp;omega
 rw[List.all_cons,zc1.2 (show 0≤((zhU x).length:Int)∧((zhU x).length:Int)≤4611686018427387903 by omega),Bool.true_and,List.all_flatMap]
 refine List.all_eq_true.2 fun p hm=>?_
 obtain⟨i,hi,rfl⟩:=List.mem_iff_getElem.1 hm
 have:=ztb hi
 exact zxa (by omega) (hp _ hm)
theorem zy7 {x:Sealed}(O:SeOk x):zdi x=some (zdu x,true)∧zdn x=some (zdu x,true):=by
 have hl:=zn0 O
 have hd:=zrI O
 have hm:=O.m
 have hv:inB 0 999999 x.Voter=true:=zdg.2 O.v
 have hc:zc4 x.Ciphers=some (zgB x.Ciphers,true):=by
  unfold zc4
  rw[zpJ O.n,Option.bind_some,zmx]
  have:zir (zgB x.Ciphers)=true:=by
   have:=zrT x.Ciphers;have:=O.n
   unfold zir;rw[zrQ O.n O.c,decide_eq_true (by omega)];rfl
  rw[this];rfl
 constructor
 ·unfold zdi
  have hk:zbd x.Proofs=some x.Proofs:=by
   unfold zbd
   rw[zcu (by omega)]
  have hS:=zi1 (σ:=(List (List Int))) (γ:=(List (List Int)) ⊕ (List Int×Bool)) (n:=(x.Proofs++[x.Sum]).length) (stop:=fun s13=>.inl s13) (s0:=[[x.Voter],zgB x.Ciphers]) (body:=fun i14 s13=>
   (ix (x.Proofs++[x.Sum]) i14).bind fun x21=>
   (zcU x21).bind fun z22=>
   if(!z22.2)=true then(
   some (.out (.inr ([],false))))else(
   gd ((s13.length+1)*24≤140737488355328∧s13.length+1≤4611686018427387904)<|
   some (.go (s13++[z22.1])))) (fun i=>[[x.Voter],zgB x.Ciphers]++((x.Proofs++[x.Sum]).take i).map zeX) (by simp) fun i hi=>by
    have o:=O.p _ (List.getElem_mem hi)
    have oa:=o.a;have ob:=o.b;have oc:=o.c
    have e:=zrL (x.Proofs++[x.Sum])[i]
    have hr:zir (zeX (x.Proofs++[x.Sum])[i])=true:=by unfold zir;rw[o.d,decide_eq_true (by omega)];rfl
    have he:=zoU (p:=(x.Proofs++[x.Sum])[i]) (by omega) (by omega) (by omega)
    rw[if_pos hr]at he
    have hi2:=hi
    rw[List.length_append]at hi2
    refine zbi hi (zad he (zbU rfl (zap (by rw[List.length_append,List.length_map,List.length_take,List.length_append];simp at hi2⊢;omega) (zae ?_))))
    rw[List.take_succ_eq_append_getElem hi,List.map_append,←List.append_assoc];rfl
  rw[List.take_length]at hS
  refine zah (zad hc (zaC (ψ:=(· =false)) (zbU rfl (zad (znu _) (zbU (by rw[hv];rfl) (zae (decide_eq_false (by omega)))))) ?_))
  rintro _ rfl
  refine zbU rfl (zad hk (zap (by omega) (zad hS ?_)))
  exact zad (zxG (L:=zhU x) (by show(zdu x).length≤400;omega) hd) (zae rfl)
 unfold zdn zga
 have hS:=zi1 (σ:=(List (List Int))) (n:=x.Proofs.length) (stop:=fun s5=>s5) (s0:=[[x.Voter],zgB x.Ciphers]) (body:=fun i6 s5=>
  (ix x.Proofs i6).bind fun x12=>
  (zdO x12).bind fun z13=>
  gd ((s5.length+1)*24≤140737488355328∧s5.length+1≤4611686018427387904)<|
  some (.go (s5++[z13]))) (fun i=>[[x.Voter],zgB x.Ciphers]++(x.Proofs.take i).map zeX) (by simp) fun i hi=>by
   have o:=O.p x.Proofs[i] (List.mem_append.2 (.inl (List.getElem_mem hi)))
   have oa:=o.a;have ob:=o.b;have oc:=o.c
   refine zbi hi (zad (zp8 (by omega) (by omega) (by omega)) (zap (by rw[List.length_append,List.length_map,List.length_take];simp;omega) (zae ?_)))
   rw[List.take_succ_eq_append_getElem hi,List.map_append,←List.append_assoc];rfl
 rw[List.take_length]at hS
 have o:=O.p x.Sum (by simp)
 have oa:=o.a;have ob:=o.b;have oc:=o.c
 have hcs:zeR x.Ciphers=some (zgB x.Ciphers):=by
  unfold zeR
  rw[zpJ O.n];rfl
 have hpar:[[x.Voter],zgB x.Ciphers]++x.Proofs.map zeX++[zeX x.Sum]=zhU x:=by
  unfold zhU
  rw[List.map_append,List.append_assoc];rfl
 have hif:zgr (zdu x)=some (zdu x,true):=by
  unfold zgr zfN
  rw[if_pos (decide_eq_true (by omega)),zlu]
  have e:((zdu x).all fun z=>decide (0≤z)&&decide (z≤4611686018427387903))=true:=hd
  rw[e];rfl
 refine zah (zad (zsi _ _ _) (zbU (by rw[hv];rfl) (zad (a:=zdu x) (zah (zad hcs (zad hS (zad (zp8 (by omega) (by omega) (by omega)) (zap (by rw[List.length_append,List.length_map];simp;omega) ?_))))) ?_)))
 ·rw[hpar]
  exact zad (zvT (L:=zhU x) (by show(zdu x).length≤400;omega)) (zae rfl)
 exact zad hif (zae rfl)
def seaL:ByteArray:=⟨#[115,101,97,108,101,100]⟩
theorem zzu {x:Sealed}(O:SeOk x):zdj x=some (zkU seaL (zdu x),true)∧zdm x=some (zkU seaL (zdu x),true):=by
 obtain⟨h1,h2⟩:=zy7 O
 have hl:=zn0 O
 have hd:=zrI O
 have hs:seaL.size=6:=rfl
 have hb:zhm seaL (zdu x)=true:=by
  unfold zhm
  rw[hd,decide_eq_true (show seaL.size≤40 by omega),decide_eq_true (show 1+seaL.size+(zdu x).length≤400 by omega)];rfl
 constructor
 ·unfold zdj
  refine zah (zad h1 (zbU rfl (zad (a:=(zkU seaL (zdu x),true)) ?_ (zae rfl))))
  have:=zjC seaL (zdu x)
  rw[if_pos hb]at this
  exact this
 unfold zdm
 refine zah (zad h2 (zbU rfl (zad (a:=(zkU seaL (zdu x),true)) (zah ?_) (zae rfl))))
 have w:IntKind.i64.wrap (IntKind.i64.wrap (IntKind.i64.wrap (1+(seaL.size:Int))+((zdu x).length:Int))+0)=7+((zdu x).length:Int):=by
  rw[hs,zag (n:=1+((6:Nat):Int)) (by omega) (by omega),zag (n:=1+((6:Nat):Int)+((zdu x).length:Int)) (by omega) (by omega),zag (by omega) (by omega)];omega
 have e:((zdu x).all fun z=>decide (0≤z)&&decide (z≤4611686018427387903))=true:=hd
 have hlb:ze0 seaL (zdu x) 0=some true:=by
  unfold ze0
  rw[if_pos (decide_eq_true (show(seaL.size:Int)≤40 by omega)),zlu,e,w,decide_eq_true (show 7+((zdu x).length:Int)≤400 by omega)];rfl
 unfold zer
 exact zad hlb (zbU rfl (zad (zjb (s:=seaL) (l:=zdu x) (by omega) (by omega) hd) (zae rfl)))
theorem zBN (gr:Group) (key:Int) (ct:Contest) (voter:Int) {v coins:List Int}(hv:v.length≤1048576):∃y,zdW gr key ct voter v coins=some y∧zdZ gr key ct voter v coins=some y∧(y.2=true→zbq y.1=true):=by
 obtain⟨⟨x,t⟩,h1,h2,h3⟩:=zxT gr key ct voter (coins:=coins) hv
 unfold zdW zdZ
 cases t with
 |false=>exact⟨(0,false),zah (zad h1 (zke rfl (zae rfl))),zah (zad h2 (zke rfl (zae rfl))),fun h=>by cases h⟩
 |true=>
  obtain⟨d1,d2⟩:=zzu (h3 rfl)
  exact⟨_,zah (zad h1 (zbU rfl (zad d1 (zae rfl)))),zah (zad h2 (zbU rfl (zad d2 (zae rfl)))),fun _=>zkh _ _⟩
theorem zpM {v:List Int}(h:v.length≤1048576):zeA v=some v:=by
 unfold zeA
 rw[zcu (by omega),Option.bind_some]
 have e:za8 (σ:=(List Int)×Int) (fun s15=>
  if decide (s15.2<(v.length:Int))=true then(
  (ix v s15.2).bind fun x21=>
  (ix s15.1 s15.2).bind fun x22=>
  some (.go (s15.1.set s15.2.toNat x21,IntKind.i64.wrap (s15.2+1))))else(
  some (.out s15.1))) (List.replicate v.length 0,0)=some v:=by
  refine zah (zgD v.length (fun i s=>s=(v.take i++List.replicate (v.length-i) 0,(i:Int))∧i≤v.length) ⟨rfl,by omega⟩ ?_ ?_)
  ·rintro i s hi ⟨rfl,_⟩
   have hl:(v.take i++List.replicate (v.length-i) (0:Int)).length=v.length:=by simp;omega
   refine zke (by simpa using hi) (zbi hi (zbi (by rw[hl];exact hi) (zae ⟨?_,by omega⟩)))
   have hr:List.replicate (v.length-i) (0:Int)=0::List.replicate (v.length-(i+1)) 0:=by rw[show v.length-i=(v.length-(i+1))+1 by omega];rfl
   have ht:(v.take i).length=i:=by rw[List.length_take];omega
   have hset:(v.take i++List.replicate (v.length-i) (0:Int)).set i v[i]=v.take (i+1)++List.replicate (v.length-(i+1)) 0:=by
    rw[hr,List.set_append_right _ _ (by omega),ht,Nat.sub_self,List.take_succ_eq_append_getElem hi,List.append_assoc];rfl
   dsimp only
   rw[Int.toNat_natCast,hset,zag (n:=(i:Int)+1) (by omega) (by omega)];rfl
  ·rintro s ⟨rfl,_⟩
   exact zbU (by simp) (zae (show v.take v.length++List.replicate (v.length-v.length) 0=v by simp))
 rw[e];rfl
theorem zwP {v:List Int}(h:v.length≤1048576):zeE v v=some true:=by
 unfold zeE
 rw[if_neg (by simp)]
 have e:=zyR (β:=Bool) (step:=fun s5=>
  if decide (s5<(v.length:Int))=true then(
  (ix v s5).bind fun x11=>
  (ix v s5).bind fun x12=>
  if(x11 !=x12)=true then(
  some (.out (.inr false)))else(
  some (.go (IntKind.i64.wrap (s5+1)))))else(
  some (.out (.inl ())))) v.length (fun k hk=>by
   rw[if_pos (by simpa using hk),zeq hk,Option.bind_some,Option.bind_some,if_neg (by simp),zag (n:=(k:Int)+1) (by omega) (by omega)];rfl) (by rw[if_neg (by simp)])
 rw[e];rfl
theorem zyf (gr:Group) (key:Int) (ct:Contest) {s:Session}(h:s.Vote.length≤1048576):∃y,zdk gr key ct s=some y∧zdo gr key ct s=some y:=by
 obtain⟨⟨d,t⟩,h1,h2,_⟩:=zBN gr key ct s.Voter (coins:=s.Coins) h
 unfold zdk zdo
 simp only[h1,h2,zj1,ztt,Option.bind_some]
 cases s.Cast<;>cases zbq s.Receipt<;>cases t<;>exact⟨_,rfl,rfl⟩
def seL (s:Session):Prop:=s.Vote.length≤1048576∧s.Coins.length≤1048576
theorem zxs {s:Session}(h:seL s):zcK s=some s:=by
 unfold zcK
 rw[zpM h.1,Option.bind_some,zpM h.2];rfl
theorem zxO {s:Session}(h:seL s):zeh s s=some true:=by
 unfold zeh
 simp only[zwP h.1,zwP h.2,bne_self_eq_false,Bool.not_true,Bool.false_eq_true,if_false,Option.bind_some]
theorem zwG {l:List Int}{k:Int}(h:l.length≤1048576) (h0:0≤k∧k≤1048576):Rn (zey l k) (fun z=>z=-1∨0≤z∧z≤1048576):=by
 unfold zey
 rw[zag (n:=k-(l.length:Int)) (by omega) (by omega)]
 refine zbv (fun _=>zae (.inl rfl)) fun g=>zae (.inr ?_)
 have:=of_decide_eq_false g
 omega
theorem zxP {s:Session}(h:seL s) {k:Int}(h0:0≤k∧k≤1048576):Rn (zel s k) (fun z=>z=-1∨0≤z∧z≤1048576):=by
 unfold zel
 refine zaC (zwG h.1 h0) fun z hz=>zbv (fun _=>zae (.inl rfl)) fun g=>?_
 have:=of_decide_eq_false g
 refine zaC (zwG h.2 (by omega)) fun y hy=>zbv (fun _=>zae (.inl rfl)) fun g=>zae hy
theorem zAO (gr:Group) (key:Int) (ct:Contest) (s:Session) (h:seL s):zbW gr key ct s=some true:=by
 unfold zbW
 refine zah (zaC (zxP h (by omega)) fun z _=>zbv (fun _=>zae rfl) fun _=>?_)
 have ht:=zxs h
 have he:=zxO h
 have hg:zfb gr=some gr:=rfl
 have hc:zef ct=some ct:=rfl
 obtain⟨y,y1,y2⟩:=zyf gr key ct h.1
 refine zad hg (zad hc (zad ht (zad y2 (zad ht (zad hg (zad hc (zad y1 (zaC (ψ:=(· =false)) (zbU (by simp) (zae (by simp))) ?_))))))))
 rintro _ rfl
 exact zbU rfl (zad ht (zad he (zbU rfl (zae rfl))))
end
end Go.Pm
