/-
  FnExactAuditDay: plain laws.
  No condition.
-/
import Derived.Test.YtnbbkiilkaebaaaGreatDoorM38b
import Derived.Test.YtnbbkiilkaebaaaGreatDoorPmZ
namespace Go.Pm
open Go.Am
set_option linter.unusedVariables false
noncomputable section
def zmo (a0:List Int) (a1:Int):Option Int:=
 ((zak (σ:=Int) (fun i5 s4=>
 (ix a0 i5).bind fun x11=>
 gd (a1≠0)<|
 some (.go ((IntKind.i64.wrap (s4+x11)).tmod a1))) (fun s4=>s4) (a0.length) 0 0:Option Int).bind fun x3=>
 some x3)
set_option linter.unusedVariables false
set_option linter.unusedSimpArgs false
def MI:List Int→Int→Prop
 |[],_=>True
 |x::l,k=>x=k∧MI l (k+1)
theorem zzA:∀{l:List Int}{k:Int}(i:Nat) (h:i<l.length),MI l k→l[i]=k+i:=by
 intro l
 induction l with
 |nil=>intro k i h;simp at h
 |cons x l ih=>
  intro k i h hm
  cases i with
  |zero=>simp[hm.1]
  |succ i=>
   have:=ih (k:=k+1) i (by simpa using h) hm.2
   simp only[List.getElem_cons_succ,this]
   push_cast;omega
theorem zBT:∀{l:List Int}{k:Int},(∀(i:Nat) (h:i<l.length),l[i]=k+i)→MI l k:=by
 intro l
 induction l with
 |nil=>intro k _;trivial
 |cons x l ih=>
  intro k h
  refine⟨by have h1:x=k+((0:Nat):Int):=h 0 (by simp);rw[h1];simp,ih fun i hi=>?_⟩
  have:=h (i+1) (by simpa using hi)
  simp only[List.getElem_cons_succ]at this
  rw[this];push_cast;omega
theorem zol (l:List Int) (k:Int) (h0:0≤k) (hk:k+l.length≤1152921504606846976) (hl:l.length≤1048576):∃r,zbW l k=some (k+l.length,r)∧r.length=l.length∧MI r k:=by
 unfold zbW
 obtain⟨x,e,r,rfl,h1,h2⟩:=zkp (σ:=(List Int)×Int×Int) (β:=(List Int×Int)) (step:=fun s29=>
  if decide (s29.2.2<(s29.1.length:Int))=true then(
  (ix s29.1 s29.2.2).bind fun x40=>
  some (.go (s29.1.set s29.2.2.toNat s29.2.1,IntKind.i64.wrap (s29.2.1+1),IntKind.i64.wrap (s29.2.2+1))))else(
  some (.out (s29.1,s29.2.1)))) (s0:=(l,k,0)) l.length
  (fun i s=>∃r:List Int,s=(r,k+(i:Int),(i:Int))∧r.length=l.length∧∀(j:Nat) (h:j<r.length),j<i→r[j]=k+j)
  (fun x=>∃r:List Int,x=(r,k+l.length)∧r.length=l.length∧MI r k)
  ⟨l,by simp,rfl,fun j h1 h2=>by omega⟩
  (by
    rintro i s hi ⟨r,rfl,h1,h2⟩
    have hd:decide ((i:Int)<(r.length:Int))=true:=by simp only[decide_eq_true_eq];omega
    refine .inl ⟨(r.set i (k+i),k+((i+1:Nat):Int),((i+1:Nat):Int)),?_,r.set i (k+i),rfl,by simp[h1],fun j hj hji=>?_⟩
    ·simp only[hd,if_true,zdO (l:=r) (k:=i) (by omega),Option.bind_some,Int.toNat_natCast]
     rw[zag (n:=(i:Int)+1) (by omega) (by omega),zag (by omega) (by omega)]
     have e1:k+(i:Int)+1=k+((i+1:Nat):Int):=by push_cast;omega
     have e2:(i:Int)+1=((i+1:Nat):Int):=by push_cast;rfl
     rw[e1,e2]
    ·rw[List.getElem_set]
     split
     ·rename_i e;subst e;rfl
     ·exact h2 j (by simpa using hj) (by omega))
  (by
    rintro s ⟨r,rfl,h1,h2⟩
    exact⟨(r,k+l.length),by simp[h1],r,rfl,h1,zBT fun i hi=>h2 i hi (by omega)⟩)
 rw[e,Option.bind_some]
 exact⟨r,rfl,h1,h2⟩
theorem zxw (l:List Int) (k:Int) (h0:0≤k) (hk:k+l.length≤1152921504606846976) (hl:l.length≤1048576) (hm:MI l k):zdZ l k=some (k+l.length):=by
 unfold zdZ
 obtain⟨x,e,rfl⟩:=zkp (σ:=Int×Int) (β:=Int ⊕ Int) (step:=fun s7=>
  if decide (s7.2<(l.length:Int))=true then(
  (ix l s7.2).bind fun x18=>
  if(x18 !=s7.1)=true then(
  some (.out (.inr (-1))))else(
  some (.go (IntKind.i64.wrap (s7.1+1),IntKind.i64.wrap (s7.2+1)))))else(
  some (.out (.inl s7.1)))) (s0:=(k,0)) l.length (fun i s=>s=(k+(i:Int),(i:Int))) (fun x=>x=.inl (k+l.length)) (by simp)
  (by
    rintro i s hi rfl
    have hd:decide ((i:Int)<(l.length:Int))=true:=by simpa using hi
    refine .inl ⟨(k+((i+1:Nat):Int),((i+1:Nat):Int)),?_,rfl⟩
    simp only[hd,if_true,zdO hi,Option.bind_some,zzA i hi hm,bne_self_eq_false,Bool.false_eq_true,if_false]
    rw[zag (n:=(i:Int)+1) (by omega) (by omega),zag (by omega) (by omega)]
    have e1:k+(i:Int)+1=k+((i+1:Nat):Int):=by push_cast;omega
    have e2:(i:Int)+1=((i+1:Nat):Int):=by push_cast;rfl
    rw[e1,e2])
  (by
    rintro s rfl
    exact⟨_,by simp,rfl⟩)
 rw[e];rfl
theorem zdc (a b c:Int):zax a b c=some (decide (b≤a)&&decide (a≤c)):=by
 unfold zax
 by_cases h:b≤a<;>simp[h]
theorem zhb (a b c:Int):zaX a b c=some (decide (b≤a)&&decide (a≤c)):=by
 unfold zaX
 by_cases h:b≤a<;>simp[h]
theorem zmw (a:Int):zey a=some (decide (2≤a)&&decide (a≤2000000000)):=by
 unfold zey
 rw[zdc];rfl
theorem zcC (a b:Nat):(a:Int).tmod (b:Int)=((a%b:Nat):Int):=by rw[Int.tmod_eq_emod_of_nonneg (by omega)];exact(Int.natCast_emod _ _).symm
theorem zuH (a b:Nat):(a:Int).tdiv (b:Int)=((a/b:Nat):Int):=by rw[Int.tdiv_eq_ediv_of_nonneg (by omega)];exact(Int.natCast_ediv _ _).symm
theorem zgR (a b:Nat):(a:Int)*(b:Int)=((a*b:Nat):Int):=(Int.natCast_mul _ _).symm
theorem zx0 {e:Nat}(he:e≤9223372036854775807):IntKind.i64.wrap (BitVec.ofInt IntKind.i64.bits (e:Int)&&&BitVec.ofInt IntKind.i64.bits 1).toNat=((e%2:Nat):Int):=by
 have h1:(BitVec.ofInt IntKind.i64.bits (e:Int)&&&BitVec.ofInt IntKind.i64.bits 1).toNat=e%2:=by
  rw[BitVec.toNat_and]
  have a1:(BitVec.ofInt IntKind.i64.bits (e:Int)).toNat=e:=by
   rw[BitVec.toNat_ofInt]
   have:IntKind.i64.bits=64:=rfl
   rw[this]
   omega
  have a2:(BitVec.ofInt IntKind.i64.bits 1).toNat=1:=by decide
  rw[a1,a2,Nat.and_one_is_mod]
 rw[h1,zag (by omega) (by omega)]
theorem zx7 {a e m:Nat}(ha:a≤2000000000) (hm:1≤m) (hm2:m≤2000000000) (he:e≤9223372036854775807):zdT (a:Int) (e:Int) (m:Int)=some ((a^e%m:Nat):Int):=by
 unfold zdT
 refine zah (zap (by omega) (zav (φ:=(· =((a^e%m:Nat):Int))) (zi8 (φ:=(· =((a^e%m:Nat):Int))) (fun s=>∃x y o:Nat,s=((x:Int),(y:Int),(o:Int))∧x≤2000000000∧y≤e∧o<m∧o*x^y%m=a^e%m) (fun s=>s.2.1.toNat)
  ⟨a,e,1%m,by rw[show(1:Int)=((1:Nat):Int)from rfl,zcC],ha,Nat.le_refl _,Nat.mod_lt _ (by omega),by rw[Nat.mod_mul_mod,Nat.one_mul]⟩ ?_) fun x hx=>zae hx))
 rintro s ⟨x,y,o,rfl,hx,hy,ho,hi⟩
 refine zbo (fun h0=>?_) fun h0=>?_
 ·have h0:0<y:=by simpa using h0
  have hox:o*x≤4000000000000000000:=Nat.le_trans (Nat.mul_le_mul (show o≤2000000000 by omega) hx) (by decide)
  have hxx:x*x≤4000000000000000000:=Nat.le_trans (Nat.mul_le_mul hx hx) (by decide)
  refine zav (ψ:=fun o'=>∃k:Nat,o'=(k:Int)∧k<m∧k*(x*x)^(y/2)%m=a^e%m) ?_ ?_
  ·simp only[zx0 (show y≤9223372036854775807 by omega)]
   refine zbo (fun h1=>zap (by omega) (zae ⟨o*x%m,?_,Nat.mod_lt _ (by omega),?_⟩)) fun h1=>zae ⟨o,rfl,ho,?_⟩
   ·rw[zgR,zag (by omega) (by omega),zcC]
   ·have h1:y%2=1:=by
     have:((y%2:Nat):Int)=1:=by simpa using h1
     omega
    rw[Nat.mod_mul_mod,←hi,←Nat.pow_two,←Nat.pow_mul,Nat.mul_assoc,←Nat.pow_succ']
    congr 3;omega
   have h1:y%2=0:=by
    have:¬((y%2:Nat):Int)=1:=by simpa using h1
    omega
   rw[←hi,←Nat.pow_two,←Nat.pow_mul]
   congr 3;omega
  rintro o' ⟨k,rfl,hk,hk2⟩
  refine zap (by omega) (zae ⟨⟨x*x%m,y/2,k,?_,by have:=Nat.mod_lt (x*x) (show 0<m by omega);omega,by omega,hk,?_⟩,?_⟩)
  ·rw[zgR,zag (by omega) (by omega),zcC]
   have e3:(y:Int).fdiv 2=((y/2:Nat):Int):=by rw[Int.fdiv_eq_ediv_of_nonneg _ (by omega)];rfl
   show(_,(y:Int).fdiv 2,_)=_
   rw[e3]
  ·rw[Nat.mul_mod,←Nat.pow_mod,←Nat.mul_mod]
   exact hk2
  show((y:Int).fdiv 2).toNat<(y:Int).toNat
  rw[Int.fdiv_eq_ediv_of_nonneg _ (by omega)]
  omega
 have h0:y=0:=by
  have:¬(0<y):=by simpa using h0
  omega
 subst h0
 refine zae ?_
 show(o:Int)=_
 rw[Nat.pow_zero,Nat.mul_one,Nat.mod_eq_of_lt ho]at hi
 rw[hi]
theorem zw0 {a e m:Nat}(ha:a≤2000000000) (hm:1≤m) (hm2:m≤2000000000) (he:e≤9223372036854775807):zdp (a:Int) (e:Int) (m:Int)=some ((a^e%m:Nat):Int):=by
 unfold zdp
 refine zah (zap (by omega) (zav (φ:=(· =((a^e%m:Nat):Int))) (zi8 (φ:=(· =((a^e%m:Nat):Int))) (fun s=>∃x y o:Nat,s=((x:Int),(y:Int),(o:Int))∧x≤2000000000∧y≤e∧o<m∧o*x^y%m=a^e%m) (fun s=>s.2.1.toNat)
  ⟨a,e,1%m,by rw[show(1:Int)=((1:Nat):Int)from rfl,zcC],ha,Nat.le_refl _,Nat.mod_lt _ (by omega),by rw[Nat.mod_mul_mod,Nat.one_mul]⟩ ?_) fun x hx=>zae hx))
 rintro s ⟨x,y,o,rfl,hx,hy,ho,hi⟩
 refine zbo (fun h0=>?_) fun h0=>?_
 ·have h0:0<y:=by simpa using h0
  have hox:o*x≤4000000000000000000:=Nat.le_trans (Nat.mul_le_mul (show o≤2000000000 by omega) hx) (by decide)
  have hxx:x*x≤4000000000000000000:=Nat.le_trans (Nat.mul_le_mul hx hx) (by decide)
  have e2:(y:Int).tmod 2=((y%2:Nat):Int):=zcC y 2
  refine zav (ψ:=fun o'=>∃k:Nat,o'=(k:Int)∧k<m∧k*(x*x)^(y/2)%m=a^e%m) ?_ ?_
  ·simp only[e2]
   refine zbo (fun h1=>zap (by omega) (zae ⟨o*x%m,?_,Nat.mod_lt _ (by omega),?_⟩)) fun h1=>zae ⟨o,rfl,ho,?_⟩
   ·rw[zgR,zag (by omega) (by omega),zcC]
   ·have h1:y%2=1:=by
     have:((y%2:Nat):Int)=1:=by simpa using h1
     omega
    rw[Nat.mod_mul_mod,←hi,←Nat.pow_two,←Nat.pow_mul,Nat.mul_assoc,←Nat.pow_succ']
    congr 3;omega
   have h1:y%2=0:=by
    have:¬((y%2:Nat):Int)=1:=by simpa using h1
    omega
   rw[←hi,←Nat.pow_two,←Nat.pow_mul]
   congr 3;omega
  rintro o' ⟨k,rfl,hk,hk2⟩
  have e3:(y:Int).tdiv 2=((y/2:Nat):Int):=zuH y 2
  refine zap (by omega) (zae ⟨⟨x*x%m,y/2,k,?_,by have:=Nat.mod_lt (x*x) (show 0<m by omega);omega,by omega,hk,?_⟩,?_⟩)
  ·simp only[e3]
   rw[zgR,zag (n:=((x*x:Nat):Int)) (by omega) (by omega),zcC,zag (n:=((y/2:Nat):Int)) (by omega) (by omega)]
  ·rw[Nat.mul_mod,←Nat.pow_mod,←Nat.mul_mod]
   exact hk2
  show(IntKind.i64.wrap ((y:Int).tdiv 2)).toNat<(y:Int).toNat
  rw[e3,zag (by omega) (by omega)]
  omega
 have h0:y=0:=by
  have:¬(0<y):=by simpa using h0
  omega
 subst h0
 refine zae ?_
 show(o:Int)=_
 rw[Nat.pow_zero,Nat.mul_one,Nat.mod_eq_of_lt ho]at hi
 rw[hi]
theorem zsZ {a q:Int}(h0:0<q) (h1:q≤2000000000):zgp a q=some (a%q):=by
 unfold zgp
 rw[zcu (by omega),zcu (by omega)]
 have b1:a.tmod q<q:=Int.tmod_lt_of_pos a h0
 have b2: -q<a.tmod q:=by
  have:=Int.lt_tmod_of_pos a h0
  omega
 rw[zag (by omega) (by omega),Int.tmod_eq_emod_of_nonneg (by omega)]
 congr 1
 rw[Int.add_emod_right]
 rw[Int.tmod_def,Int.sub_emod,Int.mul_emod_right,Int.sub_zero,Int.emod_emod]
theorem zqD {a q:Int}(h0:0<q) (h1:q≤2000000000):zfU a q=some (a%q):=by
 unfold zfU
 rw[zcu (by omega),zcu (by omega)]
 have b1:a.tmod q<q:=Int.tmod_lt_of_pos a h0
 have b2: -q<a.tmod q:=by
  have:=Int.lt_tmod_of_pos a h0
  omega
 rw[zag (by omega) (by omega),Int.tmod_eq_emod_of_nonneg (by omega)]
 congr 1
 rw[Int.add_emod_right]
 rw[Int.tmod_def,Int.sub_emod,Int.mul_emod_right,Int.sub_zero,Int.emod_emod]
def Pr (n:Nat):Prop:=2≤n∧∀d,2≤d→d*d≤n→n%d≠0
open Classical in
def prB (n:Int):Bool:=decide (Pr n.toNat)
theorem zhT {n:Nat}:prB (n:Int)=true↔Pr n:=by simp[prB]
theorem zqy (n:Int) (h:n≤2000000000):zeK n=some (prB n):=by
 unfold zeK
 refine zah (zbo (fun h0=>zae ?_) fun h0=>?_)
 ·have h0:n<2:=by simpa using h0
  symm
  unfold prB
  rw[decide_eq_false_iff_not]
  intro hp
  have:=hp.1
  omega
 have h0:¬n<2:=by simpa using h0
 obtain⟨n,rfl⟩:=Int.eq_ofNat_of_zero_le (show 0≤n by omega)
 refine zav (ψ:=fun b=>(b=.inl ()∧Pr n)∨(b=.inr false∧¬Pr n)) (zi8 (fun s=>∃d:Nat,s=(d:Int)∧2≤d∧d≤44723∧∀k,2≤k→k<d→k*k≤n→n%k≠0) (fun s=>50000-s.toNat) ⟨2,rfl,by omega,by omega,fun k h1 h2=>by omega⟩ ?_) ?_
 ·rintro s ⟨d,rfl,hd,hd2,hi⟩
  have hdd:d*d≤2000146729:=Nat.le_trans (Nat.mul_le_mul hd2 hd2) (by decide)
  rw[zgR,zag (by omega) (by omega)]
  refine zbo (fun h1=>zap (by omega) (zbo (fun h2=>zae (.inr ⟨rfl,?_⟩)) fun h2=>zae ?_)) fun h1=>zae (.inl ⟨rfl,by omega,fun k hk hkn=>?_⟩)
  ·have h1:d*d≤n:=by have:=of_decide_eq_true h1;omega
   rw[zcC]at h2
   have h2 : n % d = 0 := by have:((n%d:Nat):Int)=0:=by simpa using h2
                             omega
   exact fun hp=>hp.2 d hd h1 h2
  ·have h1:d*d≤n:=by have:=of_decide_eq_true h1;omega
   rw[zcC]at h2
   have h2 : n % d ≠ 0 := by have:¬((n%d:Nat):Int)=0:=by simpa using h2
                             omega
   have hd3:d≤44722:=by
    rcases Nat.lt_or_ge d 44723 with h|h
    ·omega
    ·have:44723*44723≤d*d:=Nat.mul_le_mul h h
     omega
   rw[zag (by omega) (by omega)]
   refine⟨⟨d+1,rfl,by omega,by omega,fun k h3 h4 h5=>?_⟩,by omega⟩
   rcases Nat.lt_or_ge k d with h|h
   ·exact hi k h3 h h5
   have:k=d:=by omega
   subst this
   exact h2
  have h1:n<d*d:=by have:=of_decide_eq_false h1;omega
  rcases Nat.lt_or_ge k d with h|h
  ·exact hi k hk h hkn
  have:=Nat.mul_le_mul h h
  omega
 rintro b (⟨rfl,hp⟩|⟨rfl,hp⟩)
 ·exact zae (zhT.2 hp).symm
 refine zae ?_
 symm
 unfold prB
 rw[decide_eq_false_iff_not]
 exact hp
theorem zo1 (n:Int):zes n=some (decide (n≤2000000000)&&prB n):=by
 unfold zes
 by_cases h:2≤n∧n≤2000000000
 ·obtain⟨n,rfl⟩:=Int.eq_ofNat_of_zero_le (show 0≤n by omega)
  have e2:((n:Int)).tmod 2=((n%2:Nat):Int):=zcC n 2
  have em:(decide (2≤(n:Int))&&decide ((n:Int)≤2000000000))=true:=by simp only[Bool.and_eq_true,decide_eq_true_eq];exact h
  rw[show(decide ((n:Int)≤2000000000)&&prB (n:Int))=prB (n:Int)by simp[h.2]]
  refine zah (zav (ψ:=fun b=>b=decide (n%2=0∧n≠2)) (zad (zmw _) ?_) ?_)
  ·rw[em]
   refine za8 rfl ?_
   rw[e2]
   refine zbo (fun h1=>zae ?_) fun h1=>zae ?_
   ·have h1 : n % 2 = 0 := by have:((n%2:Nat):Int)=0:=by simpa using h1
                              omega
    have:((n:Int) !=2)=decide (n≠2):=by
     by_cases hn:n=2
     ·subst hn;rfl
     ·have hn':¬(n:Int)=2:=by omega
      simp[hn,hn']
    rw[this];simp[h1]
   have h1 : n % 2 ≠ 0 := by have:¬((n%2:Nat):Int)=0:=by simpa using h1
                             omega
   simp[h1]
  rintro b rfl
  refine zbo (fun h1=>zae ?_) fun h1=>?_
  ·have h1:=of_decide_eq_true h1
   symm
   unfold prB
   rw[decide_eq_false_iff_not]
   intro hp
   have hn:4≤n:=by omega
   exact hp.2 2 (by omega) hn h1.1
  have h1:=of_decide_eq_false h1
  refine zav (ψ:=fun b=>(b=.inl ()∧Pr n)∨(b=.inr false∧¬Pr n)) (zi8 (fun s=>∃d:Nat,s=(d:Int)∧3≤d∧d%2=1∧d≤44725∧∀k,2≤k→k<d→k*k≤n→n%k≠0) (fun s=>50000-s.toNat) ⟨3,rfl,by omega,by omega,by omega,fun k h2 h3 h4=>?_⟩ ?_) ?_
  ·have:k=2:=by omega
   subst this
   intro h5
   exact h1 ⟨h5,by omega⟩
  ·rintro s ⟨d,rfl,hd,hodd,hd2,hi⟩
   have hdd:d*d≤2000325625:=Nat.le_trans (Nat.mul_le_mul hd2 hd2) (by decide)
   rw[zgR,zag (by omega) (by omega)]
   refine zbo (fun h1=>zap (by omega) (zbo (fun h2=>zae (.inr ⟨rfl,?_⟩)) fun h2=>zae ?_)) fun h1=>zae (.inl ⟨rfl,by omega,fun k hk hkn=>?_⟩)
   ·have h1:d*d≤n:=by have:=of_decide_eq_true h1;omega
    rw[zcC]at h2
    have h2 : n % d = 0 := by have:((n%d:Nat):Int)=0:=by simpa using h2
                              omega
    exact fun hp=>hp.2 d (by omega) h1 h2
   ·have h3:d*d≤n:=by have:=of_decide_eq_true h1;omega
    rw[zcC]at h2
    have h2 : n % d ≠ 0 := by have:¬((n%d:Nat):Int)=0:=by simpa using h2
                              omega
    have hd3:d≤44722:=by
     rcases Nat.lt_or_ge d 44723 with h|h
     ·omega
     ·have:44723*44723≤d*d:=Nat.mul_le_mul h h
      omega
    rw[zag (by omega) (by omega)]
    refine⟨⟨d+2,rfl,by omega,by omega,by omega,fun k h4 h5 h6 h7=>?_⟩,by omega⟩
    rcases Nat.lt_or_ge k d with h|h
    ·exact hi k h4 h h6 h7
    rcases(show k=d∨k=d+1 by omega)with e|e
    ·subst e;exact h2 h7
    have h8:n%2=0:=by
     have a1:k∣n:=Nat.dvd_of_mod_eq_zero h7
     have a2:2∣k:=Nat.dvd_of_mod_eq_zero (by omega)
     exact Nat.mod_eq_zero_of_dvd (Nat.dvd_trans a2 a1)
    have h9:2*2≤n:=by
     have:=Nat.mul_le_mul h4 h4
     omega
    exact hi 2 (by omega) (by omega) h9 h8
   have h1:n<d*d:=by have:=of_decide_eq_false h1;omega
   rcases Nat.lt_or_ge k d with h|h
   ·exact hi k hk h hkn
   have:=Nat.mul_le_mul h h
   omega
  rintro b (⟨rfl,hp⟩|⟨rfl,hp⟩)
  ·exact zae (zhT.2 hp).symm
  refine zae ?_
  symm
  unfold prB
  rw[decide_eq_false_iff_not]
  exact hp
 have em:(decide (2≤n)&&decide (n≤2000000000))=false:=by
  rw[Bool.and_eq_false_iff,decide_eq_false_iff_not,decide_eq_false_iff_not];omega
 rw[zmw,em]
 simp only[Option.bind_some,Bool.not_false,if_true]
 congr 1
 symm
 rw[Bool.and_eq_false_iff,decide_eq_false_iff_not]
 by_cases hn:n≤2000000000
 ·right
  unfold prB
  rw[decide_eq_false_iff_not]
  intro hp
  have:=hp.1
  omega
 exact .inl hn
structure OkG (gr:Group):Prop where
 p:3≤gr.P∧gr.P≤2000000000
 q:2≤gr.Q∧gr.Q≤gr.P-1
 d:(gr.P.toNat-1)%gr.Q.toNat=0
 g:2≤gr.G∧gr.G≤gr.P-1
 pp:Pr gr.P.toNat
 pq:Pr gr.Q.toNat
 o:gr.G.toNat^gr.Q.toNat%gr.P.toNat=1
open Classical in
def okG (gr:Group):Bool:=decide (OkG gr)
theorem zmb {gr:Group}:okG gr=true↔OkG gr:=by simp[okG]
theorem zgt {gr:Group}(h:¬OkG gr):okG gr=false:=by simp[okG,h]
theorem zuB {gr:Group}{b:Bool}(h1:b=true→OkG gr) (h2:OkG gr→b=true):b=okG gr:=by
 cases hb:b with
 |true=>exact(zmb.2 (h1 hb)).symm
 |false=>exact(zgt fun h=>by rw[h2 h]at hb;cases hb).symm
theorem zdF {a:Int}(h:0≤a):a=((a.toNat:Nat):Int):=by omega
theorem zjW {a e m:Int}(ha:0≤a) (ha2:a≤2000000000) (hm:1≤m) (hm2:m≤2000000000) (he:0≤e) (he2:e≤9223372036854775807):zdT a e m=some ((a.toNat^e.toNat%m.toNat:Nat):Int)∧zdp a e m=some ((a.toNat^e.toNat%m.toNat:Nat):Int):=by
 have h1:=zx7 (a:=a.toNat) (e:=e.toNat) (m:=m.toNat) (by omega) (by omega) (by omega) (by omega)
 have h2:=zw0 (a:=a.toNat) (e:=e.toNat) (m:=m.toNat) (by omega) (by omega) (by omega) (by omega)
 rw[←zdF ha,←zdF he,←zdF (show 0≤m by omega)]at h1 h2
 exact⟨h1,h2⟩
theorem zjp {a b:Bool}:(a&&b)=true↔a=true∧b=true:=by simp
theorem zmP (gr:Group):zbI gr=some (okG gr):=by
 unfold zbI
 refine zah (zav (ψ:=fun b=>b=okG gr) ?_ fun b hb=>zae hb)
 refine zad (zdc _ _ _) (zbo (fun h=>?_) fun h=>?_)
 ·have hp:3≤gr.P∧gr.P≤2000000000:=by simpa using h
  rw[zag (n:=gr.P-1) (by omega) (by omega)]
  refine zad (zdc _ _ _) (zbo (fun h=>?_) fun h=>?_)
  ·have hq:2≤gr.Q∧gr.Q≤gr.P-1:=by simpa using h
   have ed:(gr.P-1).tmod gr.Q=(((gr.P.toNat-1)%gr.Q.toNat:Nat):Int):=by
    rw[zdF (show 0≤gr.P-1 by omega),zdF (show 0≤gr.Q by omega),zcC]
    simp only[Int.toNat_natCast]
    congr 2;omega
   refine zap (by omega) ?_
   rw[ed]
   refine zbo (fun h=>?_) fun h=>?_
   ·have hd:(gr.P.toNat-1)%gr.Q.toNat=0:=by
     have:(((gr.P.toNat-1)%gr.Q.toNat:Nat):Int)=0:=by simpa using h
     omega
    refine zad (zdc _ _ _) (zbo (fun h=>?_) fun h=>?_)
    ·have hg:2≤gr.G∧gr.G≤gr.P-1:=by simpa using h
     refine zad (zo1 _) (zbo (fun h=>?_) fun h=>?_)
     ·have hpp:Pr gr.P.toNat:=by
       rw[zjp,zdF (show 0≤gr.P by omega),zhT]at h
       exact h.2
      refine zad (zo1 _) (zbo (fun h=>?_) fun h=>?_)
      ·have hpq:Pr gr.Q.toNat:=by
        rw[zjp,zdF (show 0≤gr.Q by omega),zhT]at h
        exact h.2
       refine zad (zjW (a:=gr.G) (e:=gr.Q) (m:=gr.P) (by omega) (by omega) (by omega) (by omega) (by omega) (by omega)).1 (zae (zuB (fun h=>⟨hp,hq,hd,hg,hpp,hpq,?_⟩) fun h=>?_))
       ·have:((gr.G.toNat^gr.Q.toNat%gr.P.toNat:Nat):Int)=1:=by simpa using h
        omega
       rw[h.o];rfl
      refine zae (zgt fun hk=>?_).symm
      have:(decide (gr.Q≤2000000000)&&prB gr.Q)=true:=by
       rw[zjp,zdF (show 0≤gr.Q by omega),zhT]
       exact⟨by simp;omega,hk.pq⟩
      rw[this]at h;cases h
     refine zae (zgt fun hk=>?_).symm
     have:(decide (gr.P≤2000000000)&&prB gr.P)=true:=by
      rw[zjp,zdF (show 0≤gr.P by omega),zhT]
      exact⟨by simp;omega,hk.pp⟩
     rw[this]at h;cases h
    refine zae (zgt fun hk=>?_).symm
    have:=hk.g
    simp at h;omega
   refine zae (zgt fun hk=>?_).symm
   rw[hk.d]at h;cases h
  refine zae (zgt fun hk=>?_).symm
  have:=hk.q
  simp at h;omega
 refine zae (zgt fun hk=>?_).symm
 have:=hk.p
 simp at h;omega
theorem zp4 (gr:Group):zfP gr=some (okG gr):=by
 unfold zfP
 refine zah (zav (ψ:=fun b=>b=okG gr) ?_ fun b hb=>zae hb)
 refine zad (zhb _ _ _) (zbo (fun h=>?_) fun h=>?_)
 ·have hp:3≤gr.P∧gr.P≤2000000000:=by simpa using h
  rw[zag (n:=gr.P-1) (by omega) (by omega)]
  refine zad (zhb _ _ _) (zbo (fun h=>?_) fun h=>?_)
  ·have hq:2≤gr.Q∧gr.Q≤gr.P-1:=by simpa using h
   have ed:(gr.P-1).tmod gr.Q=(((gr.P.toNat-1)%gr.Q.toNat:Nat):Int):=by
    rw[zdF (show 0≤gr.P-1 by omega),zdF (show 0≤gr.Q by omega),zcC]
    simp only[Int.toNat_natCast]
    congr 2;omega
   refine zap (by omega) ?_
   rw[ed]
   refine zbo (fun h=>?_) fun h=>?_
   ·have hd:(gr.P.toNat-1)%gr.Q.toNat=0:=by
     have:(((gr.P.toNat-1)%gr.Q.toNat:Nat):Int)=0:=by simpa using h
     omega
    refine zad (zhb _ _ _) (zbo (fun h=>?_) fun h=>?_)
    ·have hg:2≤gr.G∧gr.G≤gr.P-1:=by simpa using h
     refine zad (zjW (a:=gr.G) (e:=gr.Q) (m:=gr.P) (by omega) (by omega) (by omega) (by omega) (by omega) (by omega)).2 (zbo (fun h=>?_) fun h=>?_)
     ·have ho:gr.G.toNat^gr.Q.toNat%gr.P.toNat=1:=by
       have:((gr.G.toNat^gr.Q.toNat%gr.P.toNat:Nat):Int)=1:=by simpa using h
       omega
      refine zad (zqy _ (by omega)) (zbo (fun h=>?_) fun h=>?_)
      ·have hpq:Pr gr.Q.toNat:=by
        rw[zdF (show 0≤gr.Q by omega),zhT]at h
        exact h
       refine zad (zqy _ (by omega)) (zae (zuB (fun h=>⟨hp,hq,hd,hg,?_,hpq,ho⟩) fun h=>?_))
       ·rw[zdF (show 0≤gr.P by omega),zhT]at h
        exact h
       rw[zdF (show 0≤gr.P by omega),zhT]
       exact h.pp
      refine zae (zgt fun hk=>?_).symm
      have:prB gr.Q=true:=by
       rw[zdF (show 0≤gr.Q by omega),zhT]
       exact hk.pq
      rw[this]at h;cases h
     refine zae (zgt fun hk=>?_).symm
     rw[hk.o]at h;cases h
    refine zae (zgt fun hk=>?_).symm
    have:=hk.g
    simp at h;omega
   refine zae (zgt fun hk=>?_).symm
   rw[hk.d]at h;cases h
  refine zae (zgt fun hk=>?_).symm
  have:=hk.q
  simp at h;omega
 refine zae (zgt fun hk=>?_).symm
 have:=hk.p
 simp at h;omega
def zaD (gr:Group) (x:Int):Bool:=decide (1≤x)&&decide (x≤gr.P-1)&&decide (x.toNat^gr.Q.toNat%gr.P.toNat=1)
def zgW (gr:Group) (x:Int):Bool:=decide (0≤x)&&decide (x≤gr.Q-1)
theorem ztS {gr:Group}(k:OkG gr) (x:Int):zcS gr x=some (zaD gr x):=by
 have hp:=k.p
 have hq:=k.q
 unfold zcS zaD
 rw[zag (n:=gr.P-1) (by omega) (by omega),zdc]
 refine zah (zav (ψ:=fun b=>b=_) ?_ fun b hb=>zae hb)
 refine zad rfl (zbo (fun h=>?_) fun h=>?_)
 ·have hx:1≤x∧x≤gr.P-1:=by simpa using h
  refine zad (zjW (a:=x) (e:=gr.Q) (m:=gr.P) (by omega) (by omega) (by omega) (by omega) (by omega) (by omega)).1 (zae ?_)
  rw[h,Bool.true_and]
  by_cases h1:x.toNat^gr.Q.toNat%gr.P.toNat=1
  ·simp[h1]
  have:¬((x.toNat^gr.Q.toNat%gr.P.toNat:Nat):Int)=1:=by omega
  rw[beq_false_of_ne this,decide_eq_false h1]
 rw[h];exact zae rfl
theorem zBQ {gr:Group}(k:OkG gr) (l:List Int):zfD gr l=some (l.all (zaD gr)):=by
 have hp:=k.p
 have hq:=k.q
 unfold zfD
 rw[zag (n:=gr.P-1) (by omega) (by omega)]
 refine zah (zav (ψ:=fun b=>(b=.inl ()∧l.all (zaD gr)=true)∨(b=.inr false∧l.all (zaD gr)=false)) (zbf (fun i s=>(l.take i).all (zaD gr)=true) rfl ?_ ?_) ?_)
 ·rintro i s hi hI
  refine za6 hi (zav (ψ:=fun b=>b= !zaD gr l[i]) ?_ ?_)
  ·refine zad (zhb _ _ _) (zbo (fun h=>zae ?_) fun h=>?_)
   ·have h:(decide (1≤l[i])&&decide (l[i]≤gr.P-1))=false:=by rwa [Bool.not_eq_true']at h
    simp[zaD,h]
   have h:(decide (1≤l[i])&&decide (l[i]≤gr.P-1))=true:=by simpa using h
   have hx:1≤l[i]∧l[i]≤gr.P-1:=by simpa using h
   refine zad (zjW (a:=l[i]) (e:=gr.Q) (m:=gr.P) (by omega) (by omega) (by omega) (by omega) (by omega) (by omega)).2 (zae ?_)
   simp only[zaD,h,Bool.true_and]
   by_cases h1:l[i].toNat^gr.Q.toNat%gr.P.toNat=1
   ·simp[h1]
   have:¬((l[i].toNat^gr.Q.toNat%gr.P.toNat:Nat):Int)=1:=by omega
   simp only[bne,beq_false_of_ne this,decide_eq_false h1]
  rintro b rfl
  refine zbo (fun h=>zae (.inr ⟨rfl,?_⟩)) fun h=>zae ?_
  ·have h:zaD gr l[i]=false:=by simpa using h
   rw[List.all_eq_false]
   exact⟨l[i],List.getElem_mem hi,by simp[h]⟩
  have h:zaD gr l[i]=true:=by simpa using h
  show(l.take (i+1)).all (zaD gr)=true
  rw[List.take_succ_eq_append_getElem hi,List.all_append,hI]
  simp[h]
 ·rintro s hI
  rw[List.take_length]at hI
  exact .inl ⟨rfl,hI⟩
 rintro b (⟨rfl,h⟩|⟨rfl,h⟩)
 ·exact zae h.symm
 exact zae h.symm
theorem zlX (l:List Int) (a b:Int):zcm l a b=some (l.all fun x=>decide (a≤x)&&decide (x≤b)):=by
 unfold zcm
 refine zah (zav (ψ:=fun c=>(c=.inl ()∧(l.all fun x=>decide (a≤x)&&decide (x≤b))=true)∨(c=.inr false∧(l.all fun x=>decide (a≤x)&&decide (x≤b))=false)) (zbf (fun i s=>((l.take i).all fun x=>decide (a≤x)&&decide (x≤b))=true) rfl ?_ ?_) ?_)
 ·rintro i s hi hI
  refine za6 hi (zad (zhb _ _ _) (zbo (fun h=>zae (.inr ⟨rfl,?_⟩)) fun h=>zae ?_))
  ·rw[List.all_eq_false]
   exact⟨l[i],List.getElem_mem hi,by rw[Bool.not_eq_true']at h;rw[h];simp⟩
  show((l.take (i+1)).all fun x=>decide (a≤x)&&decide (x≤b))=true
  rw[List.take_succ_eq_append_getElem hi,List.all_append,hI]
  simpa using h
 ·rintro s hI
  rw[List.take_length]at hI
  exact .inl ⟨rfl,hI⟩
 rintro c (⟨rfl,h⟩|⟨rfl,h⟩)
 ·exact zae h.symm
 exact zae h.symm
theorem zym {gr:Group}(h:0≤gr.Q) (h2:gr.Q≤2000000000) (l:List Int):zge gr l=some (l.all (zgW gr)):=by
 unfold zge
 rw[zag (by omega) (by omega),zlX];rfl
theorem zsr {gr:Group}(h:0≤gr.Q) (h2:gr.Q≤2000000000) (x:Int):zc2 gr x=some (zgW gr x):=by
 unfold zc2
 rw[zag (by omega) (by omega),zdc];rfl
def zar (gr:Group) (x e:Int):Int:=((x.toNat^(e%gr.Q).toNat%gr.P.toNat:Nat):Int)
theorem zg3 {gr:Group}(k:OkG gr) (x e:Int):0≤zar gr x e∧zar gr x e≤gr.P-1:=by
 have hp:=k.p
 unfold zar
 have:=Nat.mod_lt (x.toNat^(e%gr.Q).toNat) (y:=gr.P.toNat) (by omega)
 omega
theorem znC {gr:Group}(k:OkG gr) {x:Int}(h0:0≤x) (h1:x≤2000000000) (e:Int):zaq gr x e=some (zar gr x e)∧zaJ gr x e=some (zar gr x e):=by
 have hp:=k.p
 have hq:=k.q
 have b1:0≤e%gr.Q:=Int.emod_nonneg _ (by omega)
 have b2:e%gr.Q<gr.Q:=Int.emod_lt_of_pos _ (by omega)
 have hw:=zjW (a:=x) (e:=e%gr.Q) (m:=gr.P) (by omega) (by omega) (by omega) (by omega) b1 (by omega)
 unfold zaq zaJ
 rw[zsZ (by omega) (by omega),zqD (by omega) (by omega),Option.bind_some,Option.bind_some,hw.1,hw.2]
 exact⟨rfl,rfl⟩
def zeB (gr:Group) (l:List Int):Int:=l.foldl (fun o x=>o*x%gr.P) 1
theorem zqz {gr:Group}(h:1≤gr.P):∀(l:List Int) (o:Int),0≤o→o≤gr.P→(∀x∈l,0≤x)→0≤l.foldl (fun o x=>o*x%gr.P) o∧l.foldl (fun o x=>o*x%gr.P) o≤gr.P:=by
 intro l
 induction l with
 |nil=>intro o h0 h1 _;exact⟨h0,h1⟩
 |cons x l ih=>
  intro o h0 h1 h2
  exact ih _ (Int.emod_nonneg _ (by omega)) (Int.le_of_lt (Int.emod_lt_of_pos (o*x) (show 0<gr.P by omega))) fun y hy=>h2 y (List.mem_cons_of_mem _ hy)
theorem zzS (gr:Group) (l:List Int):zbF gr l=zbd gr l:=rfl
theorem zpr {gr:Group}(k:OkG gr) {l:List Int}(hl:∀x∈l,0≤x∧x≤2000000000):zbd gr l=some (zeB gr l):=by
 have hp:=k.p
 unfold zbd
 refine zah (zav (ψ:=fun b=>b=zeB gr l) (zbf (fun i s=>s=(l.take i).foldl (fun o x=>o*x%gr.P) 1) rfl ?_ ?_) fun b hb=>zae hb)
 ·rintro i s hi rfl
  have hb:=zqz (gr:=gr) (by omega) (l.take i) 1 (by omega) (by omega) fun x hx=>(hl x (List.mem_of_mem_take hx)).1
  have hx:=hl l[i] (List.getElem_mem hi)
  refine za6 hi (zap (by omega) (zae ?_))
  show _=(l.take (i+1)).foldl _ _
  rw[List.take_succ_eq_append_getElem hi,List.foldl_append]
  generalize (l.take i).foldl (fun o x=>o*x%gr.P) 1=o at hb⊢
  have b1:0≤o*l[i]:=Int.mul_nonneg hb.1 hx.1
  have b2:o*l[i]≤2000000000*2000000000:=Int.mul_le_mul (by omega) hx.2 hx.1 (by omega)
  show(IntKind.i64.wrap (o*l[i])).tmod gr.P=o*l[i]%gr.P
  rw[zag (by omega) (by omega),Int.tmod_eq_emod_of_nonneg b1]
 rintro s rfl
 rw[List.take_length];rfl
theorem zuT {gr:Group}(k:OkG gr) {l:List Int}(hl:∀x∈l,0≤x∧x≤2000000000):zbF gr l=some (zeB gr l):=by rw[zzS];exact zpr k hl
theorem zxW {gr:Group}(k:OkG gr) {l:List Int}(hl:∀x∈l,0≤x∧x≤2000000000):0≤zeB gr l∧zeB gr l≤gr.P:=by
 have hp:=k.p
 exact zqz (by omega) l 1 (by omega) (by omega) fun x hx=>(hl x hx).1
theorem zq2 {gr:Group}(k:OkG gr) (l:List Int):zb8 gr l=some (l.all (zaD gr)):=by
 unfold zb8 zci zaC zaH
 refine zah (zav (ψ:=fun b=>b=l.all (zaD gr)) (zav (ψ:=fun b=>b= !l.all (zaD gr)) (zav (ψ:=fun j=>(j=-1∧l.all (zaD gr)=true)∨(0≤j∧l.all (zaD gr)=false)) (zav (ψ:=fun b=>(b=.inl ()∧l.all (zaD gr)=true)∨(∃j,b=.inr j∧0≤j∧l.all (zaD gr)=false)) (zbf (fun i s=>(l.take i).all (zaD gr)=true) rfl ?_ ?_) ?_) ?_) ?_) ?_)
 ·rintro i s hi hI
  have hc:zbw l[i] gr=some (!zaD gr l[i]):=by
   unfold zbw
   rw[ztS k];rfl
  refine za6 hi (zad hc (zbo (fun h=>zae (.inr ⟨i,rfl,by omega,?_⟩)) fun h=>zae ?_))
  ·rw[List.all_eq_false]
   exact⟨l[i],List.getElem_mem hi,by rw[Bool.not_eq_true']at h;rw[h];simp⟩
  show(l.take (i+1)).all (zaD gr)=true
  rw[List.take_succ_eq_append_getElem hi,List.all_append,hI]
  simpa using h
 ·rintro s hI
  rw[List.take_length]at hI
  exact .inl ⟨rfl,hI⟩
 ·rintro b (⟨rfl,h⟩|⟨j,rfl,h0,h⟩)
  ·exact zae (.inl ⟨rfl,h⟩)
  exact zae (.inr ⟨h0,h⟩)
 ·rintro j (⟨rfl,h⟩|⟨h0,h⟩)
  ·exact zae (by rw[h];rfl)
  exact zae (by rw[h];simpa using h0)
 ·rintro b rfl
  exact zae (by simp)
 rintro b rfl
 exact zae rfl
theorem zjR {gr:Group}{x:Int}(h:zaD gr x=true):1≤x∧x≤gr.P-1:=by
 simp only[zaD,Bool.and_eq_true,decide_eq_true_eq]at h
 exact h.1
theorem zo8 {gr:Group}(k:OkG gr) {y m:Int}(hy:zaD gr y=true) (hm:zaD gr m=true) (r:Int):
 zbC gr y m r=some (Cipher.mk (zar gr gr.G r) (zeB gr [m,zar gr y r]))∧zgG gr y m r=some (Cipher.mk (zar gr gr.G r) (zeB gr [m,zar gr y r])):=by
 have hp:=k.p
 have hg:=k.g
 have b1:=zjR hy
 have b2:=zjR hm
 have e1:=znC k (x:=gr.G) (by omega) (by omega) r
 have e2:=znC k (x:=y) (by omega) (by omega) r
 have hl:∀x∈[m,zar gr y r],0≤x∧x≤2000000000:=fun x hx=>by
  simp only[List.mem_cons,List.not_mem_nil,or_false]at hx
  rcases hx with rfl|rfl
  ·omega
  ·have:=zg3 k y r;omega
 unfold zbC zgG
 rw[e1.1,e1.2,Option.bind_some,Option.bind_some,e2.1,e2.2,Option.bind_some,Option.bind_some,zpr k hl,zuT k hl]
 exact⟨rfl,rfl⟩
theorem zt5 {α:Type}(b:Bool) (u v:α):(if b=true then some u else some v)=some (if(!b)=true then v else u):=by cases b<;>rfl
theorem zCA {α:Type}(b:Bool) (u v:α):(if(!b)=true then some u else some v)=some (if b=true then v else u):=by cases b<;>rfl
theorem ziB {β:Type}{body:Int→Unit→Option (Stp Unit (Unit ⊕ β))}(m:Nat) (p:Nat→Bool) (val:Nat→β) (h:∀k,k<m→body (k:Int) ()=some (if p k=true then .go ()else .out (.inr (val k)))):
 (zak body (fun _=>.inl ()) m 0 ()=some (.inl ())∧∀k,k<m→p k=true)∨∃k,k<m∧p k=false∧(∀j,j<k→p j=true)∧zak body (fun _=>.inl ()) m 0 ()=some (.inr (val k)):=by
 have key:Rn (zak body (fun _=>Sum.inl ()) m 0 ()) (fun b=>(b=.inl ()∧∀k,k<m→p k=true)∨∃k,k<m∧p k=false∧(∀j,j<k→p j=true)∧b=.inr (val k)):=by
  refine zbf (fun k _=>∀j,j<k→p j=true) (fun j hj=>by omega) ?_ fun s hs=>.inl ⟨rfl,hs⟩
  intro k s hk hI
  refine⟨_,h k hk,?_⟩
  cases hp:p k with
  |true=>
   intro j hj
   rcases Nat.lt_or_ge j k with h|h
   ·exact hI j h
   ·have:j=k:=by omega
    rw[this];exact hp
  |false=>exact .inr ⟨k,hk,hp,hI,rfl⟩
 obtain⟨b,e,h1|⟨k,h1,h2,h3,h4⟩⟩:=key
 ·exact .inl ⟨by rw[e,h1.1],h1.2⟩
 exact .inr ⟨k,h1,h2,h3,by rw[e,h4]⟩
theorem zBD {α:Type}(l:List α) (p:α→Bool) (c:Bool) {body:Int→Unit→Option (Stp Unit (Unit ⊕ Bool))}(h:∀k (hk:k<l.length),body (k:Int) ()=some (if p l[k]=true then .go ()else .out (.inr c))):
 (zak body (fun _=>.inl ()) l.length 0 ()).bind (Sum.elim (fun _=>some (!c)) some)=some (if l.all p=true then !c else c):=by
 rcases ziB (body:=body) l.length (fun k=>(l[k]?).any p) (fun _=>c) (fun k hk=>by rw[h k hk,List.getElem?_eq_getElem hk];rfl)with⟨e,h1⟩|⟨k,h1,h2,h3,e⟩
 ·rw[e]
  have:l.all p=true:=by
   rw[List.all_eq_true]
   intro x hx
   obtain⟨k,hk,rfl⟩:=List.mem_iff_getElem.1 hx
   have:=h1 k hk
   rw[List.getElem?_eq_getElem hk]at this
   exact this
  rw[this];rfl
 rw[e]
 have:l.all p=false:=by
  rw[List.all_eq_false]
  refine⟨l[k],List.getElem_mem h1,?_⟩
  rw[List.getElem?_eq_getElem h1]at h2
  simpa using h2
 rw[this];rfl
theorem zxx (l:List Int) (x:Int):zf8 l x=some (l.contains x):=by
 unfold zf8
 have:=zBD l (fun y=> !(y==x)) true (body:=fun i8 s7=>(ix l i8).bind fun x17=>if(x17==x)=true then some (.out (.inr true))else some (.go ())) fun k hk=>by
  rw[zdO hk,Option.bind_some]
  exact zt5 _ _ _
 rw[show(!true)=false from rfl]at this
 refine this.trans ?_
 congr 1
 cases hc:l.contains x with
 |true=>
  have hm:x∈l:=by simpa using hc
  have:(l.all fun y=> !(y==x))=false:=by
   rw[List.all_eq_false]
   exact⟨x,hm,by simp⟩
  rw[this];rfl
 |false=>
  have hm:¬x∈l:=by simpa using hc
  have:(l.all fun y=> !(y==x))=true:=by
   rw[List.all_eq_true]
   intro y hy
   have:y≠x:=fun e=>hm (e▸hy)
   simp[this]
  rw[this];rfl
theorem zye (l:List Int) (x:Int):(zb3 l x=some (-1)∧¬x∈l)∨∃k,∃h:k<l.length,zb3 l x=some (k:Int)∧l[k]=x∧∀j (hj:j<k),l[j]'(by omega)≠x:=by
 unfold zb3
 rcases ziB l.length (fun k=>(l[k]?).any fun y=> !(x==y)) (fun k=>(k:Int)) (body:=fun i8 s7=>(ix l i8).bind fun x17=>if(x==x17)=true then some (.out (.inr i8))else some (.go ())) (fun k hk=>by
  rw[zdO hk,Option.bind_some,List.getElem?_eq_getElem hk]
  exact zt5 _ _ _)with⟨e,h1⟩|⟨k,h1,h2,h3,e⟩
 ·refine .inl ⟨by rw[e];rfl,fun hx=>?_⟩
  obtain⟨k,hk,rfl⟩:=List.mem_iff_getElem.1 hx
  have:=h1 k hk
  rw[List.getElem?_eq_getElem hk]at this
  simp at this
 refine .inr ⟨k,h1,by rw[e];rfl,?_,fun j hj=>?_⟩
 ·rw[List.getElem?_eq_getElem h1]at h2
  simp at h2
  exact h2.symm
 have:=h3 j hj
 rw[List.getElem?_eq_getElem (by omega)]at this
 simp at this
 exact fun e=>this e.symm
theorem ztM (l:List Int) (x:Int):zca l x=some (l.contains x):=by
 unfold zca
 rcases zye l x with⟨e,h⟩|⟨k,hk,e,h,_⟩
 ·rw[e]
  have:l.contains x=false:=by simpa using h
  rw[this];rfl
 rw[e]
 have:l.contains x=true:=by
  have:=List.getElem_mem hk
  rw[h]at this
  simpa using this
 rw[this]
 simp
open Classical in
def zif (l:List Int):Bool:=decide l.Nodup
theorem zq7 {C:List Int→Int→Option Bool}(hC:∀l x,C l x=some (l.contains x)) (l:List Int) (hl:l.length≤1000000000000):
 ((zak (σ:=Unit) (fun i5 s4=>
 (ix l i5).bind fun x11=>
 gd (0≤i5)<|
 gd (0≤i5.toNat∧i5.toNat≤l.length)<|
 (C ((l.take i5.toNat).drop 0) x11).bind fun z12=>
 if z12=true then(
 some (.out (.inr false)))else(
 some (.go ()))) (fun s4=>.inl ()) (l.length) 0 ():Option (Unit ⊕ Bool)).bind (Sum.elim (fun x3=>
 some true) some))=some (zif l):=by
 rcases ziB l.length (fun k=>(l[k]?).any fun y=> !(l.take k).contains y) (fun _=>false) (body:=fun i8 s7=>
  (ix l i8).bind fun x17=>
  gd (0≤i8)<|
  gd (0≤i8.toNat∧i8.toNat≤l.length)<|
  (C ((l.take i8.toNat).drop 0) x17).bind fun z26=>
  if z26=true then(
  some (.out (.inr false)))else(
  some (.go ()))) (fun k hk=>by
   rw[zdO hk,Option.bind_some,zcu (by omega),zcu (by simp;omega),hC,List.getElem?_eq_getElem hk,Option.bind_some,Int.toNat_natCast,List.drop_zero]
   exact zt5 _ _ _)with⟨e,h1⟩|⟨k,h1,h2,h3,e⟩
 ·rw[e]
  have:zif l=true:=by
   unfold zif
   rw[decide_eq_true_eq,List.nodup_iff_pairwise_ne,List.pairwise_iff_getElem]
   intro i j hi hj hij e
   have:=h1 j hj
   rw[List.getElem?_eq_getElem hj]at this
   have hm:l[j]∈l.take j:=by
    rw[←e]
    exact List.mem_iff_getElem.2 ⟨i,by simp;omega,by simp⟩
   have hc:(l.take j).contains l[j]=true:=by simpa using hm
   simp only[Option.any_some,hc]at this
   cases this
  rw[this];rfl
 rw[e]
 have:zif l=false:=by
  unfold zif
  rw[decide_eq_false_iff_not,List.nodup_iff_pairwise_ne,List.pairwise_iff_getElem]
  intro hd
  rw[List.getElem?_eq_getElem h1]at h2
  have hc:(l.take k).contains l[k]=true:=by simpa using h2
  have hm:l[k]∈l.take k:=by simpa using hc
  obtain⟨i,hi,e⟩:=List.mem_iff_getElem.1 hm
  simp at hi e
  exact hd i k (by omega) h1 (by omega) e
 rw[this];rfl
theorem zyT (l:List Int) (hl:l.length≤1000000000000):zdu l=some (zif l):=zq7 ztM l hl
theorem zhp {l:List Int}{p:Int→Bool}{f:Int→Option Bool}(hf:∀x∈l,f x=some (!p x)):
 ((((zak (σ:=Unit) (β:=Unit ⊕ Int) (fun i8 s7=>(ix l i8).bind fun x17=>(f x17).bind fun z20=>if z20=true then(some (.out (.inr i8)))else(some (.go ()))) (fun s7=>.inl ()) (l.length) 0 ():Option (Unit ⊕ Int)).bind (Sum.elim (fun(x5:Unit)=>some (-1)) some)).bind fun z1=>some (decide (0≤z1))).bind fun z1=>some (!z1))=some (l.all p):=by
 rcases ziB l.length (fun k=>(l[k]?).any p) (fun k=>(k:Int)) (body:=fun i8 s7=>(ix l i8).bind fun x17=>(f x17).bind fun z20=>if z20=true then(some (.out (.inr i8)))else(some (.go ()))) (fun k hk=>by
  rw[zdO hk,Option.bind_some,hf _ (List.getElem_mem hk),Option.bind_some,List.getElem?_eq_getElem hk]
  exact zCA _ _ _)with⟨e,h1⟩|⟨k,h1,h2,h3,e⟩
 ·rw[e]
  have:l.all p=true:=by
   rw[List.all_eq_true]
   intro x hx
   obtain⟨k,hk,rfl⟩:=List.mem_iff_getElem.1 hx
   have:=h1 k hk
   rw[List.getElem?_eq_getElem hk]at this
   exact this
  rw[this];rfl
 rw[e]
 have:l.all p=false:=by
  rw[List.all_eq_false]
  refine⟨l[k],List.getElem_mem h1,?_⟩
  rw[List.getElem?_eq_getElem h1]at h2
  simpa using h2
 rw[this]
 simp
def dg (q:Nat):Nat→Nat→List Int
 |0,_=>[]
 |k+1,n=>((n%q:Nat):Int)::dg q k (n/q)
theorem zuK {gr:Group}(k:OkG gr) (m:Int):zfD gr [m]=some (zaD gr m):=by
 rw[zBQ k];simp
theorem zlt {gr:Group}(h:0≤gr.Q) (h2:gr.Q≤2000000000) (l:List Int):za0 gr l=some (l.all (zgW gr)):=by
 have h1:zb2 l gr=some (l.all (zgW gr)):=zhp (f:=fun x=>zbk x gr) fun x _=>by
  unfold zbk
  rw[zsr h h2];rfl
 unfold za0
 rw[h1];rfl
theorem zjV {a n p e:Nat}(h:a^n%p=1):a^(e%n)%p=a^e%p:=by
 have hp:1%p=1:=by rw[←h,Nat.mod_mod]
 conv=>rhs;rw[←Nat.div_add_mod e n]
 rw[Nat.pow_add,Nat.pow_mul,Nat.mul_mod,Nat.pow_mod (a^n),h,Nat.one_pow,hp,Nat.one_mul,Nat.mod_mod]
theorem zl5 {gr:Group}{x:Int}(h:zaD gr x=true):1≤x∧x≤gr.P-1∧x.toNat^gr.Q.toNat%gr.P.toNat=1:=by
 unfold zaD at h
 simp only[Bool.and_eq_true,decide_eq_true_eq]at h
 exact⟨h.1.1,h.1.2,h.2⟩
theorem zwL {gr:Group}(k:OkG gr) {x:Int}(h:zaD gr x=true) {s l:Int}(hs:0≤s) (hl:0≤l):zar gr (zar gr x s) l=zar gr x (s*l):=by
 obtain⟨_,_,h3⟩:=zl5 h
 have hq:=k.q
 obtain⟨a,rfl⟩:=Int.eq_ofNat_of_zero_le hs
 obtain⟨b,rfl⟩:=Int.eq_ofNat_of_zero_le hl
 obtain⟨n,hn⟩:=Int.eq_ofNat_of_zero_le (show 0≤gr.Q by omega)
 unfold zar
 rw[hn]at h3⊢
 rw[Int.toNat_natCast]at h3
 have e:∀c:Nat,((c:Int)%(n:Int)).toNat=c%n:=fun c=>by rw[←Int.natCast_emod,Int.toNat_natCast]
 rw[zgR,e,e,e,Int.toNat_natCast,zjV h3,zjV h3,←Nat.pow_mod,←Nat.pow_mul]
 congr 1
 rw[Nat.pow_mul,Nat.pow_mod,zjV (n:=n) (e:=b)]
 ·rw[←Nat.pow_mod,←Nat.pow_mul]
 rw[←Nat.pow_mod,←Nat.pow_mul,Nat.mul_comm,Nat.pow_mul,Nat.pow_mod,h3,Nat.one_pow,←h3,Nat.mod_mod]
theorem zuu {n d:Nat}(h:Pr n) (hd:d%n≠0):Nat.gcd n d=1:=by
 obtain⟨k,hk⟩:=Nat.gcd_dvd_left n d
 have hn:=h.1
 have h0:0<Nat.gcd n d:=Nat.gcd_pos_of_pos_left d (by omega)
 have hdv:=Nat.gcd_dvd_right n d
 generalize Nat.gcd n d=g at hk h0 hdv
 apply Classical.byContradiction
 intro hg
 have hg2:2≤g:=by omega
 have hk2:2≤k:=by
  rcases Nat.lt_or_ge k 2 with h|h
  ·have:k=0∨k=1:=by omega
   rcases this with rfl|rfl
   ·omega
   ·rw[Nat.mul_one]at hk
    rw[←hk]at hdv
    exact absurd (Nat.mod_eq_zero_of_dvd hdv) hd
  ·exact h
 rcases Nat.le_total g k with h'|h'
 ·exact h.2 g hg2 (by rw[hk];exact Nat.mul_le_mul_left g h') (by rw[hk];exact Nat.mul_mod_right g k)
 exact h.2 k hk2 (by rw[hk];exact Nat.mul_le_mul_right k h') (by rw[hk];exact Nat.mul_mod_left g k)
theorem zyW {n:Nat}(h:Pr n) {a b:Int}(hab:(a*b)%(n:Int)=0):a%(n:Int)=0∨b%(n:Int)=0:=by
 have h1:n∣a.natAbs*b.natAbs:=by
  rw[←Int.natAbs_mul]
  exact Int.ofNat_dvd_left.1 (Int.dvd_of_emod_eq_zero hab)
 by_cases ha:a.natAbs%n=0
 ·exact .inl (Int.emod_eq_zero_of_dvd (Int.ofNat_dvd_left.2 (Nat.dvd_of_mod_eq_zero ha)))
 exact .inr (Int.emod_eq_zero_of_dvd (Int.ofNat_dvd_left.2 (Nat.Coprime.dvd_of_dvd_mul_left (zuu h ha) h1)))
def evP (f:List Int) (x:Int):Int:=f.foldr (fun c a=>a*x+c) 0
theorem zqh (c:Int) (f:List Int) (x:Int):evP (c::f) x=evP f x*x+c:=rfl
def dvP (r:Int):List Int→List Int
 |[]=>[]
 |[_]=>[]
 |_::c::f=>evP (c::f) r::dvP r (c::f)
theorem zsh (r:Int):∀f:List Int,(dvP r f).length=f.length-1
 |[]=>rfl
 |[_]=>rfl
 |_::c::f=>by
  show(dvP r (c::f)).length+1=_
  rw[zsh r (c::f)];simp
theorem zvu (r x:Int):∀f:List Int,evP f x=evP (dvP r f) x*(x-r)+evP f r
 |[]=>by simp[dvP,evP]
 |[c]=>by simp[dvP,evP]
 |d::c::f=>by
  have ih:=zvu r x (c::f)
  show evP (c::f) x*x+d=(evP (dvP r (c::f)) x*x+evP (c::f) r)*(x-r)+(evP (c::f) r*r+d)
  rw[ih]
  grind
theorem zql (r:Int):∀f:List Int,2≤f.length→(dvP r f).getLastD 0=f.getLastD 0
 |[],h=>absurd h (by simp)
 |[_],h=>absurd h (by simp)
 |[d,c],_=>by simp[dvP,evP]
 |e::d::c::f,_=>by
  have ih:=zql r (d::c::f) (by simp)
  show(evP (d::c::f) r::evP (c::f) r::dvP r (c::f)).getLastD 0=_
  have:dvP r (d::c::f)=evP (c::f) r::dvP r (c::f):=rfl
  rw[this]at ih
  simpa[List.getLastD]using ih
theorem zvs {p:Nat}(hp:Pr p):∀(n:Nat) (f:List Int),f.length=n+1→f.getLastD 0%(p:Int)≠0→∀rs:List Int,rs.Pairwise (fun a b=>(b-a)%(p:Int)≠0)→(∀r∈rs,evP f r%(p:Int)=0)→rs.length≤n
 |0,f,hl,hf,rs,hd,hr=>by
  match f,hl with
  |[c],_=>
   cases rs with
   |nil=>simp
   |cons r rs=>
    have:=hr r (List.mem_cons_self ..)
    simp[evP]at this
    exact absurd (by first|exact this|exact Int.emod_eq_zero_of_dvd this) (by simpa[List.getLastD]using hf)
 |n+1,f,hl,hf,rs,hd,hr=>by
  cases rs with
  |nil=>simp
  |cons r rs=>
   have h1:=List.pairwise_cons.1 hd
   have:=zvs hp n (dvP r f) (by rw[zsh];omega) (by rw[zql r f (by omega)];exact hf) rs h1.2 fun s hs=>by
    have e:=zvu r s f
    have hs0:=hr s (List.mem_cons_of_mem _ hs)
    have hr0:=hr r (List.mem_cons_self ..)
    have hm:(evP (dvP r f) s*(s-r))%(p:Int)=0:=by
     rw[show evP (dvP r f) s*(s-r)=evP f s-evP f r by omega,Int.sub_emod,hs0,hr0];simp
    rcases zyW hp hm with h|h
    ·exact h
    ·exact absurd h (h1.1 s hs)
   simpa using this
theorem zwq (k:Nat) (x:Int):evP (List.replicate k 0++[1]) x=x^k:=by
 induction k with
 |zero=>simp[evP]
 |succ k ih=>rw[List.replicate_succ,List.cons_append,zqh,ih,Int.pow_succ];omega
theorem zrD {p n:Nat}(hp:Pr p) (hn:1≤n) (rs:List Int) (hd:rs.Pairwise (fun a b=>(b-a)%(p:Int)≠0)) (hr:∀r∈rs,r^n%(p:Int)=1):rs.length≤n:=by
 have h2:=hp.1
 have hone:(1:Int)%(p:Int)=1:=Int.emod_eq_of_lt (by omega) (by omega)
 obtain⟨k,rfl⟩:∃k,n=k+1:=⟨n-1,by omega⟩
 refine zvs hp (k+1) (-1::(List.replicate k 0++[1])) (by simp) ?_ rs hd fun r hr'=>?_
 ·have:(-1::(List.replicate k (0:Int)++[1])).getLastD 0=1:=by
   rw[←List.cons_append,List.getLastD_concat]
  rw[this,hone];omega
 rw[zqh,zwq,←Int.pow_succ,Int.add_emod,hr r hr']
 have:((-1:Int)%(p:Int))=p-1:=by
  have:=Int.add_mul_emod_self_left (-1) (p:Int) 1
  rw[←this,Int.mul_one,Int.emod_eq_of_lt (by omega) (by omega)];omega
 rw[this,show 1+((p:Int)-1)=p by omega,Int.emod_self]
theorem zms {a p:Nat}(hp:2≤p) {m:Nat}(h:a^m%p=1) (k r:Nat):a^(m*k+r)%p=a^r%p:=by
 rw[Nat.pow_add,Nat.pow_mul,Nat.mul_mod,Nat.pow_mod (a^m),h,Nat.one_pow,Nat.mod_eq_of_lt (show 1<p by omega),Nat.one_mul,Nat.mod_mod]
theorem zx3 {a p:Nat}(hp:2≤p):∀m n,a^m%p=1→a^n%p=1→a^(Nat.gcd m n)%p=1:=by
 intro m n
 induction m,n using Nat.gcd.induction with
 |H0 n=>intro _ h;simpa using h
 |H1 m n hm ih=>
  intro h1 h2
  rw[Nat.gcd_rec]
  refine ih ?_ h1
  rw[←zms hp h1 (n/m) (n%m),Nat.div_add_mod]
  exact h2
theorem zxT {a p q:Nat}(hp:2≤p) (hq:Pr q) (ha:a^q%p=1) (ha1:a%p≠1) {i j:Nat}(hij:i<j) (hj:j<q):a^i%p≠a^j%p:=by
 intro e
 have h1:a^(j-i)%p=1:=by
  have e1:a^(j-i)%p=a^(q*1+(j-i))%p:=(zms hp ha 1 (j-i)).symm
  rw[e1,show q*1+(j-i)=j+(q-i)by omega,Nat.pow_add,Nat.mul_mod,←e,←Nat.mul_mod,←Nat.pow_add,show i+(q-i)=q by omega]
  exact ha
 have h2:=zx3 hp q (j-i) ha h1
 rw[zuu hq (by rw[Nat.mod_eq_of_lt (by omega)];omega),Nat.pow_one]at h2
 exact ha1 h2
theorem zmH {gr:Group}{x:Int}(h:zaD gr x=true):x.toNat^gr.Q.toNat%gr.P.toNat=1:=by
 simp only[zaD,Bool.and_eq_true,decide_eq_true_eq]at h
 exact h.2
theorem zsl {gr:Group}{x:Int}(k:OkG gr) (h:zaD gr x=true):x.toNat<gr.P.toNat∧1≤x.toNat:=by
 have:=zjR h
 have:=k.p
 omega
theorem zAl {gr:Group}(k:OkG gr) {h x:Int}(hh:zaD gr h=true) (h1:h≠1) (hx:zaD gr x=true):∃s:Nat,h.toNat^s%gr.P.toNat=x.toNat:=by
 have hp2:2≤gr.P.toNat:=by have:=k.p;omega
 have hb:=zsl k hh
 have hbx:=zsl k hx
 have ha1:h.toNat%gr.P.toNat≠1:=by rw[Nat.mod_eq_of_lt hb.1];have:=zjR hh;omega
 apply Classical.byContradiction
 intro hn
 have hn':∀s:Nat,h.toNat^s%gr.P.toNat≠x.toNat:=fun s e=>hn ⟨s,e⟩
 have key:∀a b:Nat,a<gr.P.toNat→b<gr.P.toNat→a≠b→((b:Int)-(a:Int))%(gr.P.toNat:Int)≠0:=by
  intro a b ha hb' hab he
  have h3:((gr.P.toNat:Nat):Int)∣(b:Int)-(a:Int):=Int.dvd_of_emod_eq_zero he
  obtain⟨c,hc⟩:=h3
  rcases Int.lt_trichotomy c 0 with h4|h4|h4
  ·have:(gr.P.toNat:Int)*c≤(gr.P.toNat:Int)*(-1):=Int.mul_le_mul_of_nonneg_left (by omega) (by omega)
   omega
  ·subst h4;simp at hc;omega
  ·have:(gr.P.toNat:Int)*1≤(gr.P.toNat:Int)*c:=Int.mul_le_mul_of_nonneg_left (by omega) (by omega)
   omega
 have hlt:∀s,h.toNat^s%gr.P.toNat<gr.P.toNat:=fun s=>Nat.mod_lt _ (by omega)
 have hlen:=zrD (p:=gr.P.toNat) (n:=gr.Q.toNat) k.pp (by have:=k.q;omega) ((x.toNat:Int)::(List.range gr.Q.toNat).map fun i=>((h.toNat^i%gr.P.toNat:Nat):Int)) ?_ ?_
 ·simp at hlen;omega
 ·rw[List.pairwise_cons]
  refine⟨fun y hy=>?_,?_⟩
  ·obtain⟨i,hi,rfl⟩:=List.mem_map.1 hy
   exact key _ _ hbx.1 (hlt i) fun e=>hn' i e.symm
  rw[List.pairwise_map]
  refine List.Pairwise.imp_of_mem ?_ List.pairwise_lt_range
  intro i j hi hj hij
  exact key _ _ (hlt i) (hlt j) (zxT hp2 k.pq (zmH hh) ha1 hij (List.mem_range.1 hj))
 intro r hr
 rcases List.mem_cons.1 hr with rfl|hr
 ·have:=zmH hx
  rw[←Int.natCast_pow,←Int.natCast_emod,this];rfl
 obtain⟨i,hi,rfl⟩:=List.mem_map.1 hr
 have h5:(h.toNat^i%gr.P.toNat)^gr.Q.toNat%gr.P.toNat=1:=by
  rw[←Nat.pow_mod,←Nat.pow_mul,Nat.mul_comm,Nat.pow_mul,Nat.pow_mod,zmH hh,Nat.one_pow,Nat.mod_eq_of_lt (by omega)]
 rw[←Int.natCast_pow,←Int.natCast_emod,h5];rfl
def zoc (gr:Group) (c:Cipher):Bool:=zaD gr c.A&&zaD gr c.B
def byL (s:ByteArray):List Int:=s.data.toList.map fun b=>(b.toNat:Int)
theorem zhL (s:ByteArray):(byL s).length=s.size:=by
 show(s.data.toList.map _).length=s.data.size
 rw[List.length_map,Array.length_toList]
theorem zvt (s:ByteArray):∀x∈byL s,0≤x∧x≤255:=by
 intro x hx
 obtain⟨b,_,rfl⟩:=List.mem_map.1 hx
 have:=b.toNat_lt
 omega
theorem zzO {s:ByteArray}{k:Nat}(h:k<s.size):ixs s (k:Int)=some ((byL s)[k]'(by rw[zhL];exact h)):=by
 have h2:k<s.data.size:=h
 simp[ixs,byL,h]
 rfl
theorem zu5 (s:ByteArray) (l:List Int) (hs:s.size≤1000000) (hl:l.length≤1000000000000):zfN s l=some ((s.size:Int)::byL s++l):=by
 unfold zfN
 refine zah (zav (ψ:=fun x=>x=(s.size:Int)::byL s) (ze6 s.size (fun n p=>n≤s.size∧p=((s.size:Int)::(byL s).take n,(n:Int))) ⟨by omega,by simp⟩ ?_ ?_) ?_)
 ·rintro n p hn ⟨_,rfl⟩
  have hn2:n<(byL s).length:=by rw[zhL];exact hn
  have hb:=zvt s _ (List.getElem_mem hn2)
  refine zbo (fun _=>?_) fun h=>absurd h (by simp;omega)
  refine zad (zzO hn) (zap ?_ (zae ⟨by omega,?_⟩))
  ·simp only[List.length_cons,List.length_take,zhL];omega
  show((s.size:Int)::(byL s).take n++[_],_)=_
  rw[zag (by omega) (by omega),zag (by omega) (by omega),List.cons_append,List.take_append_getElem hn2]
  rfl
 ·rintro p ⟨_,rfl⟩
  refine zbo (fun h=>absurd h (by simp)) fun _=>zae ?_
  show(s.size:Int)::(byL s).take s.size=_
  rw[List.take_of_length_le (by rw[zhL];omega)]
 rintro _ rfl
 refine zap ?_ (zae rfl)
 simp only[List.length_cons,zhL];omega
theorem zs1 (s:ByteArray) (l:List Int) (hs:s.size≤1000000) (hl:l.length≤1000000000000):zf5 s l=some ((s.size:Int)::byL s++l):=zu5 s l hs hl
def zbq (x:Int):Bool:=decide (0≤x)&&decide (x≤4611686018427387903)
theorem zdg {x:Int}:zbq x=true↔0≤x∧x≤4611686018427387903:=by simp[zbq]
theorem zkl (x:Int):zdV x=some (zbq x):=by
 unfold zdV
 rw[zdc];rfl
theorem ztB (x:Int):ze2 x=some (zbq x):=by
 unfold ze2
 rw[zhb];rfl
theorem zyw (s:ByteArray):(byL s).all zbq=true:=by
 rw[List.all_eq_true]
 intro x hx
 have:=zvt s x hx
 exact zdg.2 ⟨by omega,by omega⟩
def hs1 (c s k:Int):Int:=(c*s+k+1)%2147483647
def ziU (p:Int×Int) (x:Int):Int×Int:=(hs1 48271 (hs1 48271 p.1 (x%2147483648)) (x/2147483648),hs1 69621 (hs1 69621 p.2 (x%2147483648)) (x/2147483648))
def zl2 (l:List Int):Int:=let p:=(((l.length:Int)::l).foldl ziU (1,2));p.1*2147483648+p.2
theorem zjM (c s k:Int):0≤hs1 c s k∧hs1 c s k≤2147483646:=by unfold hs1;omega
theorem zhX {c s k:Int}(hc:c=48271∨c=69621) (hs:0≤s∧s≤2147483646) (hk:0≤k∧k≤2147483648):(IntKind.i64.wrap ((IntKind.i64.wrap ((IntKind.i64.wrap (c*s))+k))+1)).tmod 2147483647=hs1 c s k:=by
 rcases hc with rfl|rfl
 ·rw[zag (n:=48271*s) (by omega) (by omega),zag (n:=48271*s+k) (by omega) (by omega),zag (by omega) (by omega),Int.tmod_eq_emod_of_nonneg (by omega)];rfl
 rw[zag (n:=69621*s) (by omega) (by omega),zag (n:=69621*s+k) (by omega) (by omega),zag (by omega) (by omega),Int.tmod_eq_emod_of_nonneg (by omega)];rfl
def okP (p:Int×Int):Prop:=(0≤p.1∧p.1≤2147483646)∧(0≤p.2∧p.2≤2147483646)
theorem zxK (p:Int×Int) (x:Int):okP (ziU p x):=⟨zjM _ _ _,zjM _ _ _⟩
theorem ziF:∀(l:List Int) (p:Int×Int),okP p→okP (l.foldl ziU p)
 |[],_,h=>h
 |x::l,p,_=>ziF l _ (zxK p x)
theorem zvy (l:List Int):zbq (zl2 l)=true:=by
 obtain⟨h1,h2⟩:=ziF ((l.length:Int)::l) (1,2) ⟨by decide,by decide⟩
 refine zdg.2 ?_
 unfold zl2
 dsimp only
 omega
theorem zqx {p:Int×Int}{x:Int}(hp:okP p) (hx:zbq x=true):zbA p.1 p.2 x=some (ziU p x):=by
 obtain⟨h1,h2⟩:=hp
 have hx:=zdg.1 hx
 have e1:x.tmod 2147483648=x%2147483648:=Int.tmod_eq_emod_of_nonneg hx.1
 have e2:IntKind.i64.wrap (x.tdiv 2147483648)=x/2147483648:=by
  rw[Int.tdiv_eq_ediv_of_nonneg hx.1,zag (by omega) (by omega)]
 have b1:0≤x%2147483648∧x%2147483648≤2147483648:=by omega
 have b2:0≤x/2147483648∧x/2147483648≤2147483648:=by omega
 have h0:ix [x%2147483648,x/2147483648] 0=some (x%2147483648):=rfl
 have h1':ix [x%2147483648,x/2147483648] 1=some (x/2147483648):=rfl
 unfold zbA
 rw[e1,e2,Option.bind_some,zkA]
 simp only[List.length_cons,List.length_nil,show decide ((0:Int)<((0+1+1:Nat):Int))=true from rfl,if_true,h0,Option.bind_some,zhX (.inl rfl) h1 b1,zhX (.inr rfl) h2 b1]
 rw[zkA]
 simp only[show IntKind.i64.wrap (0+1)=1 from rfl,show decide ((1:Int)<((0+1+1:Nat):Int))=true from rfl,if_true,h1',Option.bind_some,zhX (.inl rfl) (zjM _ _ _) b2,zhX (.inr rfl) (zjM _ _ _) b2]
 rw[zkA]
 simp only[show IntKind.i64.wrap (1+1)=2 from rfl,show decide ((2:Int)<((0+1+1:Nat):Int))=false from rfl,Bool.false_eq_true,if_false,Option.bind_some]
 rfl
theorem zsg {l:List Int}(h:l.all zbq=true) {k:Nat}(hk:k<l.length):zbq l[k]=true:=List.all_eq_true.1 h _ (List.getElem_mem hk)
theorem zyg {l:List Int}(hl:l.length≤1000000000000) (hd:l.all zbq=true):zf9 l=some (zl2 l):=by
 unfold zf9
 have e0:=zqx (p:=(1,2)) (x:=(l.length:Int)) ⟨by decide,by decide⟩ (zdg.2 ⟨by omega,by omega⟩)
 refine zah (zad e0 (zav (ψ:=fun p=>p=((l.length:Int)::l).foldl ziU (1,2)) (zbf (fun n p=>p=((l.length:Int)::l.take n).foldl ziU (1,2)) rfl ?_ ?_) ?_))
 ·rintro n p hn rfl
  refine za6 hn (zad (zqx (ziF _ _ ⟨by decide,by decide⟩) (zsg hd hn)) (zae ?_))
  show ziU _ _=_
  rw[←List.take_append_getElem hn,←List.cons_append,List.foldl_append]
  rfl
 ·rintro p rfl
  show(((l.length:Int)::l.take l.length).foldl ziU (1,2))=_
  rw[List.take_length]
 rintro p rfl
 obtain⟨h1,h2⟩:=ziF ((l.length:Int)::l) (1,2) ⟨by decide,by decide⟩
 refine zae ?_
 rw[zag (n:=_*2147483648) (by omega) (by omega),zag (by omega) (by omega)]
 rfl
theorem zwR {x:Int}(hx:zbq x=true):IntKind.i64.wrap (BitVec.ofInt IntKind.i64.bits x&&&BitVec.ofInt IntKind.i64.bits 2147483647).toNat=x%2147483648:=by
 have hx:=zdg.1 hx
 obtain⟨n,rfl⟩:=Int.eq_ofNat_of_zero_le hx.1
 have h1:(BitVec.ofInt IntKind.i64.bits ((n:Nat):Int)&&&BitVec.ofInt IntKind.i64.bits 2147483647).toNat=n%2147483648:=by
  rw[BitVec.toNat_and]
  have a1:(BitVec.ofInt IntKind.i64.bits (n:Int)).toNat=n:=by
   rw[BitVec.toNat_ofInt]
   have:IntKind.i64.bits=64:=rfl
   rw[this]
   omega
  have a2:(BitVec.ofInt IntKind.i64.bits 2147483647).toNat=2^31-1:=by decide
  rw[a1,a2,Nat.and_two_pow_sub_one_eq_mod]
 rw[h1,zag (by omega) (by omega)]
 omega
theorem zyU {l:List Int}(hl:l.length≤1000000000000) (hd:l.all zbq=true):zgD l=some (zl2 l):=by
 unfold zgD
 have hd2:((l.length:Int)::l).all zbq=true:=by
  rw[List.all_cons,hd,Bool.and_true]
  exact zdg.2 ⟨by omega,by omega⟩
 refine zah (zap (by simp only[List.length_cons,List.length_nil];omega) (zad rfl (zav (ψ:=fun p=>p=((l.length:Int)::l).foldl ziU (1,2)) (zbf (fun n p=>p=(((l.length:Int)::l).take n).foldl ziU (1,2)) rfl ?_ ?_) ?_)))
 ·rintro n p hn rfl
  have ok:=ziF ((((l.length:Int)::l)).take n) (1,2) ⟨by decide,by decide⟩
  have dg:=zsg hd2 hn
  have b:=zdg.1 dg
  have ef:(((l.length:Int)::l)[n]).fdiv 2147483648=((l.length:Int)::l)[n]/2147483648:=Int.fdiv_eq_ediv_of_nonneg _ (by omega)
  have hn':n<((l.length:Int)::l).length:=hn
  refine za6 hn (zae ?_)
  show(_,_)=_
  simp only[List.singleton_append]
  rw[zwR dg,ef,zhX (.inl rfl) ok.1 (by omega),zhX (.inr rfl) ok.2 (by omega),zhX (.inl rfl) (zjM _ _ _) (by omega),zhX (.inr rfl) (zjM _ _ _) (by omega),
   ←List.take_append_getElem hn',List.foldl_append]
  rfl
 ·rintro p rfl
  show((((l.length:Int)::l).take ([(l.length:Int)]++l).length).foldl ziU (1,2))=_
  rw[List.singleton_append,List.take_length]
 rintro p rfl
 obtain⟨h1,h2⟩:=ziF ((l.length:Int)::l) (1,2) ⟨by decide,by decide⟩
 refine zae ?_
 rw[zag (n:=_*2147483648) (by omega) (by omega),zag (by omega) (by omega)]
 rfl
def zly (s:ByteArray) (l:List Int):Int:=zl2 ((s.size:Int)::byL s++l)
theorem zkc (s:ByteArray) (l:List Int):zbq (zly s l)=true:=zvy _
def zhJ (s:ByteArray) (l:List Int):Bool:=decide (s.size≤40)&&decide (1+s.size+l.length≤400)&&l.all zbq
theorem zr0 {s:ByteArray}{l:List Int}(hs:s.size≤1000000):((s.size:Int)::byL s++l).all zbq=l.all zbq:=by
 rw[List.cons_append,List.all_cons,List.all_append,zyw,zdg.2 ⟨by omega,by omega⟩,Bool.true_and,Bool.true_and]
theorem zjr {s:ByteArray}{l:List Int}(hs:s.size≤1000000) (hl:l.length≤100000000000) (hd:l.all zbq=true):zdH s l=some (zly s l):=by
 unfold zdH
 rw[zu5 s l hs (by omega),Option.bind_some,zyg (by simp[zhL];omega) (by rw[zr0 hs];exact hd)]
 rfl
theorem zpZ (l:List Int):zec l=some (decide (l.length≤400)&&l.all zbq):=by
 unfold zec
 have h1:zbm l=some (l.all zbq):=zhp (f:=zaZ) fun x _=>by
  unfold zaZ
  rw[zkl];rfl
 rw[h1]
 by_cases h:l.length≤400
 ·rw[if_pos (by simp;omega)];simp[h]
 rw[if_neg (by simp;omega)];simp[h]
theorem zt4 (l:List Int):zeY l=some (if(decide (l.length≤400)&&l.all zbq)=true then(zl2 l,true)else(0,false)):=by
 unfold zeY
 rw[zpZ,Option.bind_some]
 cases h:(decide (l.length≤400)&&l.all zbq)with
 |true=>
  simp only[Bool.and_eq_true,decide_eq_true_eq]at h
  rw[zyU (by omega) h.2];rfl
 |false=>rfl
theorem zjZ (s:ByteArray) (l:List Int):zcF s l=some (if zhJ s l=true then(zly s l,true)else(0,false)):=by
 unfold zcF
 by_cases h1:s.size≤40
 ·by_cases h2:l.length≤400
  ·rw[if_neg (by simp;omega),Option.bind_some,if_neg (by simp;omega),zs1 s l (by omega) (by omega),Option.bind_some,zt4,zr0 (by omega)]
   have e:((s.size:Int)::byL s++l).length=1+s.size+l.length:=by simp[zhL];omega
   rw[e]
   have e2:zhJ s l=(decide (1+s.size+l.length≤400)&&l.all zbq):=by simp[zhJ,h1]
   rw[e2]
   cases decide (1+s.size+l.length≤400)<;>cases l.all zbq<;>rfl
  rw[if_neg (by simp;omega),Option.bind_some,if_pos (by simp;omega)]
  have:zhJ s l=false:=by
   have:¬1+s.size+l.length≤400:=by omega
   simp[zhJ,this]
  rw[this];rfl
 rw[if_pos (by simp;omega),Option.bind_some,if_pos rfl]
 have:zhJ s l=false:=by simp[zhJ,h1]
 rw[this];rfl
theorem ceq {n:Int}{k:Nat}(h:n=(k:Int)) (hk:k≤4194304):IntKind.i64.wrap n=(k:Int):=by rw[zag (by omega) (by omega),h]
theorem zvJ {α β γ:Type}{l:List α}{f:α→β}{body:Int→List β→Option (Stp (List β) γ)}{stop:List β→γ}(a0:List β) (hs:∀k (h:k<l.length) (s:List β),s.length=a0.length+k→body (k:Int) s=some (.go (s++[f l[k]]))):
 zak body stop l.length 0 a0=some (stop (a0++l.map f)):=by
 refine zah (zbf (fun k s=>s=a0++(l.take k).map f∧k≤l.length) ⟨by simp,by omega⟩ ?_ ?_)
 ·rintro k s hk ⟨rfl,_⟩
  refine⟨_,hs k hk _ (by simp;omega),?_,hk⟩
  rw[List.take_succ_eq_append_getElem hk,List.map_append,List.append_assoc];rfl
 rintro s ⟨rfl,_⟩
 simp
theorem zvg {β:Type}{step:Int→Option (Stp Int (Unit ⊕ β))}(n:Nat) (hs:∀k:Nat,k<n→step (k:Int)=some (.go ((k+1:Nat):Int))) (he:step (n:Int)=some (.out (.inl ()))):zaN step 0=some (.inl ()):=by
 refine zah (ze6 n (fun k s=>s=(k:Int)) rfl ?_ ?_)
 ·rintro k s hk rfl;exact⟨_,hs k hk,rfl⟩
 rintro s rfl;exact⟨_,he,rfl⟩
structure OkC (ct:Contest):Prop where
 lo:0≤ct.Least∧ct.Least≤ct.Most
 k:((ct.Kind=1∨ct.Kind=3)∧(1≤ct.Options∧ct.Options≤8)∧ct.Most≤ct.Options∧ct.Points=0)∨(ct.Kind=2∧(1≤ct.Options∧ct.Options≤8)∧(1≤ct.Points∧ct.Points≤5)∧ct.Most≤ct.Options*ct.Points)∨(ct.Kind=4∧ct.Options=0∧ct.Most≤5∧ct.Points=0)
open Classical in
def okC (ct:Contest):Bool:=decide (OkC ct)
theorem zpy {ct:Contest}:okC ct=true↔OkC ct:=by simp[okC]
theorem zAc {a b:Int}(h:1≤a∧a≤8) (h2:1≤b∧b≤5):1≤a*b∧a*b≤40:=by
 have h3:a*b≤8*5:=Int.mul_le_mul h.2 h2.2 (by omega) (by omega)
 have h4:1*1≤a*b:=Int.mul_le_mul h.1 h2.1 (by omega) (by omega)
 omega
theorem ziY (ct:Contest):zcd ct=some (okC ct):=by
 have e:∀b:Bool,(b=true↔OkC ct)→b=okC ct:=fun b h=>by
  rw[Bool.eq_iff_iff,h,zpy]
 have f:¬OkC ct→okC ct=false:=fun h=>by simp[okC,h]
 unfold zcd
 simp only[zdc,Option.bind_some]
 by_cases l1:ct.Least<0
 ·simp[l1];exact f fun h=>by have:=h.lo;omega
 by_cases l2:ct.Most<ct.Least
 ·simp[l1,l2];exact f fun h=>by have:=h.lo;omega
 simp only[l1,l2,decide_false,Bool.false_eq_true,if_false,Option.bind_some]
 by_cases k13:ct.Kind=1∨ct.Kind=3
 ·have:(if(ct.Kind==1)=true then some (ct.Kind==1)else some (ct.Kind==3))=some true:=by
   rcases k13 with h|h<;>simp[h]
  rw[this,Option.bind_some,if_pos rfl]
  by_cases o:1≤ct.Options∧ct.Options≤8
  ·by_cases m:ct.Most≤ct.Options
   ·simp[o,m]
    refine e _ ⟨fun h=>⟨by omega,.inl ⟨k13,o,m,by simpa using h⟩⟩,fun h=>?_⟩
    rcases h.k with h|h|h
    ·simp[h.2.2.2]
    ·omega
    omega
   simp[o,m]
   exact f fun h=>by rcases h.k with h|h|h<;>omega
  have:(decide (1≤ct.Options)&&decide (ct.Options≤8))=false:=by simp;omega
  rw[this];simp
  exact f fun h=>by rcases h.k with h|h|h<;>omega
 have:(if(ct.Kind==1)=true then some (ct.Kind==1)else some (ct.Kind==3))=some false:=by
  simp only[not_or]at k13;simp[k13]
 rw[this,Option.bind_some,if_neg (by simp)]
 by_cases k2:ct.Kind=2
 ·simp only[k2]
  by_cases o:1≤ct.Options∧ct.Options≤8
  ·by_cases p:1≤ct.Points∧ct.Points≤5
   ·have b:=zAc o p
    simp only[o,p]
    simp[zag (n:=ct.Options*ct.Points) (by omega) (by omega)]
    refine e _ ⟨fun h=>⟨by omega,.inr (.inl ⟨k2,o,p,by simpa using h⟩)⟩,fun h=>?_⟩
    rcases h.k with h|h|h
    ·omega
    ·simpa using h.2.2.2
    omega
   have:(decide (1≤ct.Points)&&decide (ct.Points≤5))=false:=by simp;omega
   rw[this];simp[o]
   exact f fun h=>by rcases h.k with h|h|h<;>omega
  have:(decide (1≤ct.Options)&&decide (ct.Options≤8))=false:=by simp;omega
  rw[this];simp
  exact f fun h=>by rcases h.k with h|h|h<;>omega
 have k2':(ct.Kind==2)=false:=by simpa using k2
 simp only[k2',Bool.false_eq_true,if_false]
 by_cases k4:ct.Kind=4
 ·have k4':(ct.Kind==4)=true:=by simpa using k4
  simp only[k4',if_true]
  by_cases o:ct.Options=0
  ·by_cases m:ct.Most≤5
   ·simp[o,m]
    refine e _ ⟨fun h=>⟨by omega,.inr (.inr ⟨k4,o,m,by simpa using h⟩)⟩,fun h=>?_⟩
    rcases h.k with h|h|h
    ·omega
    ·omega
    simp[h.2.2.2]
   simp[o,m]
   exact f fun h=>by rcases h.k with h|h|h<;>omega
  simp[o]
  exact f fun h=>by rcases h.k with h|h|h<;>omega
 have k4':(ct.Kind==4)=false:=by simpa using k4
 simp only[k4',Bool.false_eq_true,if_false]
 rw[f fun h=>by rcases h.k with h|h|h<;>omega]
theorem znZ (ct:Contest):zeT ct=some (okC ct):=by
 rw[←ziY]
 unfold zeT zcd
 simp only[zdc,zhb,Option.bind_some]
 cases h:ct.Kind==4<;>simp
theorem zy2 {γ:Type}{m:Nat}(p:Nat→Bool) (c d:γ) {body:Int→Unit→Option (Stp Unit (Unit ⊕ γ))}(h:∀k,k<m→body (k:Int) ()=some (if p k=true then .go ()else .out (.inr c))):
 (zak body (fun _=>.inl ()) m 0 ()).bind (Sum.elim (fun _=>some d) some)=some (if(List.range m).all p=true then d else c):=by
 rcases ziB (body:=body) m p (fun _=>c) h with⟨e,h1⟩|⟨k,h1,h2,h3,e⟩
 ·have:(List.range m).all p=true:=by
   rw[List.all_eq_true];intro x hx;exact h1 x (List.mem_range.1 hx)
  rw[e,this];rfl
 have:(List.range m).all p=false:=by
  rw[List.all_eq_false];exact⟨k,List.mem_range.2 h1,by simp[h2]⟩
 rw[e,this];rfl
theorem zyY {α:Type}{l:List α}{p:α→Bool}{f:α→Option Bool}(hf:∀x∈l,f x=some (p x)):
 ((((zak (σ:=Unit) (β:=Unit ⊕ Int) (fun i8 s7=>(ix l i8).bind fun x17=>(f x17).bind fun z20=>if z20=true then(some (.out (.inr i8)))else(some (.go ()))) (fun s7=>.inl ()) (l.length) 0 ():Option (Unit ⊕ Int)).bind (Sum.elim (fun(x5:Unit)=>some (-1)) some)).bind fun z1=>some (decide (0≤z1))))=some (l.any p):=by
 rcases ziB l.length (fun k=> !(l[k]?).any p) (fun k=>(k:Int)) (body:=fun i8 s7=>(ix l i8).bind fun x17=>(f x17).bind fun z20=>if z20=true then(some (.out (.inr i8)))else(some (.go ()))) (fun k hk=>by
  rw[zdO hk,Option.bind_some,hf _ (List.getElem_mem hk),Option.bind_some,List.getElem?_eq_getElem hk]
  cases h:p l[k]<;>simp[h])with⟨e,h1⟩|⟨k,h1,h2,h3,e⟩
 ·rw[e]
  have:l.any p=false:=by
   rw[List.any_eq_false]
   intro x hx
   obtain⟨k,hk,rfl⟩:=List.mem_iff_getElem.1 hx
   have:=h1 k hk
   rw[List.getElem?_eq_getElem hk]at this
   simpa using this
  rw[this];rfl
 rw[e]
 have:l.any p=true:=by
  rw[List.any_eq_true]
  refine⟨l[k],List.getElem_mem h1,?_⟩
  rw[List.getElem?_eq_getElem h1]at h2
  simpa using h2
 rw[this]
 simp
def inB (a b x:Int):Bool:=decide (a≤x)&&decide (x≤b)
theorem zc9 {a b x:Int}:inB a b x=true↔a≤x∧x≤b:=by simp[inB]
theorem zxN (l:List Int) (k o a b p:Int):zbE l k o a b p=some (l.all (inB 0 p)):=zhp (f:=fun x=>zba x k o a b p) fun x _=>by
 unfold zba zdl
 rw[zdc];rfl
theorem zyk (l:List Int) (a b:Int):zbD l a b=some (l.all (inB a b)):=zhp (f:=fun x=>za9 x a b) fun x _=>by
 unfold za9 zdb
 rw[zdc];rfl
theorem zvd {R:Int→Int→Prop}(tr:∀a b c,R a b→R b c→R a c) {l:List Int}(h:∀i (h:i+1<l.length),R l[i] l[i+1]):l.Pairwise R:=by
 rw[List.pairwise_iff_getElem]
 intro i j hi hj hij
 obtain⟨d,rfl⟩:∃d,j=i+1+d:=⟨j-(i+1),by omega⟩
 induction d with
 |zero=>exact h i hj
 |succ d ih=>exact tr _ _ _ (ih (by omega) (by omega)) (h (i+1+d) hj)
open Classical in
def zkB (l:List Int):Bool:=decide (l.Pairwise (·≤ ·))
theorem zth {l:List Int}(hl:l.length≤1048576):zcb l=some (zkB l):=by
 unfold zcb
 have cl:∀a b:Int,zfl a b=some (decide (a<b)):=fun a b=>by
  unfold zfl zeX
  simp
 refine zah (zav (ψ:=fun x=>(x=.inl ()∧zkB l=true)∨(x=.inr false∧zkB l=false)) (zi8 (fun s=>s<l.length∧(-1≤s)∧∀i (h:i+1<l.length),s≤i→l[i]≤l[i+1]) (fun s=>s.toNat) ?_ ?_) ?_)
 ·rw[zag (by omega) (by omega)];exact⟨by omega,by omega,fun i h1 h2=>by omega⟩
 ·rintro s ⟨h1,h0,h2⟩
  refine zbo (fun h=>?_) fun h=>zae (.inl ⟨rfl,?_⟩)
  ·have h:0<s:=by simpa using h
   obtain⟨k,rfl⟩:∃k:Nat,s=((k+1:Nat):Int):=⟨(s-1).toNat,by omega⟩
   have e:IntKind.i64.wrap (((k+1:Nat):Int)-1)=(k:Int):=ceq (by omega) (by omega)
   refine za6 (by omega) ?_
   rw[e]
   refine za6 (by omega) (zad (cl _ _) (zbo (fun h=>zae (.inr ⟨rfl,?_⟩)) fun h=>zae ⟨⟨by omega,by omega,fun i hi h3=>?_⟩,by omega⟩))
   ·unfold zkB
    rw[decide_eq_false_iff_not,List.pairwise_iff_getElem]
    intro hp
    have:=hp k (k+1) (by omega) (by omega) (by omega)
    simp at h;omega
   rcases Nat.lt_or_ge k i with h4|h4
   ·exact h2 i hi (by omega)
   have:i=k:=by omega
   subst this
   simpa using h
  have h:¬0<s:=by simpa using h
  unfold zkB
  rw[decide_eq_true_eq]
  exact zvd (R:=(·≤ ·)) (fun a b c h1 h2=>Int.le_trans h1 h2) fun i hi=>h2 i hi (by omega)
 rintro x (⟨rfl,h⟩|⟨rfl,h⟩)<;>exact zae h.symm
open Classical in
theorem zwu (l:List Int):l.Pairwise (· < ·)↔(zkB l&&zif l)=true:=by
 unfold zkB zif
 simp only[Bool.and_eq_true,decide_eq_true_eq,List.nodup_iff_pairwise_ne]
 rw[←List.pairwise_and_iff]
 constructor<;>intro h<;>exact h.imp fun h=>by omega
theorem zz0 {l:List Int}(hl:l.length≤1048576) (a b:Int):ze3 l a b=some (l.all (inB a b)&&(zkB l&&zif l)):=by
 unfold ze3
 rw[zy2 (fun k=>(l[k]?).any (inB a b)&&(decide (k=0)||decide (l.getD (k-1) 0<l.getD k 0))) false true]
 ·congr 1
  rw[Bool.eq_iff_iff,Bool.and_eq_true (l.all (inB a b)),←zwu]
  simp only[Bool.if_false_right,Bool.and_true,Bool.if_true_left,Bool.or_false,Bool.decide_eq_true,decide_eq_true_eq,List.all_eq_true,List.mem_range,Bool.and_eq_true,Bool.or_eq_true]
  constructor
  ·refine fun h=>⟨fun x hx=>?_,zvd (R:=(· < ·)) (fun a b c h1 h2=>Int.lt_trans h1 h2) fun i hi=>?_⟩
   ·obtain⟨k,hk,rfl⟩:=List.mem_iff_getElem.1 hx
    have:=(h k hk).1
    rwa [List.getElem?_eq_getElem hk]at this
   have:=(h (i+1) hi).2
   have h1:i<l.length:=by omega
   simp[hi,h1]at this
   exact this
  refine fun h k hk=>⟨?_,?_⟩
  ·rw[List.getElem?_eq_getElem hk];exact h.1 _ (List.getElem_mem hk)
  rcases Nat.eq_zero_or_pos k with h0|h0
  ·exact .inl h0
  right
  have h1:k-1<l.length:=by omega
  simp[hk,h1]
  exact List.pairwise_iff_getElem.1 h.2 _ _ _ _ (by omega)
 intro k hk
 rw[zdO hk,Option.bind_some,zhb,Option.bind_some,List.getElem?_eq_getElem hk,Option.any_some]
 show((if(!inB a b l[k])=true then _ else _:Option Bool).bind _)=_
 cases h:inB a b l[k]with
 |false=>simp
 |true=>
  rcases Nat.eq_zero_or_pos k with h0|h0
  ·subst h0;simp
  ·have e:IntKind.i64.wrap ((k:Int)-1)=((k-1:Nat):Int):=ceq (by omega) (by omega)
   have h1:k-1<l.length:=by omega
   have h2:¬k=0:=by omega
   rw[e,zdO h1]
   by_cases h3:l[k]≤l[k-1]
   ·have:¬l[k-1]<l[k]:=by omega
    simp[h0,hk,h1,h2,h3,this]
   ·have:l[k-1]<l[k]:=by omega
    simp[h0,hk,h1,h2,h3,this]
theorem zl7 (a b:Bool):(if a=true then some b else some false)=some (a&&b):=by cases a<;>rfl
theorem zh7 (a b:Bool):(if a=true then some true else some b)=some (a||b):=by cases a<;>rfl
theorem zAp (l:List Int) (a b:Int):zcm l a b=some (l.all (inB a b)):=zlX l a b
theorem zs9 (x a b:Int):zaX x a b=some (inB a b x):=zhb x a b
theorem zqu (x a b:Int):zax x a b=some (inB a b x):=zdc x a b
theorem zxy {l:List Int}(hl:l.length≤1000000000000):zfd l=some (zif l):=zq7 zxx l hl
theorem zsu:∀{l:List Int}{c:Int},l.all (inB 0 c)=true→0≤l.sum∧l.sum≤l.length*c
 |[],_,_=>by simp
 |x::l,c,h=>by
  rw[List.all_cons,Bool.and_eq_true]at h
  have h1:=zc9.1 h.1
  have h2:=zsu h.2
  rw[List.sum_cons,List.length_cons]
  push_cast
  rw[Int.add_mul]
  omega
theorem zwi {α:Type}{l:List α}{p:α→Bool}(h:l.all p=true) (k:Nat):(l.take k).all p=true:=by
 rw[List.all_eq_true]at h⊢
 exact fun x hx=>h x (List.mem_of_mem_take hx)
theorem zwn {l:List Int}{k:Nat}(h:k<l.length):(l.take (k+1)).sum=(l.take k).sum+l[k]:=by
 rw[List.take_succ_eq_append_getElem h,List.sum_append];simp
theorem zp0 {β:Type}{v:List Int}(hv:v.all (inB 0 5)=true) (hl:v.length≤1000) (stop:Int→β):zak (fun i s=>(ix v i).bind fun x=>some (.go (IntKind.i64.wrap (s+x)))) stop v.length 0 0=some (stop v.sum):=by
 refine zah (zbf (fun k s=>s=(v.take k).sum) (by simp) ?_ ?_)
 ·rintro k s hk rfl
  refine za6 hk (zae ?_)
  have h:=zsu (zwi hv (k+1))
  have h2:(v.take (k+1)).length≤1000:=by simp;omega
  show IntKind.i64.wrap _=(v.take (k+1)).sum
  rw[←zwn hk,zag (by omega) (by omega)]
 rintro s rfl
 simp
def zfb (ct:Contest) (v:List Int):Bool:=
 if ct.Kind=1 then v.all (inB 0 (ct.Options-1))&&(zkB v&&zif v)&&inB ct.Least ct.Most v.length
 else if ct.Kind=2 then decide ((v.length:Int)=ct.Options)&&(v.all (inB 0 ct.Points)&&inB ct.Least ct.Most v.sum)
 else if ct.Kind=3 then v.all (inB 0 (ct.Options-1))&&(zif v&&inB ct.Least ct.Most v.length)
 else v.all (inB 1 26)&&inB ct.Least ct.Most v.length
theorem ze8 {l:List Int}{a b a' b':Int}(ha:a'≤a) (hb:b≤b') (h:l.all (inB a b)=true):l.all (inB a' b')=true:=by
 rw[List.all_eq_true]at h⊢
 intro x hx
 have:=zc9.1 (h x hx)
 exact zc9.2 (by omega)
theorem zx6 {ct:Contest}(k:OkC ct) {v:List Int}(hl:v.length≤1048576):zgl ct v=some (zfb ct v):=by
 have w1:IntKind.i64.wrap (ct.Options-1)=ct.Options-1:=by rcases k.k with h|h|h<;>exact zag (by omega) (by omega)
 unfold zgl zfb
 simp only[zz0 hl,zs9,zAp,zxy (l:=v) (by omega),w1,Option.bind_some,zl7]
 by_cases k1:ct.Kind=1
 ·simp[k1]
 by_cases k2:ct.Kind=2
 ·simp only[k2]
  by_cases hn:(v.length:Int)=ct.Options
  ·cases ha:v.all (inB 0 ct.Points)with
   |false=>simp[hn]
   |true=>
    have hp:ct.Points≤5∧ct.Options≤8:=by rcases k.k with h|h|h<;>omega
    have e:zfH v=some v.sum:=by
     unfold zfH
     rw[zp0 (ze8 (by omega) hp.1 ha) (by omega) (fun s=>s)];rfl
    simp[hn,e]
  simp[hn]
 by_cases k3:ct.Kind=3
 ·simp[k3]
 simp[k1,k2,k3]
theorem zwo {ct:Contest}(k:OkC ct) {v:List Int}(hl:v.length≤1048576):zcX ct v=some (zfb ct v):=by
 have w1:IntKind.i64.wrap (ct.Options-1)=ct.Options-1:=by rcases k.k with h|h|h<;>exact zag (by omega) (by omega)
 unfold zcX zfb
 simp only[zth hl,zqu,zxN,zyk,zyT v (by omega),w1,Option.bind_some,zl7,zh7]
 by_cases k2:ct.Kind=2
 ·have k1:¬ct.Kind=1:=by omega
  have k3:¬ct.Kind=3:=by omega
  simp only[k2]
  by_cases hn:(v.length:Int)=ct.Options
  ·cases ha:v.all (inB 0 ct.Points)with
   |false=>simp[hn]
   |true=>
    have hp:ct.Points≤5∧ct.Options≤8:=by rcases k.k with h|h|h<;>omega
    have e:=zp0 (ze8 (by omega) hp.1 ha) (by omega) (fun s=>(Sum.inl (s,0,ct.Points):(Int×Int×Int) ⊕ Bool))
    simp only[hn,bne_self_eq_false,Bool.not_true,Bool.or_false,Bool.false_eq_true,if_false,beq_self_eq_true,if_true,e,Option.bind_some,Sum.elim_inl,ha]
    cases inB ct.Least ct.Most v.sum<;>simp
  have:((v.length:Int) !=ct.Options)=true:=by simpa using hn
  simp[this,hn]
 by_cases k1:ct.Kind=1
 ·simp[k1,-List.all_eq_true,-List.all_eq_false]
  cases inB ct.Least ct.Most v.length<;>cases v.all (inB 0 (ct.Options-1))<;>simp
 by_cases k3:ct.Kind=3
 ·simp[k3,-List.all_eq_true,-List.all_eq_false]
  cases inB ct.Least ct.Most v.length<;>cases v.all (inB 0 (ct.Options-1))<;>simp
 have k4:ct.Kind=4:=by rcases k.k with h|h|h<;>omega
 simp[k4,-List.all_eq_true,-List.all_eq_false]
 cases inB ct.Least ct.Most v.length<;>cases v.all (inB 1 26)<;>simp
def num (b:Int):List Int→Int
 |[]=>0
 |d::l=>num b l*b+d
theorem zvz {b:Int}(hb:0≤b∧b≤40):∀{l:List Int},l.all (inB 0 40)=true→0≤num b l∧num b l≤64^(l.length+1)
 |[],_=>by simp[num]
 |d::l,h=>by
  rw[List.all_cons,Bool.and_eq_true]at h
  have h1:=zc9.1 h.1
  have h2:=zvz hb h.2
  have h3:num b l*b≤64^(l.length+1)*40:=Int.mul_le_mul h2.2 hb.2 hb.1 (by omega)
  have h4:=Int.mul_nonneg h2.1 hb.1
  have h5:(1:Int)≤64^(l.length+1):=Int.pow_pos (by omega)
  simp only[num,List.length_cons]
  rw[Int.pow_succ (64:Int) (l.length+1)]
  omega
theorem zx5 {b:Int}(hb:0≤b∧b≤40) {l:List Int}(hl:l.length≤8) (h:l.all (inB 0 40)=true):0≤num b l∧num b l≤18014398509481984:=by
 have:=zvz hb h
 have h2:(64:Nat)^(l.length+1)≤64^9:=Nat.pow_le_pow_right (by omega) (by omega)
 have h3:((64^(l.length+1):Nat):Int)=(64:Int)^(l.length+1):=Int.natCast_pow 64 _
 omega
theorem zqR {l:List Int}{b m:Int}(hb:0≤b∧b≤40) (hl:l.length≤8) (h:(l.map (· +m)).all (inB 0 40)=true) {step:Int×Int→Option (Stp (Int×Int) Int)}
 (hs:∀(k:Nat) (h:k<l.length) (a:Int),0≤a→a≤18014398509481984→step (a,(k:Int))=some (.go (a*b+(l[k]+m),(k:Int)-1))) (he:∀a,step (a,-1)=some (.out a)):
 zaN step (0,(l.length:Int)-1)=some (num b (l.map (· +m))):=by
 refine zah (ze6 l.length (fun j p=>p=(num b ((l.drop (l.length-j)).map (· +m)),((l.length-j:Nat):Int)-1)∧j≤l.length) ⟨by simp[num],by omega⟩ ?_ ?_)
 ·rintro j p hj ⟨rfl,_⟩
  obtain⟨k,hk,e1,e2⟩:∃k:Nat,k<l.length∧l.length-j=k+1∧l.length-(j+1)=k:=⟨l.length-j-1,by omega,by omega,by omega⟩
  rw[e1]
  have hd:((l.drop (k+1)).map (· +m)).all (inB 0 40)=true:=by
   rw[List.all_eq_true]at h⊢
   intro x hx
   obtain⟨y,hy,rfl⟩:=List.mem_map.1 hx
   exact h _ (List.mem_map.2 ⟨y,List.mem_of_mem_drop hy,rfl⟩)
  have bd:=zx5 hb (by simp;omega) hd
  refine⟨.go (num b ((l.drop (k+1)).map (· +m))*b+(l[k]+m),(k:Int)-1),by rw[show((k+1:Nat):Int)-1=(k:Int)by omega];exact hs k hk _ bd.1 bd.2,?_,hj⟩
  rw[e2,List.drop_eq_getElem_cons hk]
  rfl
 rintro p ⟨rfl,_⟩
 refine⟨.out (num b (l.map (· +m))),?_,rfl⟩
 rw[Nat.sub_self,List.drop_zero]
 exact he _
theorem zuo {l:List Int}{m a b:Int}(h:(l.map (· +m)).all (inB a b)=true) {k:Nat}(hk:k<l.length):a≤l[k]+m∧l[k]+m≤b:=by
 rw[List.all_eq_true]at h
 exact zc9.1 (h _ (List.mem_map.2 ⟨l[k],List.getElem_mem hk,rfl⟩))
theorem zfs {l:List Int}{b m:Int}(hb:0≤b∧b≤40) (hm:0≤m∧m≤1) (hl:l.length≤8) (h:(l.map (· +m)).all (inB 0 40)=true):zcW l b m=some (num b (l.map (· +m))):=by
 unfold zcW
 rw[zag (n:=(l.length:Int)-1) (by omega) (by omega),zqR hb hl h,Option.bind_some]
 ·intro k hk a h0 h1
  have h2:a*b≤18014398509481984*40:=Int.mul_le_mul h1 hb.2 hb.1 (by omega)
  have h3:=Int.mul_nonneg h0 hb.1
  have h4:=zuo h hk
  rw[if_pos (by simp),zdO hk,Option.bind_some,zag (n:=a*b) (by omega) (by omega),zag (n:=a*b+l[k]) (by omega) (by omega),zag (n:=a*b+l[k]+m) (by omega) (by omega),zag (n:=(k:Int)-1) (by omega) (by omega),Int.add_assoc]
 intro a;rfl
theorem ziS {l:List Int}{b:Int}(hb:0≤b∧b≤40) (hl:l.length≤8) (h:l.all (inB 0 40)=true):zeM l b=some (num b l):=by
 have e:l.map (· +0)=l:=by simp
 unfold zeM
 rw[zag (n:=(l.length:Int)-1) (by omega) (by omega),zqR (m:=0) hb hl (by rw[e];exact h),Option.bind_some,e]
 ·intro k hk a h0 h1
  have h2:a*b≤18014398509481984*40:=Int.mul_le_mul h1 hb.2 hb.1 (by omega)
  have h3:=Int.mul_nonneg h0 hb.1
  have h4:=zuo (m:=0) (by rw[e];exact h) hk
  rw[if_pos (by simp),zdO hk,Option.bind_some,zag (n:=a*b) (by omega) (by omega),zag (n:=a*b+l[k]) (by omega) (by omega),zag (n:=(k:Int)-1) (by omega) (by omega),Int.add_zero]
 intro a;rfl
def zeE (n:Nat) (v:List Int):List Int:=(List.range n).map fun(i:Nat)=>if v.contains (i:Int)=true then 1 else 0
theorem zh1 (n:Nat) (v:List Int):(zeE n v).length=n:=by simp[zeE]
theorem zkb {ct:Contest}(ho:0≤ct.Options∧ct.Options≤8) {v:List Int}(h:v.all (inB 0 (ct.Options-1))=true):zd7 ct v=some (zeE ct.Options.toNat v):=by
 unfold zd7
 refine zah (zap (by omega) (zad rfl (zav (ψ:=fun b=>b=_) (zbf (fun k s=>s=zeE ct.Options.toNat (v.take k)) ?_ ?_ ?_) fun b hb=>zae hb)))
 ·simp[zeE,List.map_const']
 ·rintro k s hk rfl
  have hv:=zc9.1 (List.all_eq_true.1 h _ (List.getElem_mem hk))
  obtain⟨x,hx⟩:∃x:Nat,v[k]=(x:Int):=⟨v[k].toNat,by omega⟩
  refine za6 hk ?_
  rw[hx]
  refine za6 (by rw[zh1];omega) (zae ?_)
  show(zeE _ (v.take k)).set x 1=zeE _ (v.take (k+1))
  rw[List.take_succ_eq_append_getElem hk]
  apply List.ext_getElem (by simp[zh1])
  intro i hi hi2
  rw[List.getElem_set]
  simp only[zeE,List.getElem_map,List.getElem_range,List.contains_eq_mem,List.mem_append,List.mem_singleton,decide_eq_true_eq]
  by_cases e:x=i
  ·subst e;simp[hx]
  have:¬(i:Int)=v[k]:=by omega
  simp[e,this]
 rintro s rfl
 rw[List.take_length]
theorem ztp (ct:Contest) (v:List Int):zdM ct v=zd7 ct v:=rfl
def rng (a:Int) (n:Nat):List Int:=(List.range n).map fun(i:Nat)=>a+(i:Int)
theorem zsI (a:Int) (n:Nat):(rng a n).length=n:=by simp[rng]
theorem zsp {a x:Int}{n:Nat}:x∈rng a n↔a≤x∧x<a+n:=by
 simp only[rng,List.mem_map,List.mem_range]
 constructor
 ·rintro⟨i,hi,rfl⟩;omega
 exact fun h=>⟨(x-a).toNat,by omega,by omega⟩
theorem zsn {a b c:Int}{n:Nat}(h1:b≤a) (h2:a+n-1≤c):(rng a n).all (inB b c)=true:=by
 rw[List.all_eq_true]
 intro x hx
 have:=zsp.1 hx
 exact zc9.2 (by omega)
theorem zn6 {β:Type}{step:List Int×Int→Option (Stp (List Int×Int) β)}{f:Nat→Int}{out:List Int→β}{a:Int}(n:Nat) (hs:∀(k:Nat) (s:List Int),k<n→s.length=k→step (s,a+(k:Int))=some (.go (s++[f k],a+(k:Int)+1))) (he:∀s,step (s,a+(n:Int))=some (.out (out s))):
 zaN step ([],a)=some (out ((List.range n).map f)):=by
 refine zah (ze6 n (fun k p=>p=((List.range k).map f,a+(k:Int))) (by simp) ?_ ?_)
 ·rintro k p hk rfl
  refine⟨_,hs k _ hk (by simp),?_⟩
  show(_,_)=_
  rw[List.range_succ,List.map_append]
  have e:a+(k:Int)+1=a+((k+1:Nat):Int):=by omega
  rw[e];rfl
 rintro p rfl
 exact⟨_,he _,rfl⟩
theorem zAh {step:List Int×Int×Int→Option (Stp (List Int×Int×Int) (List Int))}{n:Nat}{m:Int}(hn:n≤8) (p:Int) (hp:0≤p∧p≤5) (hm:0≤m)
 (hs:∀(k:Nat) (s:List Int) (r:Int),k<n→s.length=n→0≤r→r≤m→step (s,r,(k:Int))=some (.go (s.set k (if p<r then p else r),r-(if p<r then p else r),(k:Int)-1))) (he:∀s r,step (s,r,-1)=some (.out s)):
 ∃l,zaN step (List.replicate n 0,m,(n:Int)-1)=some l∧l.length=n∧l.all (inB 0 5)=true:=by
 refine ze6 n (fun j x=>x.1.length=n∧x.1.all (inB 0 5)=true∧(0≤x.2.1∧x.2.1≤m)∧x.2.2=((n-j:Nat):Int)-1∧j≤n) ⟨by simp,?_,⟨hm,Int.le_refl _⟩,by simp,by omega⟩ ?_ ?_
 ·rw[List.all_eq_true]
  intro x hx
  have:x=0:=(List.mem_replicate.1 hx).2
  subst this;rfl
 ·rintro j ⟨s,r,c⟩ hj ⟨h1,h2,h3,h4,_⟩
  simp only at h1 h2 h3 h4
  obtain⟨k,hk,e1,e2⟩:∃k:Nat,k<n∧n-j=k+1∧n-(j+1)=k:=⟨n-j-1,by omega,by omega,by omega⟩
  have:c=(k:Int):=by omega
  subst this
  have b:0≤(if p<r then p else r)∧(if p<r then p else r)≤5∧(if p<r then p else r)≤r:=by split<;>omega
  refine⟨.go (s.set k (if p<r then p else r),r-(if p<r then p else r),(k:Int)-1),hs k s r hk h1 h3.1 h3.2,by simpa using h1,?_,⟨by dsimp only;omega,by dsimp only;omega⟩,by dsimp only;omega,hj⟩
  rw[List.all_eq_true]at h2⊢
  intro x hx
  rcases List.mem_or_eq_of_mem_set hx with h|rfl
  ·exact h2 x h
  exact zc9.2 ⟨b.1,b.2.1⟩
 rintro⟨s,r,c⟩ ⟨h1,h2,h3,h4,_⟩
 simp only at h1 h2 h3 h4
 have:c=-1:=by omega
 subst this
 exact⟨_,he s r,h1,h2⟩
theorem znO {ct:Contest}(k:OkC ct):∃n,zdD ct=some n∧zbU ct=some n:=by
 have lo:=k.lo
 unfold zdD zbU
 rcases k.k with⟨k13,ho,hm,hp⟩|⟨k2,ho,hp,hm⟩|⟨k4,ho,hm,hp⟩
 ·obtain⟨o,eo⟩:∃o:Nat,ct.Options=(o:Int):=⟨ct.Options.toNat,by omega⟩
  obtain⟨m,em⟩:∃m:Nat,ct.Most=(m:Int):=⟨ct.Most.toNat,by omega⟩
  have w:IntKind.i64.wrap (ct.Options-ct.Most)=ct.Options-ct.Most:=zag (by omega) (by omega)
  have e1:∀{β:Type}(out:List Int→β),zaN (fun s5:List Int×Int=>if decide (s5.2<ct.Options)=true then(gd ((s5.1.length+1)*8≤140737488355328∧s5.1.length+1≤4611686018427387904)<|some (.go (s5.1++[s5.2],IntKind.i64.wrap (s5.2+1))))else(some (.out (out s5.1)))) ([],ct.Options-ct.Most)=some (out (rng (ct.Options-ct.Most) m)):=fun{β} out=>by
   refine zn6 m ?_ ?_
   ·intro c s hc hs
    rw[if_pos (by simp;omega),zcu (by rw[hs];omega),zag (by dsimp only;omega) (by dsimp only;omega)]
   ·intro s
    rw[if_neg (by simp;omega)]
  have hall:(rng (ct.Options-ct.Most) m).all (inB 0 (ct.Options-1))=true:=zsn (by omega) (by omega)
  rcases k13 with k1|k3
  ·rw[k1]
   simp only[show((1:Int)==1)=true from rfl,if_true,w]
   have e2:zaN (σ:=List Int×Int) (β:=List Int) (fun s5=>if decide (s5.2<ct.Options)=true then(((if decide (ct.Options-ct.Most≤s5.2)=true then(some 1)else(some 0):Option Int).bind fun x13=>
    gd ((s5.1.length+1)*8≤140737488355328∧s5.1.length+1≤4611686018427387904)<|some (.go (s5.1++[x13],IntKind.i64.wrap (s5.2+1)))))else(some (.out s5.1))) ([],0)=some ((List.range o).map fun(i:Nat)=>if decide (ct.Options-ct.Most≤(i:Int))=true then 1 else 0):=by
    refine zn6 (out:=fun s=>s) (a:=0) o ?_ ?_
    ·intro c s hc hs
     have hg:∀x:Int,gd ((s.length+1)*8≤140737488355328∧s.length+1≤4611686018427387904) (some (Stp.go (β:=List Int) (s++[x],IntKind.i64.wrap (0+(c:Int)+1))))=some (.go (s++[x],0+(c:Int)+1)):=fun x=>by
      rw[zcu (by rw[hs];omega),zag (by omega) (by omega)]
     rw[if_pos (by simp;omega)]
     dsimp only
     by_cases h:ct.Options-ct.Most≤(c:Int)
     ·rw[if_pos (by simpa using h),Option.bind_some,hg,if_pos (by simpa using h)]
     ·rw[if_neg (by simpa using h),Option.bind_some,hg,if_neg (by simpa using h)]
    ·intro s
     rw[if_neg (by simp;omega)]
   have em2:zeE ct.Options.toNat (rng (ct.Options-ct.Most) m)=(List.range o).map fun(i:Nat)=>if decide (ct.Options-ct.Most≤(i:Int))=true then 1 else 0:=by
    have:ct.Options.toNat=o:=by omega
    rw[this]
    unfold zeE
    refine List.map_congr_left fun i hi=>?_
    have hi:=List.mem_range.1 hi
    congr 1
    rw[List.contains_eq_mem,decide_eq_true_eq,decide_eq_true_eq,zsp]
    exact propext ⟨fun h=>h.1,fun h=>⟨h,by omega⟩⟩
   have ha:((List.range o).map fun(i:Nat)=>if decide (ct.Options-ct.Most≤(i:Int))=true then(1:Int)else 0).all (inB 0 40)=true:=by
    rw[List.all_map,List.all_eq_true]
    intro i _
    show inB 0 40 (if _ then _ else _)=true
    split<;>rfl
   have hb:zaF ct=some 2:=by unfold zaF;rw[k1];rfl
   refine⟨?_,?_,?_⟩
   rotate_left 2
   ·rw[e2,Option.bind_some,hb,Option.bind_some,ziS (by omega) (by simp;omega) ha];rfl
   rw[e1 (fun s=>s),Option.bind_some]
   unfold zck
   rw[k1,if_pos (show((1:Int)==1)=true from rfl),zkb (by omega) hall,Option.bind_some,em2,zfs (by omega) (by omega) (by simp;omega) (by simpa using ha)]
   simp
   rfl
  rw[k3]
  simp only[show((3:Int)==1)=false from rfl,show((3:Int)==2)=false from rfl,show((3:Int)==3)=true from rfl,Bool.false_eq_true,if_false,if_true,w]
  have ee:(rng (ct.Options-ct.Most) m).map (· +1)=rng (ct.Options-ct.Most+1) m:=by
   simp only[rng,List.map_map]
   refine List.map_congr_left fun i hi=>?_
   show ct.Options-ct.Most+(i:Int)+1=ct.Options-ct.Most+1+(i:Int);omega
  have e2:zaN (σ:=List Int×Int) (β:=List Int) (fun s40=>if decide (s40.2<ct.Most)=true then(gd ((s40.1.length+1)*8≤140737488355328∧s40.1.length+1≤4611686018427387904)<|
   some (.go (s40.1++[IntKind.i64.wrap ((IntKind.i64.wrap (ct.Options-ct.Most+1))+s40.2)],IntKind.i64.wrap (s40.2+1))))else(some (.out s40.1))) ([],0)=some (rng (ct.Options-ct.Most+1) m):=by
   refine zn6 (out:=fun s=>s) (a:=0) (f:=fun i=>ct.Options-ct.Most+1+(i:Int)) m ?_ ?_
   ·intro c s hc hs
    rw[if_pos (by simp;omega),zcu (by rw[hs];omega),zag (n:=ct.Options-ct.Most+1) (by omega) (by omega),zag (n:=0+(c:Int)+1) (by omega) (by omega),zag (by dsimp only;omega) (by dsimp only;omega),Int.zero_add]
   ·intro s
    rw[if_neg (by simp;omega)]
  have ha:(rng (ct.Options-ct.Most+1) m).all (inB 0 40)=true:=zsn (by omega) (by omega)
  have hb:zaF ct=some (ct.Options+1):=by unfold zaF;rw[k3,zag (n:=ct.Options+1) (by omega) (by omega)];rfl
  refine⟨?_,?_,?_⟩
  rotate_left 2
  ·rw[e2,Option.bind_some,hb,Option.bind_some,ziS (by omega) (by rw[zsI];omega) ha];rfl
  rw[e1 (fun s=>s),Option.bind_some]
  unfold zck
  rw[k3,zag (n:=ct.Options+1) (by omega) (by omega)]
  simp only[show((3:Int)==1)=false from rfl,show((3:Int)==2)=false from rfl,show((3:Int)==3)=true from rfl,Bool.false_eq_true,if_false,if_true]
  rw[zfs (by omega) (by omega) (by rw[zsI];omega) (by rw[ee];exact ha),ee]
  rfl
 ·obtain⟨o,eo⟩:∃o:Nat,ct.Options=(o:Int):=⟨ct.Options.toNat,by omega⟩
  have mb:=zAc ho hp
  rw[k2]
  simp only[show((2:Int)==1)=false from rfl,show((2:Int)==2)=true from rfl,Bool.false_eq_true,if_false,if_true]
  rw[zcu (by omega),zcu (by omega),Option.bind_some,Option.bind_some,zag (n:=ct.Options-1) (by omega) (by omega)]
  have hl:∀a b:Int,zdI a b=some (if a<b then a else b):=fun a b=>by unfold zdI;by_cases h:a<b<;>simp[h]
  have hmin:∀a b:Int,(if b<a then b else a)=(if a<b then a else b):=fun a b=>by split<;>split<;>omega
  have eS:=zAh (step:=fun s26:List Int×Int×Int=>
   if decide (0≤s26.2.2)=true then(
   (zdI s26.2.1 ct.Points).bind fun z32=>
   (ix s26.1 s26.2.2).bind fun x33=>
   (ix (s26.1.set s26.2.2.toNat z32) s26.2.2).bind fun x34=>
   some (.go (s26.1.set s26.2.2.toNat z32,IntKind.i64.wrap (s26.2.1-x34),IntKind.i64.wrap (s26.2.2-1))))else(
   some (.out s26.1))) (n:=o) (m:=ct.Most) (by omega) ct.Points (by omega) (by omega) ?_ (fun s r=>rfl)
  ·obtain⟨l,h1,h2,h3⟩:=eS
   have e:(fun s26:List Int×Int×Int=>
    if decide (0≤s26.2.2)=true then(
    (zdI s26.2.1 ct.Points).bind fun z32=>
    (ix s26.1 s26.2.2).bind fun x33=>
    (ix (s26.1.set s26.2.2.toNat z32) s26.2.2).bind fun x34=>
    some (.go (s26.1.set s26.2.2.toNat z32,IntKind.i64.wrap (s26.2.1-x34),IntKind.i64.wrap (s26.2.2-1))))else(
    some (.out s26.1)))=(fun s29:List Int×Int×Int=>
    if decide (0≤s29.2.2)=true then(
    (ix s29.1 s29.2.2).bind fun x35=>
    (ix (s29.1.set s29.2.2.toNat (if ct.Points<s29.2.1 then ct.Points else s29.2.1)) s29.2.2).bind fun x36=>
    some (Stp.go (s29.1.set s29.2.2.toNat (if ct.Points<s29.2.1 then ct.Points else s29.2.1),IntKind.i64.wrap (s29.2.1-x36),IntKind.i64.wrap (s29.2.2-1))))else(
    some (.out s29.1))):=by
    funext s
    simp only[hl,hmin,Option.bind_some]
   rw[←e]
   have:ct.Options.toNat=o:=by omega
   rw[this,eo,h1,Option.bind_some,Option.bind_some]
   have hb:zaF ct=some (ct.Points+1):=by unfold zaF;rw[k2,zag (by omega) (by omega)];rfl
   have ha:=ze8 (a:=0) (a':=0) (b:=5) (b':=40) (by omega) (by omega) h3
   refine⟨?_,?_,?_⟩
   rotate_left 2
   ·rw[hb,Option.bind_some,ziS (by omega) (by omega) ha];rfl
   unfold zck
   rw[k2,zag (n:=ct.Points+1) (by omega) (by omega)]
   simp only[show((2:Int)==1)=false from rfl,show((2:Int)==2)=true from rfl,Bool.false_eq_true,if_false,if_true]
   rw[zfs (by omega) (by omega) (by omega) (by simpa using ha)]
   simp
  intro c s r hc hs h0 h1
  have hc2:c<(s.set c (if ct.Points<r then ct.Points else r)).length:=by simp;omega
  dsimp only
  rw[if_pos (by simp),hl,Option.bind_some,zdO (by omega),Option.bind_some,←hmin,Int.toNat_natCast,zdO hc2,Option.bind_some]
  have b:0≤(if ct.Points<r then ct.Points else r)∧(if ct.Points<r then ct.Points else r)≤r:=by split<;>omega
  rw[List.getElem_set_self,zag (by omega) (by omega),zag (by omega) (by omega)]
 obtain⟨m,em⟩:∃m:Nat,ct.Most=(m:Int):=⟨ct.Most.toNat,by omega⟩
 rw[k4]
 simp only[show((4:Int)==1)=false from rfl,show((4:Int)==2)=false from rfl,show((4:Int)==3)=false from rfl,Bool.false_eq_true,if_false,if_true]
 have e1:zaN (σ:=List Int×Int) (β:=List Int) (fun s46=>if decide (s46.2<ct.Most)=true then(gd ((s46.1.length+1)*8≤140737488355328∧s46.1.length+1≤4611686018427387904)<|
  some (.go (s46.1++[26],IntKind.i64.wrap (s46.2+1))))else(some (.out s46.1))) ([],0)=some ((List.range m).map fun _=>26):=by
  refine zn6 (out:=fun s=>s) (a:=0) m ?_ ?_
  ·intro c s hc hs
   rw[if_pos (by simp;omega),zcu (by rw[hs];omega),zag (by dsimp only;omega) (by dsimp only;omega)]
  ·intro s
   rw[if_neg (by simp;omega)]
 have ha:((List.range m).map fun _=>(26:Int)).all (inB 0 40)=true:=by
  rw[List.all_map,List.all_eq_true];intro i _;rfl
 have hb:zaF ct=some 27:=by unfold zaF;rw[k4];rfl
 rw[e1,Option.bind_some,Option.bind_some]
 refine⟨?_,?_,?_⟩
 rotate_left 2
 ·rw[hb,Option.bind_some,ziS (by omega) (by simp;omega) ha];rfl
 unfold zck
 rw[k4]
 simp only[show((4:Int)==1)=false from rfl,show((4:Int)==2)=false from rfl,show((4:Int)==3)=false from rfl,Bool.false_eq_true,if_false,if_true]
 rw[zfs (by omega) (by omega) (by simp;omega) (by simpa using ha)]
 simp
 rfl
theorem zlT (ct:Contest):zbN ct=some (ct.Kind==1||ct.Kind==2):=by
 unfold zbN
 rw[zh7];rfl
theorem zjS (ct:Contest):zeA ct=some (ct.Kind==1||ct.Kind==2):=by
 unfold zeA
 rw[zh7];rfl
theorem znM (gr:Group) (ct:Contest):∃b,zdj gr ct=some b∧zdm gr ct=some b∧(b=true→OkG gr∧OkC ct):=by
 unfold zdj zdm
 rw[zp4,zmP]
 simp only[znZ,ziY,zjS,zlT,Option.bind_some]
 cases hg:okG gr with
 |false=>exact⟨false,rfl,rfl,fun h=>by cases h⟩
 |true=>
  cases hc:okC ct with
  |false=>exact⟨false,rfl,rfl,fun h=>by cases h⟩
  |true=>
   obtain⟨n,h1,h2⟩:=znO (zpy.1 hc)
   simp only[h1,h2,Bool.not_true,Bool.false_eq_true,if_false,Option.bind_some]
   have k:=And.intro (zmb.1 hg) (zpy.1 hc)
   simp only[zh7,zl7,Option.bind_some]
   cases decide (100000<n)||decide (gr.Q≤n)with
   |true=>exact⟨false,rfl,rfl,fun h=>by cases h⟩
   |false=>exact⟨_,rfl,rfl,fun _=>k⟩
theorem zyb {l:List Int}(h:l.length≤1048576):zhf l=some l:=zcu (by omega)
theorem zhl {α:Type}{L:List (List α)}{i:Nat}(h:i<L.length):(L.take (i+1)).flatten=(L.take i).flatten++L[i]:=by
 rw[List.take_succ_eq_append_getElem h,List.flatten_append];simp
theorem zmV {α:Type}(L:List (List α)) (i:Nat):(L.take i).flatten.length≤L.flatten.length:=by
 have e:L.flatten=(L.take i).flatten++(L.drop i).flatten:=by rw[←List.flatten_append,List.take_append_drop]
 rw[e,List.length_append];omega
theorem zk2 (L:List (List Int)) (h:L.flatten.length≤1000000000000):zbx L=some L.flatten:=by
 unfold zbx
 refine zah (zav (ψ:=fun n=>n=(L.flatten.length:Int)) (zbf (fun i s=>s=((L.take i).flatten.length:Int)) rfl ?_ ?_) ?_)
 ·rintro i s hi rfl
  have e:=congrArg List.length (zhl hi)
  rw[List.length_append]at e
  have hl:=zmV L (i+1)
  refine za6 hi ?_
  rw[zag (by omega) (by omega)]
  refine za8 (by simp only[decide_eq_false_iff_not];omega) (zae ?_)
  show _=_
  omega
 ·rintro s rfl
  rw[List.take_length]
 rintro n rfl
 refine zap (by omega) (zav (ψ:=fun r=>r=L.flatten) (zbf (fun i s=>s=(L.take i).flatten) rfl ?_ ?_) fun r hr=>zae hr)
 ·rintro i s hi rfl
  have e:=congrArg List.length (zhl hi)
  rw[List.length_append]at e
  have hl:=zmV L (i+1)
  refine za6 hi (zap (by omega) (zae ?_))
  show _=_
  rw[zhl hi]
 rintro s rfl
 rw[List.take_length]
def chG (gr:Group) (s:ByteArray) (l:List Int):Int:=zly s ([gr.P,gr.Q,gr.G]++l)%gr.Q
theorem zvE {gr:Group}(k:OkG gr) (s:ByteArray) (l:List Int):0≤chG gr s l∧chG gr s l<gr.Q:=by
 have:=k.q
 exact⟨Int.emod_nonneg _ (by omega),Int.emod_lt_of_pos _ (by omega)⟩
theorem zsk {gr:Group}(k:OkG gr) {l:List Int}:([gr.P,gr.Q,gr.G]++l).all zbq=l.all zbq:=by
 have hp:=k.p
 have hq:=k.q
 have hg:=k.g
 rw[List.all_append]
 have:[gr.P,gr.Q,gr.G].all zbq=true:=by
  simp only[List.all_cons,List.all_nil,Bool.and_true,Bool.and_eq_true]
  exact⟨zdg.2 (by omega),zdg.2 (by omega),zdg.2 (by omega)⟩
 rw[this,Bool.true_and]
theorem zp2 {gr:Group}(k:OkG gr) {s:ByteArray}{l:List Int}(hs:s.size≤1000000) (hl:l.length≤10000000000) (hd:l.all zbq=true):zbM gr s l=some (chG gr s l):=by
 have hq:=k.q
 have hb:=zdg.1 (zkc s ([gr.P,gr.Q,gr.G]++l))
 unfold zbM
 rw[zcu (by simp only[List.length_cons,List.length_nil];omega),zjr hs (by simp only[List.length_append,List.length_cons,List.length_nil];omega) (by rw[zsk k];exact hd),Option.bind_some,zcu (by omega),Int.tmod_eq_emod_of_nonneg hb.1]
 rfl
theorem zvv {gr:Group}(k:OkG gr) (s:ByteArray) {l:List Int}(hl:l.length≤10000000000):zbl gr s l=some (if zhJ s ([gr.P,gr.Q,gr.G]++l)=true then(chG gr s l,true)else(0,false)):=by
 have hq:=k.q
 have hb:=zdg.1 (zkc s ([gr.P,gr.Q,gr.G]++l))
 unfold zbl
 rw[zcu (by simp only[List.length_cons,List.length_nil];omega),zjZ,Option.bind_some]
 cases zhJ s ([gr.P,gr.Q,gr.G]++l)with
 |false=>rfl
 |true=>
  simp only[if_true,Bool.not_true,Bool.false_eq_true,if_false]
  rw[zcu (by omega),Int.tmod_eq_emod_of_nonneg hb.1]
  rfl
theorem zxs {gr:Group}(k:OkG gr) {s:ByteArray}{l:List Int}(hs:s.size≤40) (hl:4+s.size+l.length≤400) (hd:l.all zbq=true):zhJ s ([gr.P,gr.Q,gr.G]++l)=true:=by
 unfold zhJ
 rw[zsk k,hd,Bool.and_true,Bool.and_eq_true,decide_eq_true_eq,decide_eq_true_eq]
 simp only[List.length_append,List.length_cons,List.length_nil]
 omega
def zhq (gr:Group):List Int→List Int→Int→Int
 |x::l,e::m,o=>zhq gr l m (o*zar gr x e%gr.P)
 |_,_,o=>o
theorem zoX (gr:Group):∀(l m:List Int) (x e o:Int),l.length=m.length→zhq gr (l++[x]) (m++[e]) o=zhq gr l m o*zar gr x e%gr.P
 |[],[],x,e,o,_=>rfl
 |y::l,f::m,x,e,o,h=>zoX gr l m x e _ (by simpa using h)
theorem zqk (gr:Group):∀(l m:List Int) (o:Int),zhq gr l (m.take l.length) o=zhq gr l m o
 |[],m,o=>by cases m<;>rfl
 |y::l,[],o=>rfl
 |y::l,f::m,o=>zqk gr l m _
theorem zrW {gr:Group}(h:0<gr.P):∀(l m:List Int) (o:Int),0≤o∧o<gr.P→0≤zhq gr l m o∧zhq gr l m o<gr.P
 |x::l,e::m,o,_=>zrW h l m _ ⟨Int.emod_nonneg _ (by omega),Int.emod_lt_of_pos _ h⟩
 |[],_,o,ho=>ho
 |_::_,[],o,ho=>ho
theorem zsF {gr:Group}(k:OkG gr) {x y:Int}(hx:0≤x∧x<gr.P) (hy:0≤y):zeB gr [x,y]=x*y%gr.P:=by
 have hp:=k.p
 simp only[zeB,List.foldl_cons,List.foldl_nil,Int.one_mul]
 rw[Int.emod_eq_of_lt hx.1 hx.2]
theorem zuQ {gr:Group}(k:OkG gr) {l m:List Int}(hl:∀x∈l,0≤x∧x≤2000000000) (hm:l.length≤m.length):zdv gr l m=some (zhq gr l m 1):=by
 have hp:=k.p
 unfold zdv
 refine zah (zav (ψ:=fun b=>b=zhq gr l m 1) (zbf (fun i s=>s=zhq gr (l.take i) (m.take i) 1) rfl ?_ ?_) fun b hb=>zae hb)
 ·rintro i s hi rfl
  have bd:=zrW (gr:=gr) (by omega) (l.take i) (m.take i) 1 (by omega)
  have hx:=hl l[i] (List.getElem_mem hi)
  have pb:=zg3 k l[i] (m[i]'(by omega))
  refine za6 hi (za6 (show i<m.length by omega) (zad (znC k hx.1 hx.2 _).1 (zad (zpr k ?_) (zae ?_))))
  ·intro y hy
   simp only[List.mem_cons,List.not_mem_nil,or_false]at hy
   rcases hy with rfl|rfl<;>omega
  show _=zhq gr (l.take (i+1)) (m.take (i+1)) 1
  rw[List.take_succ_eq_append_getElem hi,List.take_succ_eq_append_getElem (show i<m.length by omega),zoX _ _ _ _ _ _ (by simp;omega),zsF k bd pb.1]
 rintro s rfl
 rw[List.take_length,zqk]
structure LinS (gr:Group) (bs:List (List Int)):Prop where
 n:1≤bs.length∧bs.length≤8
 m:1≤(bs.headD []).length∧(bs.headD []).length≤8
 r:∀r∈bs,r.length=(bs.headD []).length∧r.all (zaD gr)=true
theorem LinS.hd {gr:Group}{bs:List (List Int)}(h:LinS gr bs):ix bs 0=some (bs.headD []):=by
 cases bs with
 |nil=>have:=h.n;simp at this
 |cons r l=>rfl
theorem zxX {gr:Group}(k:OkG gr) {l:List Int}(h:l.all (zaD gr)=true):∀x∈l,0≤x∧x≤2000000000:=fun x hx=>by
 have hp:=k.p
 have:=zjR (List.all_eq_true.1 h x hx)
 omega
theorem zzp {bs:List (List Int)}{im cs:List Int}(h1:bs.flatten.length≤1000000) (h2:im.length≤1048576) (h3:cs.length≤1048576):zeg bs im cs=some (bs.flatten++im++cs):=by
 unfold zeg
 refine zah (zav (ψ:=fun r=>r=bs.flatten) (zbf (fun i s=>s=(bs.take i).flatten) rfl ?_ ?_) ?_)
 ·rintro i s hi rfl
  have e:=congrArg List.length (zhl hi)
  rw[List.length_append]at e
  have hl:=zmV bs (i+1)
  refine za6 hi (zap (by omega) (zae ?_))
  show _=_
  rw[zhl hi]
 ·rintro s rfl
  rw[List.take_length]
 rintro r rfl
 exact zap (by omega) (zap (by rw[List.length_append];omega) (zae rfl))
theorem zqH {gr:Group}(k:OkG gr) {bs:List (List Int)}{es:List Int}(hb:LinS gr bs) (he:es.length=(bs.headD []).length):zcE gr bs es=some (bs.map fun r=>zhq gr r es 1):=by
 unfold zcE
 have hn:=hb.n
 rw[zvJ (f:=fun r=>zhq gr r es 1) []]
 ·rfl
 intro i hi s hs
 have hr:=hb.r _ (List.getElem_mem hi)
 rw[zdO hi,Option.bind_some,zuQ k (zxX k hr.2) (by omega),Option.bind_some,zcu (by simp at hs;omega)]
theorem zfT {gr:Group}(k:OkG gr):zaD gr gr.G=true:=by
 have hg:=k.g
 simp only[zaD,Bool.and_eq_true,decide_eq_true_eq]
 exact⟨by omega,k.o⟩
theorem zwY {gr:Group}{x:Int}(h:zaD gr x=true):LinS gr [[x]]:=⟨by simp,by simp,fun r hr=>by
 rw[List.mem_singleton.1 hr]
 simp[h]⟩
def zbZ (l:List Int):List Int:=(l.length:Int)::l
def ze5 (p:Proof):List Int:=zbZ p.Commits++zbZ p.Challenges++zbZ p.Responses
theorem zlW {a l:List Int}(ha:a.length≤10000000) (hl:l.length≤10000000):zbK a l=some (a++zbZ l):=by
 unfold zbK
 rw[zcu (by omega),zcu (by simp;omega)]
 simp[zbZ]
theorem zqL {p:Proof}(h1:p.Commits.length≤1048576) (h2:p.Challenges.length≤1048576) (h3:p.Responses.length≤1048576):zd3 p=some (ze5 p):=by
 unfold zd3
 rw[zlW (by simp) (by omega),Option.bind_some,zlW (by simp[zbZ];omega) (by omega),Option.bind_some,zlW (by simp[zbZ];omega) (by omega),Option.bind_some]
 simp[ze5]
theorem znR {l:List Int}(h:l.length≤10000000):zcr l=some (zbZ l):=by
 unfold zcr
 rw[zcu (by simp;omega)];rfl
def zi1 (l:List Int):Bool:=decide ((l.length:Int)≤400)&&l.all zbq
theorem zs2 (l:List Int):zeW l=some (zi1 l):=by
 unfold zeW
 have h1:zbm l=some (l.all zbq):=zhp (f:=zaZ) fun x _=>by
  unfold zaZ
  rw[zkl];rfl
 rw[h1,Option.bind_some,zl7];rfl
theorem zmL (l:List Int):zdq l=some (if zi1 l=true then(l,true)else([],false)):=by
 unfold zdq
 rw[zs2]
 cases zi1 l<;>rfl
theorem zpe {p:Proof}(h1:p.Commits.length≤1048576) (h2:p.Challenges.length≤1048576) (h3:p.Responses.length≤1048576):zcU p=some (if zi1 (ze5 p)=true then(ze5 p,true)else([],false)):=by
 have e:[zbZ p.Commits,zbZ p.Challenges,zbZ p.Responses].flatten=ze5 p:=by simp[ze5]
 unfold zcU
 rw[znR (by omega),Option.bind_some,znR (by omega),Option.bind_some,znR (by omega),Option.bind_some,zk2 _ (by rw[e];simp[ze5,zbZ];omega),Option.bind_some,e,zmL]
 cases zi1 (ze5 p)<;>rfl
theorem zyj {β:Type}{f:Nat→Option β}{n:Nat}{b:β}(h:f n=some b) (mono:∀n b,f n=some b→f (n+1)=some b):zoF f=some b:=by
 obtain⟨b',m,h1,h2⟩:=zyC h
 have up:∀k n b,f n=some b→f (n+k)=some b:=by
  intro k
  induction k with
  |zero=>intro n b h;exact h
  |succ k ih=>intro n b h;exact mono _ _ (ih n b h)
 have a:=up m n b h
 have c:=up n m b' h2
 rw[Nat.add_comm m n,a]at c
 cases c;exact h1
def zA2 {α:Type}(f:α→Int) (L:List α) (T:Nat):List α:=(List.range T).flatMap fun i=>L.filter fun e=>f e==((i+1:Nat):Int)
theorem zn1 {gr:Group}(k:OkG gr) {a:Int}(ha:0≤a):zar gr gr.G a=((gr.G.toNat^a.toNat%gr.P.toNat:Nat):Int):=by
 have hq:=k.q
 obtain⟨n,rfl⟩:=Int.eq_ofNat_of_zero_le ha
 obtain⟨q,hQ⟩:=Int.eq_ofNat_of_zero_le (show 0≤gr.Q by omega)
 unfold zar
 have ho:=k.o
 rw[hQ]at ho⊢
 rw[Int.toNat_natCast]at ho
 rw[←Int.natCast_emod,Int.toNat_natCast,Int.toNat_natCast,zjV ho]
theorem zvS {gr:Group}(k:OkG gr) {a b:Int}(ha:0≤a) (hb:0≤b):zeB gr [zar gr gr.G a,zar gr gr.G b]=zar gr gr.G (a+b):=by
 have hp:=k.p
 obtain⟨P,hP⟩:=Int.eq_ofNat_of_zero_le (show 0≤gr.P by omega)
 have hx:=zg3 k gr.G a
 rw[zsF k (by omega) (zg3 k gr.G b).1,zn1 k ha,zn1 k hb,zn1 k (by omega),hP]
 rw[←Int.natCast_mul,←Int.natCast_emod,Int.toNat_natCast,←Nat.mul_mod,←Nat.pow_add,Int.toNat_add ha hb]
theorem zuh {gr:Group}(k:OkG gr):zar gr gr.G 0=1:=by
 have hp:=k.p
 rw[zn1 k (Int.le_refl 0)]
 show((1%gr.P.toNat:Nat):Int)=1
 rw[Nat.mod_eq_of_lt (by omega)];rfl
theorem zxY {gr:Group}(k:OkG gr) (x e:Int):zhq gr [x] [e] 1=zar gr x e:=by
 have hb:=zg3 k x e
 show 1*zar gr x e%gr.P=_
 rw[Int.one_mul,Int.emod_eq_of_lt hb.1 (by omega)]
def zie (gr:Group) (s:ByteArray) (x w:Int):Int:=chG gr s ([[gr.G]].flatten++[zar gr gr.G x]++[zar gr gr.G w])
def zib (gr:Group) (s:ByteArray) (x w:Int):Proof:=⟨[zar gr gr.G w],[zie gr s x w],[(w+zie gr s x w*x)%gr.Q]⟩
structure Gb (gr:Group):Prop where
 p:1≤gr.P∧gr.P≤2000000000
 q:1≤gr.Q∧gr.Q≤2000000000
 g:0≤gr.G∧gr.G≤2000000000
theorem OkG.gb {gr:Group}(k:OkG gr):Gb gr:=by
 have hp:=k.p
 have hq:=k.q
 have hg:=k.g
 exact⟨by omega,by omega,by omega⟩
theorem zpO {gr:Group}(k:Gb gr) (x e:Int):0≤zar gr x e∧zar gr x e≤gr.P-1:=by
 have hp:=k.p
 unfold zar
 have:=Nat.mod_lt (x.toNat^(e%gr.Q).toNat) (show 0<gr.P.toNat by omega)
 omega
theorem zyv {gr:Group}(k:Gb gr) {x:Int}(h0:0≤x) (h1:x≤2000000000) (e:Int):zaJ gr x e=some (zar gr x e):=by
 have hp:=k.p
 have hq:=k.q
 have b1:=Int.emod_nonneg e (show gr.Q≠0 by omega)
 have b2:=Int.emod_lt_of_pos e (show 0<gr.Q by omega)
 unfold zaJ
 rw[zqD (by omega) hq.2,Option.bind_some,(zjW h0 h1 hp.1 hp.2 b1 (by omega)).2];rfl
theorem zwv {gr:Group}(k:Gb gr) (w:Int):zfq gr [gr.G] [w]=some (zar gr gr.G w):=by
 have hp:=k.p
 have hg:=k.g
 have hb:=zpO k gr.G w
 unfold zfq
 refine zah (zav (ψ:=fun s=>s=zar gr gr.G w) (zbf (fun i s=>s=if i=0 then 1 else zar gr gr.G w) rfl ?_ fun s h=>h) fun s h=>zae h)
 rintro i s hi rfl
 have hi:i<1:=hi
 obtain rfl:i=0:=by omega
 refine za6 (l:=[gr.G]) (by simp) (za6 (l:=[w]) (by simp) (zad (zyv k hg.1 hg.2 _) (zap (by omega) (zae ?_))))
 show(IntKind.i64.wrap (1*zar gr gr.G w)).tmod gr.P=zar gr gr.G w
 rw[Int.one_mul,zag (by omega) (by omega),Int.tmod_eq_emod_of_nonneg hb.1,Int.emod_eq_of_lt hb.1 (by omega)]
theorem zoT {gr:Group}(k:Gb gr) (w:Int):zeo gr [[gr.G]] [w]=some [zar gr gr.G w]:=by
 unfold zeo
 rw[zvJ (l:=[[gr.G]]) (f:=fun _=>zar gr gr.G w) []]
 ·rfl
 intro i hi s hs
 have hi:i<1:=hi
 obtain rfl:i=0:=by omega
 rw[zdO (l:=[[gr.G]]) (k:=0) (by simp),Option.bind_some]
 show(zfq gr [gr.G] [w]).bind _=_
 rw[zwv k,Option.bind_some,zcu (by have:=hs;simp only[List.length_nil]at this;omega)]
theorem zw4 {gr:Group}(k:Gb gr) (x w:Int):([gr.P,gr.Q,gr.G]++([[gr.G]].flatten++[zar gr gr.G x]++[zar gr gr.G w])).all zbq=true:=by
 have hp:=k.p
 have hq:=k.q
 have hg:=k.g
 have b1:=zpO k gr.G x
 have b2:=zpO k gr.G w
 simp[zbq];omega
theorem zon {gr:Group}(k:Gb gr) (s:ByteArray) (x w:Int):0≤zie gr s x w∧zie gr s x w<gr.Q:=by
 have hq:=k.q
 exact⟨Int.emod_nonneg _ (by omega),Int.emod_lt_of_pos _ (by omega)⟩
theorem zyD {gr:Group}(k:OkG gr):zct gr [[gr.G]]=some true:=by
 have h1:zaE [[gr.G]] [[gr.G]] gr.P gr.Q gr.G=some (-1):=by
  unfold zaE
  refine zah (zav (ψ:=fun v=>v=.inl ()) (zbf (fun _ _=>True) trivial ?_ fun s _=>rfl) ?_)
  ·rintro i s hi _
   have hi:i<1:=hi
   obtain rfl:i=0:=by omega
   refine za6 (l:=[[gr.G]]) (by simp) ?_
   have e:zcx [gr.G] [[gr.G]] gr.P gr.Q gr.G=some false:=by
    unfold zcx
    have hh:zb8 ⟨gr.P,gr.Q,gr.G⟩ [gr.G]=some true:=by
     rw[show(⟨gr.P,gr.Q,gr.G⟩:Group)=gr from rfl,zq2 k]
     simp[zfT k]
    simp[ix,hh]
   exact zad e (za8 rfl (zae trivial))
  ·rintro _ rfl
   exact zae rfl
 unfold zct zaQ
 rw[zqu,show ix [[gr.G]] 0=some [gr.G]from rfl,h1]
 rfl
theorem zv7 (gr:Group) {s:ByteArray}(hs:s.size≤40) (x w:Int):zce gr s gr.G x w=some (if(okG gr&&(zgW gr x&&zgW gr w))=true then(zib gr s x w,true)else(⟨[],[],[]⟩,false)):=by
 unfold zce zb1 zc0
 rw[zmP]
 cases hg:okG gr with
 |false=>rfl
 |true=>
  have k:=zmb.1 hg
  have hq:=k.q
  have hp:=k.p
  have ha:∀y,za0 gr [y]=some (zgW gr y):=fun y=>by
   rw[zlt (gr:=gr) (by omega) (by omega)];simp
  have e:decide ((s.size:Int)≤40)=true:=decide_eq_true (by omega)
  rw[zyD k,ha,ha,e,show ix [[gr.G]] 0=some [gr.G]from rfl]
  cases h1:zgW gr x with
  |false=>rfl
  |true=>
   cases h2:zgW gr w with
   |false=>rfl
   |true=>
    simp only[zgW,Bool.and_eq_true,decide_eq_true_eq]at h1 h2
    have hb:=zwY (zfT k)
    have b1:=zg3 k gr.G x
    have b2:=zg3 k gr.G w
    have hc:zbl gr s ([[gr.G]].flatten++[zar gr gr.G x]++[zar gr gr.G w])=some (zie gr s x w,true):=by
     rw[zvv k s (by simp),if_pos (zxs k hs (by simp;omega) ?_)]
     ·rfl
     ·have:=zw4 k.gb x w
      rw[List.all_append]at this
      exact(Bool.and_eq_true_iff.1 this).2
    have he:=zon k.gb s x w
    simp only[Option.bind_some,Bool.not_true,Bool.false_eq_true,if_false,Bool.and_self,if_true,List.length_cons,List.length_nil,bne_self_eq_false]
    rw[show zib gr s x w=⟨[zar gr gr.G w],[zie gr s x w],[(w+zie gr s x w*x)%gr.Q]⟩from rfl]
    unfold zco
    rw[zqH k (es:=[w]) hb rfl,zqH k (es:=[x]) hb rfl,zk2 _ (by simp)]
    simp only[List.map_cons,List.map_nil,zxY k,Option.bind_some]
    rw[zk2 _ (by simp)]
    simp only[Option.bind_some]
    rw[show[[[gr.G]].flatten,[zar gr gr.G x],[zar gr gr.G w]].flatten=[[gr.G]].flatten++[zar gr gr.G x]++[zar gr gr.G w]from rfl,hc]
    simp only[Option.bind_some,Bool.not_true,Bool.false_eq_true,if_false]
    generalize zie gr s x w=c at he hc
    have hm:0≤c*x:=Int.mul_nonneg he.1 h1.1
    have hm2:c*x≤2000000000*2100000000:=Int.mul_le_mul (by omega) (by omega) h1.1 (by omega)
    have hl:zak (σ:=List Int×List Int×List Int) (β:=List Int×List Int×List Int) (fun i21 s20=>(ix [w] i21).bind fun x27=>(ix [x] i21).bind fun x28=>(zbj gr (IntKind.i64.wrap (x27+(IntKind.i64.wrap (c*x28))))).bind fun z29=>gd ((s20.2.2.length+1)*8≤140737488355328∧s20.2.2.length+1≤4611686018427387904)<|
     some (.go (s20.1,s20.2.1,s20.2.2++[z29]))) (fun s20=>(s20.1,s20.2.1,s20.2.2)) ([w].length) 0 ([zar gr gr.G w],[c],[])=some ([zar gr gr.G w],[c],[(w+c*x)%gr.Q]):=by
     refine zah (zbf (fun i s=>s=if i=0 then([zar gr gr.G w],[c],[])else([zar gr gr.G w],[c],[(w+c*x)%gr.Q])) rfl ?_ fun s h=>h)
     rintro i s hi rfl
     have hi:i<1:=hi
     obtain rfl:i=0:=by omega
     refine za6 (l:=[w]) (by simp) (za6 (l:=[x]) (by simp) ?_)
     show Rn ((zbj gr (IntKind.i64.wrap (w+IntKind.i64.wrap (c*x)))).bind _) _
     unfold zbj
     rw[zag (n:=c*x) (by omega) (by omega),zag (n:=w+c*x) (by omega) (by omega),zsZ (by omega) (by omega)]
     exact zap (by simp) (zae rfl)
    rw[hl]
    rfl
theorem zpR:∀{l v:List Int},l.Nodup→(∀x∈l,x∈v)→l.length≤v.length
 |[],v,_,_=>by simp
 |x::l,v,hn,hs=>by
  obtain⟨h1,h2⟩:=List.nodup_cons.1 hn
  have hx:=hs x (by simp)
  have:=zpR (l:=l) (v:=v.erase x) h2 fun y hy=>(List.mem_erase_of_ne (show y≠x from fun e=>h1 (e▸hy))).2 (hs y (List.mem_cons_of_mem _ hy))
  rw[List.length_erase_of_mem hx]at this
  have:=List.length_pos_of_mem hx
  rw[List.length_cons];omega
theorem zzj (n:Nat) (p:Nat→Bool):(((List.range n).filter p).map fun(i:Nat)=>(i:Int)).Nodup:=by
 rw[List.Nodup,List.pairwise_map]
 exact((List.nodup_range (n:=n)).filter p).imp fun h=>by omega
theorem zuc (n:Nat) (v:List Int):(zeE n v).sum≤v.length:=by
 have e:∀l:List Nat,(l.map fun(i:Nat)=>if v.contains (i:Int)=true then(1:Int)else 0).sum=((List.filter (fun(i:Nat)=>v.contains (i:Int)) l).length:Int):=by
  intro l
  induction l with
  |nil=>rfl
  |cons i l ih=>
   rw[List.map_cons,List.sum_cons,ih,List.filter_cons]
   cases v.contains (i:Int)<;>simp<;>omega
 unfold zeE
 rw[e]
 have:=zpR (v:=v) (zzj n fun i=>v.contains (i:Int)) fun x hx=>by
  obtain⟨i,hi,rfl⟩:=List.mem_map.1 hx
  simpa using(List.mem_filter.1 hi).2
 rw[List.length_map]at this
 omega
theorem zlk (n:Nat) (v:List Int):(zeE n v).all (inB 0 1)=true:=by
 unfold zeE
 rw[List.all_map,List.all_eq_true]
 intro i _
 show inB 0 1 (if _ then _ else _)=true
 split<;>rfl
def zki (ct:Contest):Int:=if ct.Kind=1 then 2 else if ct.Kind=2 then ct.Points+1 else if ct.Kind=3 then ct.Options+1 else 27
def zd6 (ct:Contest) (v:List Int):List Int:=if ct.Kind=1 then zeE ct.Options.toNat v else if ct.Kind=3 then v.map (· +1)else v
def zlq (ct:Contest) (v:List Int):Int:=num (zki ct) (zd6 ct v)
theorem zrd {ct:Contest}(k:OkC ct) {v:List Int}(hv:zfb ct v=true):zck ct v=some (zlq ct v)∧(zd6 ct v).all (inB 0 (zki ct-1))=true∧(zd6 ct v).length≤8:=by
 unfold zck zlq zki zd6
 unfold zfb at hv
 rcases k.k with⟨k1|k3,ho,hm,hp⟩|⟨k2,ho,hp,hm⟩|⟨k4,ho,hm,hp⟩
 ·simp only[k1,if_true,Bool.and_eq_true]at hv⊢
  have hl:=zc9.1 hv.2
  refine⟨?_,zlk _ _,by rw[zh1];omega⟩
  rw[if_pos (show((1:Int)==1)=true from rfl),zkb (by omega) hv.1.1,Option.bind_some,zfs (by omega) (by omega) (by rw[zh1];omega) (by simpa using ze8 (Int.le_refl 0) (by omega) (zlk _ _))]
  simp
 ·simp only[k3,show¬(3:Int)=1 by omega,show¬(3:Int)=2 by omega,if_false,if_true,Bool.and_eq_true]at hv⊢
  have hl:=zc9.1 hv.2.2
  have ha:(v.map (· +1)).all (inB 0 (ct.Options+1-1))=true:=by
   rw[List.all_map,List.all_eq_true]
   intro x hx
   have:=zc9.1 (List.all_eq_true.1 hv.1 x hx)
   exact zc9.2 (show 0≤x+1∧x+1≤ct.Options+1-1 by omega)
  refine⟨?_,ha,by simp;omega⟩
  rw[zag (n:=ct.Options+1) (by omega) (by omega)]
  simp only[show((3:Int)==1)=false from rfl,show((3:Int)==2)=false from rfl,show((3:Int)==3)=true from rfl,Bool.false_eq_true,if_false,if_true]
  rw[zfs (by omega) (by omega) (by omega) (ze8 (Int.le_refl 0) (by omega) ha)];rfl
 ·simp only[k2,show¬(2:Int)=1 by omega,show¬(2:Int)=3 by omega,if_false,if_true,Bool.and_eq_true,decide_eq_true_eq]at hv⊢
  refine⟨?_,ze8 (Int.le_refl 0) (by omega) hv.2.1,by omega⟩
  rw[zag (n:=ct.Points+1) (by omega) (by omega)]
  simp only[show((2:Int)==1)=false from rfl,show((2:Int)==2)=true from rfl,Bool.false_eq_true,if_false,if_true]
  rw[zfs (by omega) (by omega) (by omega) (by simpa using ze8 (Int.le_refl 0) (by omega) hv.2.1)]
  simp
 simp only[k4,show¬(4:Int)=1 by omega,show¬(4:Int)=2 by omega,show¬(4:Int)=3 by omega,if_false,Bool.and_eq_true]at hv⊢
 have hl:=zc9.1 hv.2
 refine⟨?_,ze8 (by omega) (by omega) hv.1,by omega⟩
 simp only[show((4:Int)==1)=false from rfl,show((4:Int)==2)=false from rfl,show((4:Int)==3)=false from rfl,Bool.false_eq_true,if_false]
 rw[zfs (by omega) (by omega) (by omega) (by simpa using ze8 (by omega) (by omega) hv.1)]
 simp
def zc6 (ct:Contest):Int:=if ct.Kind=1 then 1 else ct.Points
def zdK (ct:Contest):Bool:=ct.Kind==1||ct.Kind==2
def zko (ct:Contest):Int:=if zdK ct=true then ct.Options*(2*zc6 ct+2)+2*(ct.Most-ct.Least)+1 else 2
theorem zu2 (ct:Contest):zfX ct=some (zc6 ct):=by
 unfold zfX zc6
 by_cases h:ct.Kind=1
 ·rw[if_pos h,h];rfl
 rw[if_neg h,if_neg (by simpa using h)]
theorem zl8 {ct:Contest}(k:OkC ct) (h:zdK ct=true):(1≤ct.Options∧ct.Options≤8)∧(1≤zc6 ct∧zc6 ct≤5)∧ct.Most≤ct.Options*zc6 ct∧(0≤ct.Least∧ct.Least≤ct.Most):=by
 have lo:=k.lo
 unfold zdK at h
 unfold zc6
 rcases k.k with⟨k1|k3,ho,hm,hp⟩|⟨k2,ho,hp,hm⟩|⟨k4,ho,hm,hp⟩
 ·rw[if_pos k1];omega
 ·rw[k3]at h;cases h
 ·rw[if_neg (by omega)];omega
 rw[k4]at h;cases h
theorem zwt {ct:Contest}(k:OkC ct):zfL ct=some (zko ct)∧0≤zko ct∧zko ct≤300:=by
 unfold zfL zko
 rw[zjS,show(ct.Kind==1||ct.Kind==2)=zdK ct from rfl]
 cases h:zdK ct with
 |false=>exact⟨rfl,by simp,by simp⟩
 |true=>
  obtain⟨h1,h2,h3,h4⟩:=zl8 k h
  have e1:ct.Options*(2*zc6 ct+2)≤8*12:=Int.mul_le_mul h1.2 (by omega) (by omega) (by omega)
  have e2:0≤ct.Options*(2*zc6 ct+2):=Int.mul_nonneg (by omega) (by omega)
  have e3:ct.Options*zc6 ct≤8*5:=Int.mul_le_mul h1.2 h2.2 (by omega) (by omega)
  rw[zu2]
  simp only[Option.bind_some,Bool.not_true,Bool.false_eq_true,if_false,if_true]
  rw[zag (n:=2*zc6 ct) (by omega) (by omega),zag (n:=2*zc6 ct+2) (by omega) (by omega),zag (n:=ct.Options*(2*zc6 ct+2)) (by omega) (by omega),zag (n:=ct.Most-ct.Least) (by omega) (by omega),zag (n:=2*(ct.Most-ct.Least)) (by omega) (by omega),zag (n:=ct.Options*(2*zc6 ct+2)+2*(ct.Most-ct.Least)) (by omega) (by omega),zag (by omega) (by omega)]
  exact⟨rfl,by omega,by omega⟩
theorem zpV:∀(n:Nat) (a:Int) (b:ByteArray),zbn n a=some b→zbn (n+1) a=some b
 |0,_,_,h=>by cases h
 |n+1,a,b,h=>by
  rw[zbn]at h⊢
  by_cases c:decide (a<10)=true
  ·rw[if_pos c]at h⊢;exact h
  ·rw[if_neg c]at h⊢
   cases e:zbn n (IntKind.i64.wrap (a.tdiv 10))with
   |none=>rw[e]at h;cases h
   |some z=>
    rw[e]at h
    rw[zpV n _ _ e]
    exact h
def zoB (ct:Contest) (v:List Int):List Int:=if zdK ct=true then zd6 ct v else[zlq ct v]
theorem ztu {n:Nat}{v:List Int}(hn:v.Nodup) (hv:v.all (inB 0 ((n:Int)-1))=true):(zeE n v).sum=v.length:=by
 have h1:=zuc n v
 have e:∀l:List Nat,(l.map fun(i:Nat)=>if v.contains (i:Int)=true then(1:Int)else 0).sum=((List.filter (fun(i:Nat)=>v.contains (i:Int)) l).length:Int):=by
  intro l
  induction l with
  |nil=>rfl
  |cons i l ih=>
   rw[List.map_cons,List.sum_cons,ih,List.filter_cons]
   cases v.contains (i:Int)<;>simp<;>omega
 have h2:=zpR (v:=(List.filter (fun(i:Nat)=>v.contains (i:Int)) (List.range n)).map fun(i:Nat)=>(i:Int)) hn fun x hx=>by
  have hb:=zc9.1 (List.all_eq_true.1 hv x hx)
  refine List.mem_map.2 ⟨x.toNat,List.mem_filter.2 ⟨List.mem_range.2 (by omega),?_⟩,by omega⟩
  rw[show((x.toNat:Nat):Int)=x by omega]
  simpa using hx
 rw[List.length_map]at h2
 unfold zeE at h1⊢
 rw[e]at h1⊢
 omega
theorem zyp {ct:Contest}(k:OkC ct) {v:List Int}(hv:zfb ct v=true):zfj ct v=some (zoB ct v):=by
 have hc:=(zrd k hv).1
 unfold zfj zoB zdK
 unfold zfb at hv
 rcases k.k with⟨k1|k3,ho,hm,hp⟩|⟨k2,ho,hp,hm⟩|⟨k4,ho,hm,hp⟩
 ·simp only[k1,if_true,Bool.and_eq_true]at hv⊢
  rw[if_pos (show((1:Int)==1)=true from rfl),zkb (by omega) hv.1.1]
  show some (zeE ct.Options.toNat v)=some (zd6 ct v)
  unfold zd6
  rw[if_pos k1]
 ·rw[hc,k3];rfl
 ·simp only[k2,show¬(2:Int)=1 by omega,if_false,if_true,Bool.and_eq_true,decide_eq_true_eq]at hv
  rw[k2]
  unfold zd6
  rw[if_neg (show¬ct.Kind=1 by omega),if_neg (show¬ct.Kind=3 by omega)]
  simp only[show((2:Int)==1)=false from rfl,show((2:Int)==2)=true from rfl,Bool.false_eq_true,if_false,if_true,zyb (l:=v) (by omega)]
  rfl
 rw[hc,k4];rfl
theorem zzH {ct:Contest}(k:OkC ct) {v:List Int}(hf:zdK ct=true) (hv:zfb ct v=true):((zd6 ct v).length:Int)=ct.Options∧(zd6 ct v).all (inB 0 (zc6 ct))=true∧(ct.Least≤(zd6 ct v).sum∧(zd6 ct v).sum≤ct.Most)∧zki ct=zc6 ct+1:=by
 unfold zdK at hf
 unfold zfb at hv
 unfold zd6 zc6 zki
 rcases k.k with⟨k1|k3,ho,hm,hp⟩|⟨k2,ho,hp,hm⟩|⟨k4,ho,hm,hp⟩
 ·rw[if_pos k1]at hv
  simp only[Bool.and_eq_true]at hv
  have hl:=zc9.1 hv.2
  have hs:=ztu (n:=ct.Options.toNat) (v:=v) (of_decide_eq_true (show decide v.Nodup=true from hv.1.2.2)) (by rw[show((ct.Options.toNat:Nat):Int)-1=ct.Options-1 by omega];exact hv.1.1)
  rw[if_pos k1,if_pos k1,if_pos k1]
  exact⟨by rw[zh1];omega,zlk _ _,by omega,rfl⟩
 ·rw[k3]at hf;cases hf
 ·rw[if_neg (show¬ct.Kind=1 by omega),if_pos k2]at hv
  simp only[Bool.and_eq_true,decide_eq_true_eq]at hv
  have hl:=zc9.1 hv.2.2
  rw[if_neg (show¬ct.Kind=1 by omega),if_neg (show¬ct.Kind=3 by omega),if_neg (show¬ct.Kind=1 by omega),if_neg (show¬ct.Kind=1 by omega),if_pos k2]
  exact⟨hv.1,hv.2.1,hl,rfl⟩
 rw[k4]at hf;cases hf
theorem zvo {ct:Contest}(h:zdK ct=true∨ct.Kind≠2):zbt ct=some (if zdK ct=true then zc6 ct else 1):=by
 unfold zbt zdK zc6
 by_cases h2:ct.Kind=2
 ·rw[h2];rfl
 rw[if_neg (by simpa using h2)]
 by_cases h1:ct.Kind=1
 ·rw[h1];rfl
 have e1:(ct.Kind==1)=false:=beq_false_of_ne h1
 have e2:(ct.Kind==2)=false:=beq_false_of_ne h2
 rw[e1,e2];rfl
theorem ziy {gr:Group}{x:Int}:zgW gr x=true↔0≤x∧x<gr.Q:=by
 unfold zgW
 simp only[Bool.and_eq_true,decide_eq_true_eq]
 omega
theorem zq1 {gr:Group}(k:OkG gr) (v:Int):zbj gr v=some (v%gr.Q):=by
 have hp:=k.p
 have hq:=k.q
 unfold zbj
 rw[zsZ (by omega) (by omega)];rfl
theorem zjL {α:Type}{l:List α}{d:α}{i:Nat}(h:i<l.length):l.getD i d=l[i]:=by
 rw[List.getD_eq_getElem?_getD,List.getElem?_eq_getElem h];rfl
def R9 (x:Int):Prop:=0≤x∧x≤2000000000
theorem zd1 {gr:Group}(k:OkG gr) {x:Int}(h:zaD gr x=true):R9 x:=by
 have:=zjR h;have:=k.p;exact⟨by omega,by omega⟩
theorem zda {gr:Group}(k:OkG gr) (x e:Int):R9 (zar gr x e):=by
 have:=zg3 k x e;have:=k.p;exact⟨by omega,by omega⟩
theorem zta {x y:Int}(hx:R9 x) (hy:R9 y):∀z∈[x,y],0≤z∧z≤2000000000:=by
 intro z hz
 simp only[List.mem_cons,List.not_mem_nil,or_false]at hz
 rcases hz with rfl|rfl
 ·exact hx
 exact hy
theorem zA1 {gr:Group}(k:OkG gr) {l:List Int}(h:∀x∈l,0≤x∧x≤2000000000):R9 (zeB gr l):=by
 have:=zxW k h;have:=k.p;exact⟨by omega,by omega⟩
theorem zzR {gr:Group}(k:OkG gr) {x y:Int}(hx:R9 x) (hy:R9 y):R9 (zeB gr [x,y]):=zA1 k (zta hx hy)
theorem zpG {l:List Int}(h:∀x∈l,R9 x):l.all zbq=true:=List.all_eq_true.2 fun x hx=>zdg.2 ⟨(h x hx).1,by have:=(h x hx).2;omega⟩
theorem m2I {gr:Group}(k:OkG gr) {x y:Int}(hx:R9 x) (hy:R9 y):zbd gr [x,y]=some (zeB gr [x,y]):=zpr k (zta hx hy)
theorem m2S {gr:Group}(k:OkG gr) {x y:Int}(hx:R9 x) (hy:R9 y):zbF gr [x,y]=some (zeB gr [x,y]):=zuT k (zta hx hy)
theorem pwI {gr:Group}(k:OkG gr) {x:Int}(hx:R9 x) (e:Int):zaq gr x e=some (zar gr x e):=(znC k hx.1 hx.2 e).1
theorem pwS {gr:Group}(k:OkG gr) {x:Int}(hx:R9 x) (e:Int):zaJ gr x e=some (zar gr x e):=(znC k hx.1 hx.2 e).2
theorem r_G {gr:Group}(k:OkG gr):R9 gr.G:=zd1 k (zfT k)
theorem zzD {gr:Group}(k:OkG gr) {n:Nat}(h0:n<gr.P.toNat) (h:n^gr.Q.toNat%gr.P.toNat=1):zaD gr (n:Int)=true:=by
 have hp:=k.p
 have hq:=k.q
 have h1:1≤n:=by
  rcases Nat.eq_zero_or_pos n with h2|h2
  ·rw[h2,Nat.zero_pow (by omega),Nat.zero_mod]at h;omega
  ·exact h2
 simp only[zaD,Bool.and_eq_true,decide_eq_true_eq]
 exact⟨⟨by omega,by omega⟩,by rw[Int.toNat_natCast];exact h⟩
theorem zq6 {gr:Group}(k:OkG gr) {x:Int}(hx:zaD gr x=true) (e:Int):zaD gr (zar gr x e)=true:=by
 have hp:=k.p
 refine zzD k (Nat.mod_lt _ (by omega)) ?_
 rw[←Nat.pow_mod,←Nat.pow_mul,Nat.mul_comm,Nat.pow_mul,Nat.pow_mod,(zl5 hx).2.2,Nat.one_pow,Nat.mod_eq_of_lt (by omega)]
def E9 (q x:Int):Prop:=0≤x∧x<q
theorem zy9 {q a z t:Int}(hq:q≤2000000000) (ha:E9 q a) (hz:E9 q z) (ht:E9 q t):IntKind.i64.wrap (a+IntKind.i64.wrap (z*t))=a+z*t∧(IntKind.i64.wrap (a+IntKind.i64.wrap (z*t))).tmod q=(a+z*t)%q:=by
 obtain⟨a1,a2⟩:=ha
 obtain⟨z1,z2⟩:=hz
 obtain⟨t1,t2⟩:=ht
 have h1:0≤z*t:=Int.mul_nonneg z1 t1
 have h2:z*t≤2000000000*2000000000:=Int.mul_le_mul (by omega) (by omega) t1 (by omega)
 rw[zag (n:=z*t) (by omega) (by omega),zag (n:=a+z*t) (by omega) (by omega)]
 exact⟨rfl,Int.tmod_eq_emod_of_nonneg (by omega)⟩
theorem zj8 {q:Int}(hq:0<q) (x:Int):E9 q (x%q):=⟨Int.emod_nonneg _ (by omega),Int.emod_lt_of_pos _ hq⟩
theorem zvB {α:Type}{l:List α}{P:α→Prop}(h:∀x∈l,P x) {i:Nat}(hi:i<l.length):P l[i]:=h _ (List.getElem_mem hi)
def smN (q:Int) (l:List Int):Nat→Int
 |0=>0
 |i+1=>(smN q l i+l.getD i 0)%q
theorem zn7 {q:Int}(hq:0<q) (l:List Int):∀i,E9 q (smN q l i)
 |0=>⟨by show(0:Int)≤0;omega,hq⟩
 |i+1=>zj8 hq _
theorem zzu {q:Int}(hq:0<q∧q≤2000000000) {l:List Int}(hl:∀x∈l,E9 q x):zhs l q=some (smN q l l.length)∧zmo l q=some (smN q l l.length):=by
 refine⟨?_,?_⟩
 ·unfold zhs
  refine zah (zav (ψ:=(· =smN q l l.length)) (zbf (fun i s=>s=smN q l i) rfl ?_ fun s h=>h) fun x hx=>zae hx)
  rintro i s hi rfl
  have ha:=zn7 hq.1 l i
  have h1:=zvB hl hi
  refine za6 hi (zap (by omega) (zae ?_))
  show _=(smN q l i+l.getD i 0)%q
  rw[zjL hi,zag (by have:=ha.1;have:=h1.1;omega) (by have:=ha.2;have:=h1.2;omega),Int.tmod_eq_emod_of_nonneg (by have:=ha.1;have:=h1.1;omega)]
 unfold zmo
 refine zah (zav (ψ:=(· =smN q l l.length)) (zbf (fun i s=>s=smN q l i) rfl ?_ fun s h=>h) fun x hx=>zae hx)
 rintro i s hi rfl
 have ha:=zn7 hq.1 l i
 have h1:=zvB hl hi
 refine za6 hi (zap (by omega) (zae ?_))
 show _=(smN q l i+l.getD i 0)%q
 rw[zjL hi,zag (by have:=ha.1;have:=h1.1;omega) (by have:=ha.2;have:=h1.2;omega),Int.tmod_eq_emod_of_nonneg (by have:=ha.1;have:=h1.1;omega)]
def smL (f:Nat→Int):Nat→Int
 |0=>0
 |n+1=>smL f n+f n
theorem zhZ {P:Int→Prop}{l:List Int}(h:∀x∈l,P x) {i:Nat}(hi:i<l.length):P (l.getD i 0):=by
 rw[zjL hi];exact h _ (List.getElem_mem hi)
theorem zf4 {l:List Int}{i:Nat}(hi:i<l.length):ix l (i:Int)=some (l.getD i 0):=by rw[zdO hi,zjL hi]
theorem zhR {σ γ:Type}{body:Int→σ→Option (Stp σ γ)}{stop:σ→γ}{n:Nat}{s0:σ}(S:Nat→σ) (h0:s0=S 0) (hs:∀i,i<n→Rn (body (i:Int) (S i)) (· =.go (S (i+1)))):zak body stop n 0 s0=some (stop (S n)):=by
 refine zah (zbf (fun i y=>y=S i) h0 ?_ ?_)
 ·rintro i y hi rfl
  obtain⟨v,h1,rfl⟩:=hs i hi
  exact⟨_,h1,rfl⟩
 rintro y rfl;rfl
def pg (gr:Group) (a:Int):Int:=zar gr gr.G a
section
variable {gr:Group}
theorem zqJ {a b:Int}(h:a%gr.Q=b%gr.Q):pg gr a=pg gr b:=by unfold pg zar;rw[h]
theorem zIl {x a b:Int}(h:a%gr.Q=b%gr.Q):zar gr x a=zar gr x b:=by unfold zar;rw[h]
theorem ztn (a:Int):pg gr (a%gr.Q)=pg gr a:=zqJ (Int.emod_emod _ _)
theorem zj6 (k:OkG gr) (a b:Int):zeB gr [pg gr a,pg gr b]=pg gr (a+b):=by
 have hq:=k.q
 rw[←ztn a,←ztn b]
 unfold pg
 rw[zvS k (Int.emod_nonneg _ (by omega)) (Int.emod_nonneg _ (by omega))]
 exact zqJ (Int.add_emod a b gr.Q).symm
theorem zuF (k:OkG gr) (a e:Int):zar gr (pg gr a) e=pg gr (a*e):=by
 have hq:=k.q
 rw[←ztn a,zIl (b:=e%gr.Q) (Int.emod_emod _ _).symm]
 unfold pg
 rw[zwL k (zfT k) (Int.emod_nonneg _ (by omega)) (Int.emod_nonneg _ (by omega))]
 exact zqJ (Int.mul_emod a e gr.Q).symm
theorem zzN (k:OkG gr):pg gr 0=1:=zuh k
theorem zj5 (k:OkG gr) (a:Int):zaD gr (pg gr a)=true:=zq6 k (zfT k) a
open Classical in
def dl (gr:Group) (x:Int):Int:=if h:∃a,x=pg gr a then Classical.choose h else 0
theorem zzE (k:OkG gr) {x:Int}(h:zaD gr x=true):x=pg gr (dl gr x):=by
 have hg:=k.g
 have hq:=k.q
 have he:∃a,x=pg gr a:=by
  obtain⟨s,hs⟩:=zAl k (zfT k) (show gr.G≠1 by omega) h
  have hx:=(zl5 h).1
  refine⟨s,?_⟩
  unfold pg zar
  obtain⟨n,hn⟩:=Int.eq_ofNat_of_zero_le (show 0≤gr.Q by omega)
  have h3:=(zl5 (zfT k)).2.2
  rw[hn]at h3⊢
  rw[Int.toNat_natCast]at h3
  rw[←Int.natCast_emod,Int.toNat_natCast,zjV h3,hs];omega
 unfold dl
 rw[dif_pos he]
 exact Classical.choose_spec he
end
theorem apL {P:Int→Prop}{l m:List Int}(h1:∀x∈l,P x) (h2:∀x∈m,P x):∀x∈l++m,P x:=fun x hx=>(List.mem_append.1 hx).elim (h1 x) (h2 x)
theorem wrL {gr:Group}(k:OkG gr) {z:Int}(hz:E9 gr.Q z):IntKind.i64.wrap (0-z)=0-z:=by
 have h1:=hz.1
 have h2:=hz.2
 have hq:=k.q
 have hp:=k.p
 exact zag (by omega) (by omega)
theorem exL {gr:Group}{l:List Int}(h:∀z∈l,E9 gr.Q z):l.all (zgW gr)=true:=List.all_eq_true.2 fun z hz=>ziy.2 (h z hz)
theorem chL {gr:Group}(k:OkG gr) {s:ByteArray}{L:List Int}(hs:s.size≤40) (hl:L.length≤300) (hd:L.all zbq=true):zbl gr s L=some (chG gr s L,true)∧zbM gr s L=some (chG gr s L):=by
 refine⟨?_,zp2 k (by omega) (by omega) hd⟩
 rw[zvv k _ (by omega),if_pos (zxs k hs (by omega) hd)]
theorem wNL {m:Nat}(h:m≤1000000) {z:Int}(e:z=(m:Int)):IntKind.i64.wrap z=(m:Int):=by rw[e];exact zag (by omega) (by omega)
def zoI (a:Int):ByteArray:=⟨(Lib.itoa a).toArray⟩
theorem zx4 (u:Nat):Lib.itoa (u:Int)=Lib.decDigits u:=by unfold Lib.itoa;rw[if_neg (by omega)];simp
theorem zqN {d:Nat}(h:d<10):zdW [IntKind.u8.wrap (IntKind.i64.wrap (48+(d:Int)))]=⟨#[UInt8.ofNat (48+d)]⟩:=by
 rw[zag (n:=48+(d:Int)) (by omega) (by omega)]
 have e:IntKind.u8.wrap (48+(d:Int))=((48+d:Nat):Int):=by
  unfold IntKind.wrap
  simp[IntKind.bits,IntKind.signed];omega
 rw[e]
 unfold zdW
 simp only[List.map_cons,List.map_nil,Int.toNat_natCast]
theorem zw9:∀(n:Nat) {u:Nat},n≤17→u<10^(n+1)→zbn (n+1) (u:Int)=some ⟨(Lib.decDigits u).toArray⟩∧(Lib.decDigits u).length≤n+1
 |0,u,_,h=>by
  have h:u<10:=by simpa using h
  rw[zbn,if_pos (by simp;omega),Lib.decDigits,dif_pos h,zqN h]
  exact⟨rfl,by simp⟩
 |n+1,u,hn,h=>by
  by_cases h10:u<10
  ·rw[zbn,if_pos (by simp;omega),Lib.decDigits,dif_pos h10,zqN h10]
   exact⟨rfl,by simp⟩
  ·have hp:10^(n+1+1)=10^(n+1)*10:=Nat.pow_succ ..
   have hp2:(10:Nat)^(n+1+1)≤10^18*10:=by
    have:(10:Nat)^(n+1)≤10^18:=Nat.pow_le_pow_right (by omega) (by omega)
    omega
   obtain⟨i1,i2⟩:=zw9 n (u:=u/10) (by omega) (by omega)
   have e1:IntKind.i64.wrap ((u:Int).tdiv 10)=((u/10:Nat):Int):=by
    rw[Int.tdiv_eq_ediv_of_nonneg (by omega)]
    by_cases hb:u<9223372036854775807
    ·rw[zag (by omega) (by omega)];rfl
    ·rw[zag (n:=(u:Int)/10) (by omega) (by omega)];rfl
   have e2:(u:Int).tmod 10=((u%10:Nat):Int):=by rw[Int.tmod_eq_emod_of_nonneg (by omega)];rfl
   have e3:Lib.decDigits u=Lib.decDigits (u/10)++[UInt8.ofNat (48+u%10)]:=by rw[Lib.decDigits,dif_neg h10]
   rw[zbn,if_neg (by simp;omega),e1,i1,e2,zqN (Nat.mod_lt _ (by omega)),e3]
   have hs:(⟨(Lib.decDigits (u/10)).toArray⟩:ByteArray).size=(Lib.decDigits (u/10)).length:=by simp[ByteArray.size]
   have hs1:(⟨#[UInt8.ofNat (48+u%10)]⟩:ByteArray).size=1:=rfl
   refine⟨?_,by simp;omega⟩
   rw[Option.bind_some,zcu (by rw[hs,hs1];omega)]
   congr 1
def labP:ByteArray:=⟨#[98,97,108,108,111,116,32]⟩
def zfC (a:Int):ByteArray:=labP++zoI a
theorem zsP {a:Int}(h0:0≤a) (h1:a≤999999):ziK a=some (zoI a)∧(zoI a).size≤6:=by
 obtain⟨u,rfl⟩:=Int.eq_ofNat_of_zero_le h0
 obtain⟨e,hs⟩:=zw9 5 (u:=u) (by omega) (by omega)
 have hd:zoI (u:Int)=⟨(Lib.decDigits u).toArray⟩:=by unfold zoI;rw[zx4]
 rw[hd]
 exact⟨zyj (f:=fun n_=>zbn n_ (u:Int)) e fun n b=>zpV n _ b,by simp[ByteArray.size];omega⟩
theorem zzB {a:Int}(h0:0≤a) (h1:a≤999999):(zfC a).size≤13:=by
 have:=(zsP h0 h1).2
 have h7:labP.size=7:=rfl
 unfold zfC
 rw[ByteArray.size_append,h7];omega
theorem zva {a:Int}(h0:0≤a) (h1:a≤999999):zdR a=some (zfC a):=by
 have hs:=(zsP h0 h1).2
 have e:zff a=some (zoI a):=by unfold zff;rw[zcu (by omega)];rfl
 have h7:(⟨#[98,97,108,108,111,116,32]⟩:ByteArray).size=7:=rfl
 unfold zdR
 rw[e,Option.bind_some,zcu (by rw[h7];omega)];rfl
theorem zuf {a:Int}(h0:0≤a) (h1:a≤999999):zfJ a=some (zfC a):=by
 obtain⟨e,hs⟩:=zsP h0 h1
 have h7:(⟨#[98,97,108,108,111,116,32]⟩:ByteArray).size=7:=rfl
 unfold zfJ
 rw[e,Option.bind_some,zcu (by rw[h7];omega)];rfl
section
variable {gr:Group}
theorem zCR (k:Gb gr) {s:ByteArray}(hs:s.size≤1000) {x w:Int}(hx:0≤x∧x≤2100000000) (hw:0≤w∧w≤2100000000):zfO gr s [[gr.G]] [x] [w]=some (zib gr s x w):=by
 have hq:=k.q
 have he:=zon k s x w
 have hc:zbM gr s ([[gr.G]].flatten++[zar gr gr.G x]++[zar gr gr.G w])=some (zie gr s x w):=by
  unfold zbM
  rw[zcu (by simp),zjr (by omega) (by simp) (zw4 k x w),Option.bind_some,zcu (by omega),Int.tmod_eq_emod_of_nonneg (zdg.1 (zkc s _)).1];rfl
 unfold zfO
 rw[show zib gr s x w=⟨[zar gr gr.G w],[zie gr s x w],[(w+zie gr s x w*x)%gr.Q]⟩from rfl]
 rw[zoT k,zoT k,Option.bind_some,Option.bind_some,zzp (by simp) (by simp) (by simp),Option.bind_some,hc,Option.bind_some]
 generalize zie gr s x w=c at he hc
 have hm:0≤c*x:=Int.mul_nonneg he.1 hx.1
 have hm2:c*x≤2000000000*2100000000:=Int.mul_le_mul (by omega) hx.2 hx.1 (by omega)
 have hl:zak (σ:=List Int×List Int×List Int) (β:=List Int×List Int×List Int) (fun i18 s17=>(ix [x] i18).bind fun x24=>(ix [w] i18).bind fun x25=>gd (gr.Q≠0)<|gd ((s17.2.2.length+1)*8≤140737488355328∧s17.2.2.length+1≤4611686018427387904)<|
  some (.go (s17.1,s17.2.1,s17.2.2++[(IntKind.i64.wrap (x25+(IntKind.i64.wrap (c*x24)))).tmod gr.Q]))) (fun s17=>(s17.1,s17.2.1,s17.2.2)) ([x].length) 0 ([zar gr gr.G w],[c],[])=some ([zar gr gr.G w],[c],[(w+c*x)%gr.Q]):=by
  refine zah (zbf (fun i s=>s=if i=0 then([zar gr gr.G w],[c],[])else([zar gr gr.G w],[c],[(w+c*x)%gr.Q])) rfl ?_ fun s h=>h)
  rintro i s hi rfl
  have hi:i<1:=hi
  obtain rfl:i=0:=by omega
  refine za6 (l:=[x]) (by simp) (za6 (l:=[w]) (by simp) (zap (by omega) (zap (by simp) (zae ?_))))
  show(_,_,[(IntKind.i64.wrap (w+IntKind.i64.wrap (c*x))).tmod gr.Q])=_
  rw[zag (n:=c*x) (by omega) (by omega),zag (by omega) (by omega),Int.tmod_eq_emod_of_nonneg (by omega)];rfl
 rw[hl,Option.bind_some]
def stV (gr:Group) (key:Int) (c:Cipher) (lo:Int) (n:Nat):List EqualLog:=(List.range n).map fun(i:Nat)=>⟨gr.G,c.A,key,zeB gr [c.B,zar gr gr.G (0-(lo+(i:Int)))]⟩
theorem zlH (gr:Group) (key:Int) (c:Cipher) (lo:Int) (n:Nat):(stV gr key c lo n).length=n:=by simp[stV]
theorem zsj (k:OkG gr) {key:Int}{c:Cipher}(hc:zoc gr c=true) {lo:Int}(h0:0≤lo∧lo≤1000) {n:Nat}(hn:n≤1000) {PW:Int→Option Int}{ML:List Int→Option Int}(hP:∀e,PW e=some (zar gr gr.G e)) (hM:∀x y,R9 x→R9 y→ML [x,y]=some (zeB gr [x,y])):zaN (σ:=(List EqualLog)×Int) (fun s4=>
 if decide (s4.2≤lo+(n:Int)-1)=true then(
 (PW (IntKind.i64.wrap (0-s4.2))).bind fun z10=>
 (ML [c.B,z10]).bind fun z11=>
 gd ((s4.1.length+1)*32≤140737488355328∧s4.1.length+1≤4611686018427387904)<|
 some (.go (s4.1++[(EqualLog.mk gr.G c.A key z11)],IntKind.i64.wrap (s4.2+1))))else(
 some (.out s4.1))) ([],lo)=some (stV gr key c lo n):=by
 have hb:R9 c.B:=by
  simp only[zoc,Bool.and_eq_true]at hc
  exact zd1 k hc.2
 refine zah (ze6 n (fun i s=>s=(stV gr key c lo i,lo+(i:Int))∧i≤n) ⟨by simp[stV],by omega⟩ ?_ ?_)
 ·rintro i s hi ⟨rfl,_⟩
  refine zgT (by simp;omega) ?_
  dsimp only
  rw[zag (n:=0-(lo+(i:Int))) (by omega) (by omega),hP,Option.bind_some,hM _ _ hb (zda k _ _),Option.bind_some]
  refine zap (by rw[zlH];omega) (zae ⟨?_,by omega⟩)
  rw[zag (n:=lo+(i:Int)+1) (by omega) (by omega)]
  refine Prod.ext ?_ (by show lo+(i:Int)+1=lo+((i+1:Nat):Int);omega)
  show stV gr key c lo i++_=stV gr key c lo (i+1)
  simp[stV,List.range_succ]
 rintro s ⟨rfl,_⟩
 exact za8 (by simp;omega) (zae rfl)
theorem zxd (k:OkG gr) {key:Int}{c:Cipher}(hc:zoc gr c=true) {lo hi:Int}(h0:0≤lo∧lo≤1000) {n:Nat}(hn:n≤1000) (hh:hi=lo+(n:Int)-1):zbz gr key c lo hi=some (stV gr key c lo n):=by
 subst hh
 unfold zbz
 rw[zsj k hc h0 hn (fun e=>pwI k (r_G k) e) (fun x y hx hy=>m2I k hx hy)];rfl
theorem zxc (k:OkG gr) {key:Int}{c:Cipher}(hc:zoc gr c=true) {lo hi:Int}(h0:0≤lo∧lo≤1000) {n:Nat}(hn:n≤1000) (hh:hi=lo+(n:Int)-1):zcn gr key c lo hi=some (stV gr key c lo n):=by
 subst hh
 unfold zcn
 rw[zsj k hc h0 hn (fun e=>pwS k (r_G k) e) (fun x y hx hy=>m2S k hx hy)];rfl
end
def q0:EqualLog:=⟨0,0,0,0⟩
def siV (gr:Group) (g y c z:Int):Int:=zeB gr [zar gr g z,zar gr y (0-c)]
def ooN (gr:Group) (l:List EqualLog) (m:Nat) (w:Int) (coins:List Int):Nat→List Int×List Int×List Int×Nat
 |0=>([],[],[],0)
 |i+1=>
  let s:=ooN gr l m w coins i
  let e:=l.getD i q0
  if i=m then(s.1++[zar gr e.G1 w,zar gr e.G2 w],s.2.1++[0],s.2.2.1++[0],s.2.2.2)
  else(s.1++[siV gr e.G1 e.Y1 (coins.getD s.2.2.2 0) (coins.getD (s.2.2.2+1) 0),siV gr e.G2 e.Y2 (coins.getD s.2.2.2 0) (coins.getD (s.2.2.2+1) 0)],s.2.1++[coins.getD s.2.2.2 0],s.2.2.1++[coins.getD (s.2.2.2+1) 0],s.2.2.2+2)
def flE (l:List EqualLog):List Int:=l.flatMap fun e=>[e.G1,e.Y1,e.G2,e.Y2]
def ooE (gr:Group) (s:ByteArray) (l:List EqualLog) (S:List Int×List Int×List Int×Nat):Int:=chG gr s (flE l++S.1)
def ooC (gr:Group) (s:ByteArray) (l:List EqualLog) (S:List Int×List Int×List Int×Nat):Int:=(ooE gr s l S-smN gr.Q S.2.1 l.length)%gr.Q
def ooV (gr:Group) (s:ByteArray) (l:List EqualLog) (m:Nat) (x:Int) (coins:List Int):Proof:=
 let w:=coins.getD (coins.length-1) 0
 let S:=ooN gr l m w coins l.length
 ⟨S.1,S.2.1.set m (ooC gr s l S),S.2.2.1.set m ((w+ooC gr s l S*x)%gr.Q)⟩
structure OoOk (gr:Group) (s:ByteArray) (l:List EqualLog) (m:Nat) (x:Int) (coins:List Int):Prop where
 hs:s.size≤40
 hn:1≤l.length∧l.length≤8
 hl:∀e∈l,zaD gr e.G1=true∧zaD gr e.Y1=true∧zaD gr e.G2=true∧zaD gr e.Y2=true
 hm:m<l.length
 hx:E9 gr.Q x
 cl:coins.length=2*l.length-1
 hc:∀z∈coins,E9 gr.Q z
 ht:zar gr (l.getD m q0).G1 x=(l.getD m q0).Y1∧zar gr (l.getD m q0).G2 x=(l.getD m q0).Y2
section
variable {gr:Group}{s:ByteArray}{l:List EqualLog}{m:Nat}{x w:Int}{coins:List Int}
theorem zpD {i:Nat}(hi:i<l.length):l.getD i q0=l[i]:=by simp[List.getD,hi]
theorem zna (gr:Group) (l:List EqualLog) (m:Nat) (w:Int) (coins:List Int):∀i,(ooN gr l m w coins i).2.2.2=if i≤m then 2*i else 2*(i-1)
 |0=>by simp[ooN]
 |i+1=>by
  have h:=zna gr l m w coins i
  rw[ooN]
  by_cases e:i=m
  ·subst e
   rw[if_pos rfl,if_neg (by omega)]
   show(ooN gr l i w coins i).2.2.2=_
   rw[h,if_pos (Nat.le_refl _)];omega
  ·rw[if_neg e]
   show(ooN gr l m w coins i).2.2.2+2=_
   rw[h]
   by_cases hl:i≤m
   ·rw[if_pos hl,if_pos (by omega)];omega
   ·rw[if_neg hl,if_neg (by omega)];omega
theorem zjP (gr:Group) (l:List EqualLog) (m:Nat) (w:Int) (coins:List Int):∀i,(ooN gr l m w coins i).1.length=2*i∧(ooN gr l m w coins i).2.1.length=i∧(ooN gr l m w coins i).2.2.1.length=i
 |0=>⟨rfl,rfl,rfl⟩
 |i+1=>by
  obtain⟨h1,h2,h3⟩:=zjP gr l m w coins i
  rw[ooN]
  by_cases e:i=m
  ·rw[if_pos e];simp[h1,h2,h3];omega
  ·rw[if_neg e];simp[h1,h2,h3];omega
theorem zCZ (k:OkG gr) (g y c z:Int):R9 (siV gr g y c z):=zzR k (zda k _ _) (zda k _ _)
theorem zpp (k:OkG gr) (O:OoOk gr s l m x coins) (w:Int):∀i,i≤l.length→(∀z∈(ooN gr l m w coins i).1,R9 z)∧∀z∈(ooN gr l m w coins i).2.1,E9 gr.Q z
 |0,_=>⟨by intro z hz;simp[ooN]at hz,by intro z hz;simp[ooN]at hz⟩
 |i+1,hi=>by
  obtain⟨h1,h2⟩:=zpp k O w i (by omega)
  have hq:=k.q
  have hnx:=zna gr l m w coins i
  have hc:i≠m→(ooN gr l m w coins i).2.2.2+1<coins.length:=fun e=>by
   have:=O.cl;have:=O.hm
   rw[hnx];split<;>omega
  rw[ooN]
  by_cases e:i=m
  ·rw[if_pos e]
   refine⟨apL h1 fun z hz=>?_,apL h2 fun z hz=>?_⟩
   ·simp only[List.mem_cons,List.not_mem_nil,or_false]at hz
    rcases hz with rfl|rfl<;>exact zda k _ _
   ·rw[List.mem_singleton]at hz;subst hz;exact⟨Int.le_refl 0,by omega⟩
  ·rw[if_neg e]
   refine⟨apL h1 fun z hz=>?_,apL h2 fun z hz=>?_⟩
   ·simp only[List.mem_cons,List.not_mem_nil,or_false]at hz
    rcases hz with rfl|rfl<;>exact zCZ k _ _ _ _
   ·rw[List.mem_singleton]at hz;subst hz;exact zhZ O.hc (by have:=hc e;omega)
theorem zpH (l:List EqualLog):(flE l).length=4*l.length:=by
 induction l with
 |nil=>rfl
 |cons e l ih=>show([e.G1,e.Y1,e.G2,e.Y2]++flE l).length=_;simp[ih];omega
theorem zsD {l:List EqualLog}(hl:l.length≤1000):zak (σ:=(List Int)) (fun i5 s4=>
 (ix l i5).bind fun x11=>
 gd ((s4.length+4)*8≤140737488355328∧s4.length+4≤4611686018427387904)<|
 some (.go (s4++[x11.G1,x11.Y1,x11.G2,x11.Y2]))) (fun s4=>s4) (l.length) 0 []=some (flE l):=by
 refine zah (zbf (fun i s=>s=flE (l.take i)∧i≤l.length) ⟨rfl,by omega⟩ ?_ fun s h=>by rw[h.1,List.take_length])
 rintro i s hi ⟨rfl,_⟩
 have hn:(flE (l.take i)).length=4*i:=by rw[zpH,List.length_take];omega
 refine za6 hi (zap (by omega) (zae ⟨?_,by omega⟩))
 rw[List.take_succ_eq_append_getElem hi]
 show flE (l.take i)++_=flE (l.take i++[l[i]])
 unfold flE
 rw[List.flatMap_append];rfl
theorem zui (k:OkG gr) (O:OoOk gr s l m x coins) {S:List Int}(hS:∀z∈S,R9 z):(flE l++S).all zbq=true:=by
 rw[List.all_append,zpG hS,Bool.and_true]
 refine zpG fun z hz=>?_
 obtain⟨e,he,hz⟩:=List.mem_flatMap.1 hz
 obtain⟨h1,h2,h3,h4⟩:=O.hl e he
 simp only[List.mem_cons,List.not_mem_nil,or_false]at hz
 rcases hz with rfl|rfl|rfl|rfl
 ·exact zd1 k h1
 ·exact zd1 k h2
 ·exact zd1 k h3
 exact zd1 k h4
theorem zy1 (k:OkG gr) {e:EqualLog}{c z:Int}(he:zaD gr e.G1=true∧zaD gr e.Y1=true∧zaD gr e.G2=true∧zaD gr e.Y2=true) (hc:E9 gr.Q c):zb5 gr e c z=some (siV gr e.G1 e.Y1 c z,siV gr e.G2 e.Y2 c z):=by
 unfold zb5
 rw[wrL k hc]
 exact zah (zad (pwI k (zd1 k he.1) _) (zad (pwI k (zd1 k he.2.1) _) (zad (m2I k (zda k _ _) (zda k _ _)) (zad (pwI k (zd1 k he.2.2.1) _) (zad (pwI k (zd1 k he.2.2.2) _) (zad (m2I k (zda k _ _) (zda k _ _)) (zae rfl)))))))
theorem zw3 (k:OkG gr) (O:OoOk gr s l m x coins):zcy gr s l (m:Int) x coins=some (ooV gr s l m x coins,true):=by
 have hq:=k.q
 have hp:=k.p
 have hn:=O.hn
 have hm:=O.hm
 have hcl:=O.cl
 have w1:IntKind.i64.wrap ((l.length:Int)-1)=(l.length:Int)-1:=zag (by omega) (by omega)
 have w2:IntKind.i64.wrap (IntKind.i64.wrap (2*(l.length:Int))-1)=((2*l.length-1:Nat):Int):=by
  rw[zag (n:=2*(l.length:Int)) (by omega) (by omega),zag (by omega) (by omega)];omega
 have w3:IntKind.i64.wrap ((coins.length:Int)-1)=((coins.length-1:Nat):Int):=by rw[zag (by omega) (by omega)];omega
 have hst:zbY gr l=some true:=by
  unfold zbY
  have hcf:zam l gr.P gr.Q gr.G=some (l.any fun _=>false):=zyY (f:=fun e=>zbH e gr.P gr.Q gr.G) fun e he=>by
   obtain⟨h1,h2,h3,h4⟩:=O.hl e he
   have hh:zcg gr e=some true:=by
    unfold zcg
    rw[zq2 k]
    simp[h1,h2,h3,h4]
   unfold zbH
   show(zcg gr e).bind _=_
   rw[hh];rfl
  rw[zdc,hcf]
  have:(decide ((1:Int)≤(l.length:Int))&&decide ((l.length:Int)≤8))=true:=by simp;omega
  rw[this]
  simp
 have hti:zdy gr (l.getD m q0) x=some true:=by
  have hg:=zpD hm
  obtain⟨h1,h2,h3,h4⟩:=O.hl _ (List.getElem_mem hm)
  rw[←hg]at h1 h3
  unfold zdy
  rw[pwI k (zd1 k h1),Option.bind_some,O.ht.1,beq_self_eq_true,if_pos rfl,pwI k (zd1 k h3),O.ht.2]
  simp
 have hc9:[x].all (zgW gr)=true:=by simp[ziy.2 O.hx]
 have hw:=O.hc
 unfold zcy
 have hlb:zc0 s=some true:=by unfold zc0;rw[decide_eq_true (by have:=O.hs;omega)]
 have hwi:zax (m:Int) 0 ((l.length:Int)-1)=some true:=by rw[zdc];congr 1;simp;omega
 rw[zmP,zmb.2 k,hlb,hst,w1,hwi,zsr (by omega) (by omega),ziy.2 O.hx,w2,zlt (by omega) (by omega),exL O.hc,w3]
 have hS:=zhR (σ:=List Int×List Int×List Int×Int) (γ:=List Int×List Int×List Int) (n:=l.length) (stop:=fun s41=>(s41.1,s41.2.1,s41.2.2.1)) (s0:=([],[],[],0)) (body:=fun i42 s41=>
  (ix l i42).bind fun x48=>
  ((if(i42==(m:Int))=true then(
  (zaq gr x48.G1 (coins.getD (coins.length-1) 0)).bind fun z53=>
  (zaq gr x48.G2 (coins.getD (coins.length-1) 0)).bind fun z54=>
  some (s41.2.2.2,0,0,z53,z54))else(
  (ix coins s41.2.2.2).bind fun x55=>
  (ix coins (IntKind.i64.wrap (s41.2.2.2+1))).bind fun x56=>
  (zb5 gr x48 x55 x56).bind fun z57=>
  some (IntKind.i64.wrap (s41.2.2.2+2),x55,x56,z57.1,z57.2)):Option ((Int×Int×Int×Int×Int))).bind fun x51=>
  gd ((s41.1.length+2)*8≤140737488355328∧s41.1.length+2≤4611686018427387904)<|
  gd ((s41.2.1.length+1)*8≤140737488355328∧s41.2.1.length+1≤4611686018427387904)<|
  gd ((s41.2.2.1.length+1)*8≤140737488355328∧s41.2.2.1.length+1≤4611686018427387904)<|
  some (.go (s41.1++[x51.2.2.2.1,x51.2.2.2.2],s41.2.1++[x51.2.1],s41.2.2.1++[x51.2.2.1],x51.1))))
  (fun i=>let S:=ooN gr l m (coins.getD (coins.length-1) 0) coins i;(S.1,S.2.1,S.2.2.1,(S.2.2.2:Int))) rfl fun i hi=>by
    have hnx:=zna gr l m (coins.getD (coins.length-1) 0) coins i
    obtain⟨l1,l2,l3⟩:=zjP gr l m (coins.getD (coins.length-1) 0) coins i
    have hO:=O.hl _ (List.getElem_mem hi)
    have hg:=zpD hi
    refine za6 hi ?_
    dsimp only
    rw[ooN]
    by_cases e:i=m
    ·rw[if_pos e]
     refine zav (ψ:=(· =(((ooN gr l m (coins.getD (coins.length-1) 0) coins i).2.2.2:Int),0,0,zar gr l[i].G1 (coins.getD (coins.length-1) 0),zar gr l[i].G2 (coins.getD (coins.length-1) 0)))) (zgT (by simp[e]) (zad (pwI k (zd1 k hO.1) _) (zad (pwI k (zd1 k hO.2.2.1) _) (zae rfl)))) ?_
     rintro _ rfl
     refine zap (by omega) (zap (by omega) (zap (by omega) (zae ?_)))
     rw[hg]
    ·rw[if_neg e]
     have hc:(ooN gr l m (coins.getD (coins.length-1) 0) coins i).2.2.2+1<coins.length:=by rw[hnx];split<;>omega
     generalize hS0:ooN gr l m (coins.getD (coins.length-1) 0) coins i=S at l1 l2 l3 hc⊢
     have w5:IntKind.i64.wrap ((S.2.2.2:Int)+1)=((S.2.2.2+1:Nat):Int):=wNL (by omega) (by omega)
     have w6:IntKind.i64.wrap ((S.2.2.2:Int)+2)=((S.2.2.2+2:Nat):Int):=wNL (by omega) (by omega)
     refine zav (ψ:=(· =(((S.2.2.2+2:Nat):Int),coins.getD S.2.2.2 0,coins.getD (S.2.2.2+1) 0,siV gr l[i].G1 l[i].Y1 (coins.getD S.2.2.2 0) (coins.getD (S.2.2.2+1) 0),siV gr l[i].G2 l[i].Y2 (coins.getD S.2.2.2 0) (coins.getD (S.2.2.2+1) 0)))) (za8 (by simp;omega) (zad (zf4 (by omega)) ?_)) ?_
     ·rw[w5,w6]
      exact zad (zf4 (by omega)) (zad (zy1 k hO (zhZ O.hc (by omega))) (zae rfl))
     rintro _ rfl
     refine zap (by omega) (zap (by omega) (zap (by omega) (zae ?_)))
     rw[hg]
 have hx0:ix l (m:Int)=some (l.getD m q0):=by rw[zdO hm,zpD hm]
 have hE:((coins.length:Int) !=((2*l.length-1:Nat):Int))=false:=by rw[hcl];simp
 rw[hE]
 refine zah (zav (ψ:=(· =false)) (zad rfl (za8 rfl (zad rfl (za8 rfl (zad rfl (za8 rfl (zad rfl (za8 rfl (zad rfl (za8 rfl (za8 rfl (zad rfl (za8 rfl (zad hx0 (zad hti (zae rfl)))))))))))))))) ?_)
 rintro _ rfl
 refine za8 rfl (zad (zf4 (by omega)) (zad hS ?_))
 obtain⟨l1,l2,l3⟩:=zjP gr l m (coins.getD (coins.length-1) 0) coins l.length
 obtain⟨g1,g2⟩:=zpp k O (coins.getD (coins.length-1) 0) l.length (Nat.le_refl _)
 have hV:ooV gr s l m x coins=(let w:=coins.getD (coins.length-1) 0;let S:=ooN gr l m w coins l.length;⟨S.1,S.2.1.set m (ooC gr s l S),S.2.2.1.set m ((w+ooC gr s l S*x)%gr.Q)⟩):=rfl
 rw[hV]
 dsimp only
 have hwb:E9 gr.Q (coins.getD (coins.length-1) 0):=zhZ O.hc (by omega)
 generalize ooN gr l m (coins.getD (coins.length-1) 0) coins l.length=S at l1 l2 l3 g1 g2⊢
 generalize coins.getD (coins.length-1) 0=w at hwb⊢
 have hfl:=zpH l
 have hch:zbS gr s l S.1=some (ooE gr s l S,true):=by
  unfold zbS
  rw[zsD (by omega)]
  exact zah (zad rfl (zap (by omega) (zad (chL k O.hs (by rw[List.length_append];omega) (zui k O g1)).1 (zae rfl))))
 have hEb:E9 gr.Q (ooE gr s l S):=zvE k _ _
 have hsm:E9 gr.Q (smN gr.Q S.2.1 S.2.1.length):=zn7 (by omega) _ _
 refine zad hch (za8 rfl (zad (zzu (by omega) g2).1 ?_))
 have e1:(IntKind.i64.wrap (ooE gr s l S-smN gr.Q S.2.1 S.2.1.length))%gr.Q=ooC gr s l S:=by
  unfold ooC
  rw[l2]at hsm⊢
  have h1:=hEb.1;have h2:=hEb.2;have h3:=hsm.1;have h4:=hsm.2
  rw[zag (by omega) (by omega)]
 have hC:E9 gr.Q (ooC gr s l S):=zj8 (by omega) _
 refine zad (zq1 k _) ?_
 rw[e1]
 have hmm:m<S.2.1.length:=by omega
 refine zad (zf4 hmm) (zad (a:=ooC gr s l S) ?_ ?_)
 ·rw[Int.toNat_natCast,zdO (show m<(S.2.1.set m (ooC gr s l S)).length by simpa using hmm)];simp
 refine zad (zq1 k _) (zad (zf4 (show m<S.2.2.1.length by omega)) (zae ?_))
 rw[(zy9 (q:=gr.Q) (by omega) hwb hC O.hx).1,Int.toNat_natCast]
theorem zua {q:Int}{l m:List Int}:∀{i:Nat},i≤l.length→smN q (l++m) i=smN q l i
 |0,_=>rfl
 |i+1,h=>by
  show(smN q (l++m) i+(l++m).getD i 0)%q=(smN q l i+l.getD i 0)%q
  rw[zua (by omega)]
  simp[List.getD,List.getElem?_append_left (show i<l.length by omega)]
theorem zst {q a:Int}{l:List Int}{i:Nat}(h:l.length=i):smN q (l++[a]) (i+1)=(smN q l i+a)%q:=by
 show(smN q (l++[a]) i+(l++[a]).getD i 0)%q=_
 rw[zua (by omega)]
 subst h;simp[List.getD]
theorem zxr (k:OkG gr) (O:OoOk gr s l m x coins):zd5 gr s l (m:Int) x coins=some (ooV gr s l m x coins):=by
 have hq:=k.q
 have hp:=k.p
 have hn:=O.hn
 have hm:=O.hm
 have hcl:=O.cl
 have w3:IntKind.i64.wrap ((coins.length:Int)-1)=((coins.length-1:Nat):Int):=by rw[zag (by omega) (by omega)];omega
 unfold zd5
 rw[w3]
 have hS:=zhR (σ:=List Int×List Int×List Int×List Int×Int) (γ:=List Int×List Int×List Int×Int) (n:=l.length) (stop:=fun s27=>(s27.2.1,s27.2.2.1,s27.2.2.2.1,s27.2.2.2.2)) (s0:=(coins,[],[],[],0)) (body:=fun i28 s27=>
  (((ix l i28).bind fun x37=>
  if(i28==(m:Int))=true then(
  (zaJ gr x37.G1 (coins.getD (coins.length-1) 0)).bind fun z39=>
  (zaJ gr x37.G2 (coins.getD (coins.length-1) 0)).bind fun z40=>
  gd ((s27.2.1.length+2)*8≤140737488355328∧s27.2.1.length+2≤4611686018427387904)<|
  gd ((s27.2.2.1.length+1)*8≤140737488355328∧s27.2.2.1.length+1≤4611686018427387904)<|
  gd ((s27.2.2.2.1.length+1)*8≤140737488355328∧s27.2.2.2.1.length+1≤4611686018427387904)<|
  some (s27.1,s27.2.1++[z39,z40],s27.2.2.1++[0],s27.2.2.2.1++[0],s27.2.2.2.2))else(
  (ix s27.1 0).bind fun x41=>
  (ix s27.1 1).bind fun x42=>
  gd (2≤s27.1.length∧s27.1.length≤s27.1.length)<|
  (zaJ gr x37.G1 x42).bind fun z43=>
  (zaJ gr x37.Y1 (IntKind.i64.wrap (0-x41))).bind fun z44=>
  (zbF gr [z43,z44]).bind fun z45=>
  (zaJ gr x37.G2 x42).bind fun z46=>
  (zaJ gr x37.Y2 (IntKind.i64.wrap (0-x41))).bind fun z47=>
  (zbF gr [z46,z47]).bind fun z48=>
  gd ((s27.2.1.length+2)*8≤140737488355328∧s27.2.1.length+2≤4611686018427387904)<|
  gd ((s27.2.2.1.length+1)*8≤140737488355328∧s27.2.2.1.length+1≤4611686018427387904)<|
  gd ((s27.2.2.2.1.length+1)*8≤140737488355328∧s27.2.2.2.1.length+1≤4611686018427387904)<|
  gd (gr.Q≠0)<|
  some ((s27.1.take s27.1.length).drop 2,s27.2.1++[z45,z48],s27.2.2.1++[x41],s27.2.2.2.1++[x42],(IntKind.i64.wrap (s27.2.2.2.2+x41)).tmod gr.Q)):Option ((List Int×List Int×List Int×List Int×Int))).bind fun x36=>
  some (.go (x36.1,x36.2.1,x36.2.2.1,x36.2.2.2.1,x36.2.2.2.2))))
  (fun i=>let S:=ooN gr l m (coins.getD (coins.length-1) 0) coins i;(coins.drop S.2.2.2,S.1,S.2.1,S.2.2.1,smN gr.Q S.2.1 i)) rfl fun i hi=>by
    have hnx:=zna gr l m (coins.getD (coins.length-1) 0) coins i
    obtain⟨l1,l2,l3⟩:=zjP gr l m (coins.getD (coins.length-1) 0) coins i
    have hO:=O.hl _ (List.getElem_mem hi)
    have hg:=zpD hi
    dsimp only
    rw[ooN]
    generalize hS0:ooN gr l m (coins.getD (coins.length-1) 0) coins i=S at hnx l1 l2 l3⊢
    have hse:=zn7 (show 0<gr.Q by omega) S.2.1 i
    by_cases e:i=m
    ·rw[if_pos e]
     refine zav (ψ:=(· =(coins.drop S.2.2.2,S.1++[zar gr l[i].G1 (coins.getD (coins.length-1) 0),zar gr l[i].G2 (coins.getD (coins.length-1) 0)],S.2.1++[0],S.2.2.1++[0],smN gr.Q S.2.1 i))) (za6 hi (zgT (by simp[e]) (zad (pwS k (zd1 k hO.1) _) (zad (pwS k (zd1 k hO.2.2.1) _) (zap (by omega) (zap (by omega) (zap (by omega) (zae rfl)))))))) ?_
     rintro _ rfl
     refine zae ?_
     dsimp only
     rw[hg,zst l2,Int.add_zero,Int.emod_eq_of_lt hse.1 hse.2]
    ·rw[if_neg e]
     have hc:S.2.2.2+1<coins.length:=by rw[hnx];split<;>omega
     have hca:=zhZ O.hc (i:=S.2.2.2) (by omega)
     have e0:ix (coins.drop S.2.2.2) 0=some (coins.getD S.2.2.2 0):=by
      rw[show(0:Int)=((0:Nat):Int)from rfl,zf4 (by rw[List.length_drop];omega)];simp[List.getD]
     have e1:ix (coins.drop S.2.2.2) 1=some (coins.getD (S.2.2.2+1) 0):=by
      rw[show(1:Int)=((1:Nat):Int)from rfl,zf4 (by rw[List.length_drop];omega)];simp[List.getD]
     have hse1:=hse.1
     have hse2:=hse.2
     have hca1:=hca.1
     have hca2:=hca.2
     have e2:(IntKind.i64.wrap (smN gr.Q S.2.1 i+coins.getD S.2.2.2 0)).tmod gr.Q=(smN gr.Q S.2.1 i+coins.getD S.2.2.2 0)%gr.Q:=by
      rw[zag (by omega) (by omega),Int.tmod_eq_emod_of_nonneg (by omega)]
     refine zav (ψ:=(· =(coins.drop (S.2.2.2+2),S.1++[siV gr l[i].G1 l[i].Y1 (coins.getD S.2.2.2 0) (coins.getD (S.2.2.2+1) 0),siV gr l[i].G2 l[i].Y2 (coins.getD S.2.2.2 0) (coins.getD (S.2.2.2+1) 0)],S.2.1++[coins.getD S.2.2.2 0],S.2.2.1++[coins.getD (S.2.2.2+1) 0],(smN gr.Q S.2.1 i+coins.getD S.2.2.2 0)%gr.Q))) (za6 hi (za8 (by simp;omega) (zad e0 (zad e1 (zap (by rw[List.length_drop];omega) ?_))))) ?_
     ·rw[wrL k hca]
      refine zad (pwS k (zd1 k hO.1) _) (zad (pwS k (zd1 k hO.2.1) _) (zad (m2S k (zda k _ _) (zda k _ _)) (zad (pwS k (zd1 k hO.2.2.1) _) (zad (pwS k (zd1 k hO.2.2.2) _) (zad (m2S k (zda k _ _) (zda k _ _)) (zap (by omega) (zap (by omega) (zap (by omega) (zap (by omega) (zae ?_))))))))))
      rw[e2,List.take_length,List.drop_drop];rfl
     rintro _ rfl
     refine zae ?_
     dsimp only
     rw[hg,zst l2]
 refine zah (zad (zf4 (by omega)) (zad hS ?_))
 obtain⟨l1,l2,l3⟩:=zjP gr l m (coins.getD (coins.length-1) 0) coins l.length
 obtain⟨g1,g2⟩:=zpp k O (coins.getD (coins.length-1) 0) l.length (Nat.le_refl _)
 have hV:ooV gr s l m x coins=(let w:=coins.getD (coins.length-1) 0;let S:=ooN gr l m w coins l.length;⟨S.1,S.2.1.set m (ooC gr s l S),S.2.2.1.set m ((w+ooC gr s l S*x)%gr.Q)⟩):=rfl
 rw[hV]
 dsimp only
 have hwb:E9 gr.Q (coins.getD (coins.length-1) 0):=zhZ O.hc (by omega)
 generalize ooN gr l m (coins.getD (coins.length-1) 0) coins l.length=S at l1 l2 l3 g1 g2⊢
 generalize coins.getD (coins.length-1) 0=w at hwb⊢
 have hfl:=zpH l
 have hch:zfM gr s l S.1=some (ooE gr s l S):=by
  unfold zfM
  rw[zsD (by omega)]
  exact zah (zad rfl (zap (by omega) (zad (chL k O.hs (by rw[List.length_append];omega) (zui k O g1)).2 (zae rfl))))
 have hEb:E9 gr.Q (ooE gr s l S):=zvE k _ _
 have hsm:E9 gr.Q (smN gr.Q S.2.1 l.length):=zn7 (by omega) _ _
 have e1:(IntKind.i64.wrap (ooE gr s l S-smN gr.Q S.2.1 l.length))%gr.Q=ooC gr s l S:=by
  unfold ooC
  have h1:=hEb.1;have h2:=hEb.2;have h3:=hsm.1;have h4:=hsm.2
  rw[zag (by omega) (by omega)]
 have hC:E9 gr.Q (ooC gr s l S):=zj8 (by omega) _
 refine zad hch (zad (zqD (by omega) (by omega)) ?_)
 rw[e1]
 refine zad (zf4 (show m<S.2.1.length by omega)) (zap (by omega) (zad (zf4 (show m<S.2.2.1.length by omega)) (zae ?_)))
 rw[(zy9 (q:=gr.Q) (by omega) hwb hC O.hx).2,Int.toNat_natCast]
end
theorem zuG {ct:Contest}(k:OkC ct) {v:List Int}(hv:zfb ct v=true):zcf ct v=some (zd6 ct v):=by
 unfold zcf zd6
 unfold zfb at hv
 rcases k.k with⟨k1|k3,ho,hm,hp⟩|⟨k2,ho,hp,hm⟩|⟨k4,ho,hm,hp⟩
 ·simp only[k1,if_true,Bool.and_eq_true]at hv⊢
  rw[ztp,if_pos (show((1:Int)==1)=true from rfl),zkb (by omega) hv.1.1];rfl
 ·simp only[k3,show¬(3:Int)=1 by omega,show¬(3:Int)=2 by omega,if_false,if_true,Bool.and_eq_true]at hv⊢
  have hl:=zc9.1 hv.2.2
  simp only[show((3:Int)==1)=false from rfl,show((3:Int)==3)=true from rfl,Bool.false_eq_true,if_false,if_true]
  have e:zak (σ:=(List Int)) (fun i8 s7=>(ix v i8).bind fun x14=>gd ((s7.length+1)*8≤140737488355328∧s7.length+1≤4611686018427387904)<|some (.go (s7++[IntKind.i64.wrap (x14+1)]))) (fun s7=>s7) (v.length) 0 []=some (v.map (· +1)):=by
   refine zah (zbf (fun i s=>s=(v.take i).map (· +1)∧i≤v.length) ⟨rfl,by omega⟩ ?_ fun s h=>by rw[h.1,List.take_length])
   rintro i s hi ⟨rfl,_⟩
   have hx:=zc9.1 (List.all_eq_true.1 hv.1 v[i] (List.getElem_mem hi))
   refine za6 hi (zap (by simp;omega) (zae ⟨?_,by omega⟩))
   rw[zag (n:=v[i]+1) (by omega) (by omega),List.take_succ_eq_append_getElem hi,List.map_append];rfl
  rw[e];rfl
 ·simp only[k2,show¬(2:Int)=1 by omega,show¬(2:Int)=3 by omega,if_false,if_true,Bool.and_eq_true,decide_eq_true_eq]at hv⊢
  have:=hv.1
  simp only[show((2:Int)==1)=false from rfl,show((2:Int)==3)=false from rfl,Bool.false_eq_true,if_false]
  unfold zcL
  rw[zcu (by omega)];rfl
 simp only[k4,show¬(4:Int)=1 by omega,show¬(4:Int)=2 by omega,show¬(4:Int)=3 by omega,if_false,Bool.and_eq_true]at hv⊢
 have hl:=zc9.1 hv.2
 simp only[show((4:Int)==1)=false from rfl,show((4:Int)==3)=false from rfl,Bool.false_eq_true,if_false]
 unfold zcL
 rw[zcu (by omega)];rfl
theorem zzm {ct:Contest}(k:OkC ct) {v:List Int}(hv:zfb ct v=true):zdz ct v=some (zlq ct v):=by
 obtain⟨_,h1,h2⟩:=zrd k hv
 have hb:zaF ct=some (zki ct)∧1≤zki ct∧zki ct≤27:=by
  unfold zaF zki
  rcases k.k with⟨k1|k3,ho,hm,hp⟩|⟨k2,ho,hp,hm⟩|⟨k4,ho,hm,hp⟩
  ·rw[k1];exact⟨rfl,by simp,by simp⟩
  ·rw[k3,zag (n:=ct.Options+1) (by omega) (by omega)];exact⟨rfl,by simp;omega,by simp;omega⟩
  ·rw[k2,zag (n:=ct.Points+1) (by omega) (by omega)];exact⟨rfl,by simp;omega,by simp;omega⟩
  ·rw[k4];exact⟨rfl,by simp,by simp⟩
 unfold zdz
 rw[zuG k hv,Option.bind_some,hb.1,Option.bind_some,ziS (by omega) h2 (ze8 (Int.le_refl 0) (by omega) h1)];rfl
theorem zzo {ct:Contest}(k:OkC ct) {v:List Int}(hv:zfb ct v=true):zbP ct v=some (zoB ct v):=by
 unfold zbP zoB
 rw[zh7,Option.bind_some,show(ct.Kind==1||ct.Kind==2)=zdK ct from rfl,zuG k hv,zzm k hv]
 cases zdK ct<;>rfl
theorem zw2 {ct:Contest}(k:OkC ct):zdk ct=some (zko ct):=by
 unfold zdk zko
 rw[zlT,show(ct.Kind==1||ct.Kind==2)=zdK ct from rfl]
 cases h:zdK ct with
 |false=>rfl
 |true=>
  obtain⟨h1,h2,h3,h4⟩:=zl8 k h
  have e1:(2*zc6 ct+2)*ct.Options≤12*8:=Int.mul_le_mul (by omega) h1.2 (by omega) (by omega)
  have e2:0≤(2*zc6 ct+2)*ct.Options:=Int.mul_nonneg (by omega) (by omega)
  have e3:ct.Options*zc6 ct≤8*5:=Int.mul_le_mul h1.2 h2.2 (by omega) (by omega)
  rw[zvo (.inl h),if_pos h]
  simp only[Option.bind_some,Bool.not_true,Bool.false_eq_true,if_false,if_true]
  rw[zag (n:=2*zc6 ct) (by omega) (by omega),zag (n:=2*zc6 ct+2) (by omega) (by omega),zag (n:=(2*zc6 ct+2)*ct.Options) (by omega) (by omega),zag (n:=ct.Most-ct.Least) (by omega) (by omega),zag (n:=2*(ct.Most-ct.Least)) (by omega) (by omega),zag (n:=(2*zc6 ct+2)*ct.Options+2*(ct.Most-ct.Least)) (by omega) (by omega),zag (by omega) (by omega),Int.mul_comm]
def cK (gr:Group) (key e r:Int):Cipher:=⟨zar gr gr.G r,zeB gr [zar gr gr.G e,zar gr key r]⟩
theorem zxl {gr:Group}(k:OkG gr) {key:Int}(hk:zaD gr key=true) (e r:Int):zbC gr key (zar gr gr.G e) r=some (cK gr key e r):=(zo8 k hk (zq6 k (zfT k) e) r).1
theorem zsv {gr:Group}(k:OkG gr) {key:Int}(hk:zaD gr key=true) (e r:Int):ze9 gr key e r=some (cK gr key e r):=by
 unfold ze9
 rw[pwS k (r_G k),Option.bind_some,(zo8 k hk (zq6 k (zfT k) e) r).2];rfl
theorem znm {gr:Group}(k:OkG gr) {key:Int}(hk:zaD gr key=true) (e r:Int):cK gr key e r=⟨pg gr r,pg gr (e+dl gr key*r)⟩:=by
 have h:=zzE k hk
 unfold cK
 rw[←zj6 k,←zuF k,←h];rfl
theorem zug {gr:Group}(k:OkG gr) {key:Int}(hk:zaD gr key=true) (e r:Int):zoc gr (cK gr key e r)=true:=by
 rw[znm k hk]
 show(zaD gr (pg gr r)&&zaD gr (pg gr _))=true
 rw[zj5 k,zj5 k];rfl
theorem zxj {gr:Group}(k:OkG gr) {key:Int}(hk:zaD gr key=true) {s:ByteArray}{e r lo:Int}{m n:Nat}{c:Cipher}{coins:List Int}(hc:c=⟨pg gr r,pg gr (e+dl gr key*r)⟩) (he:e=lo+(m:Int)) (hs:s.size≤40) (hm:m<n) (hn:n≤8) (hr:E9 gr.Q r) (hl:coins.length=2*n-1) (ha:∀z∈coins,E9 gr.Q z):OoOk gr s (stV gr key c lo n) m r coins:=by
 have hd:=zzE k hk
 subst hc
 have hY:∀j:Int,zeB gr [pg gr (e+dl gr key*r),zar gr gr.G j]=pg gr (e+dl gr key*r+j):=fun j=>zj6 k _ _
 refine⟨hs,⟨by rw[zlH];omega,by rw[zlH];omega⟩,?_,by rw[zlH];exact hm,hr,by rw[zlH];exact hl,ha,?_⟩
 ·intro x hx
  obtain⟨i,_,rfl⟩:=List.mem_map.1 hx
  dsimp only
  rw[hY]
  exact⟨zfT k,zj5 k _,hk,zj5 k _⟩
 have e1:(stV gr key ⟨pg gr r,pg gr (e+dl gr key*r)⟩ lo n).getD m q0=⟨gr.G,pg gr r,key,pg gr (dl gr key*r)⟩:=by
  unfold stV
  rw[List.getD,List.getElem?_map,List.getElem?_range hm]
  show EqualLog.mk gr.G (pg gr r) key (zeB gr [pg gr (e+dl gr key*r),zar gr gr.G (0-(lo+(m:Int)))])=_
  rw[hY,show e+dl gr key*r+(0-(lo+(m:Int)))=dl gr key*r by omega]
 rw[e1]
 refine⟨rfl,?_⟩
 show zar gr key r=pg gr (dl gr key*r)
 rw[←zuF k,←hd]
attribute [local irreducible] ooV stV chG
def smE (d:List Int):Nat→Int:=smL fun i=>d.getD i 0
def srN (Q:Int) (r:Nat→Int):Nat→Int
 |0=>0
 |i+1=>(srN Q r i+r i)%Q
def svR (coins:List Int) (q i:Nat):Int:=coins.getD (i*(2*q+2)) 0
def svC (gr:Group) (key:Int) (d coins:List Int) (q i:Nat):Cipher:=cK gr key (d.getD i 0) (svR coins q i)
def svP (gr:Group) (key:Int) (lab:ByteArray) (d coins:List Int) (q i:Nat):Proof:=ooV gr lab (stV gr key (svC gr key d coins q i) 0 (q+1)) (d.getD i 0).toNat (svR coins q i) (((coins.drop (i*(2*q+2))).take (2*q+2)).drop 1)
structure SvOk (gr:Group) (key:Int) (lab:ByteArray) (d coins:List Int) (q:Nat):Prop where
 k:OkG gr
 hk:zaD gr key=true
 hs:lab.size≤40
 hn:d.length≤8
 hq:1≤q∧q≤5
 hd:∀z∈d,0≤z∧z≤(q:Int)
 hl:d.length*(2*q+2)≤coins.length∧coins.length≤300
 hc:∀z∈coins,E9 gr.Q z
theorem zv5 {Q:Int}(h:0<Q) (r:Nat→Int):∀n,E9 Q (srN Q r n)
 |0=>⟨Int.le_refl 0,h⟩
 |n+1=>zj8 h _
theorem zxv (Q:Int) (r:Nat→Int):∀n,srN Q r n%Q=smL r n%Q
 |0=>rfl
 |n+1=>by
  show(srN Q r n+r n)%Q%Q=(smL r n+r n)%Q
  rw[Int.emod_emod,Int.add_emod,zxv Q r n,←Int.add_emod]
section
variable {gr:Group}{key:Int}{lab:ByteArray}{d coins:List Int}{q:Nat}
theorem ztU (S:SvOk gr key lab d coins q) {i:Nat}(hi:i<d.length):i*(2*q+2)+(2*q+2)≤coins.length:=by
 have h:=Nat.mul_le_mul_right (2*q+2) (show i+1≤d.length by omega)
 rw[Nat.succ_mul]at h
 exact Nat.le_trans h S.hl.1
theorem zsN (S:SvOk gr key lab d coins q) {i:Nat}(hi:i<d.length):0≤d.getD i 0∧d.getD i 0≤(q:Int):=zhZ S.hd hi
theorem zwB (S:SvOk gr key lab d coins q) {i:Nat}(hi:i<d.length):E9 gr.Q (svR coins q i):=zhZ S.hc (by have:=ztU S hi;have:=S.hq;omega)
theorem zs6 (S:SvOk gr key lab d coins q):∀i,i≤d.length→0≤smE d i∧smE d i≤5*(i:Int)
 |0,_=>⟨Int.le_refl 0,Int.le_refl 0⟩
 |i+1,hi=>by
  have h:=zs6 S i (by omega)
  have hd:=zsN S (i:=i) (by omega)
  have hq:=S.hq
  show 0≤smE d i+d.getD i 0∧smE d i+d.getD i 0≤5*((i+1:Nat):Int)
  omega
theorem ztP (S:SvOk gr key lab d coins q) {i:Nat}(hi:i<d.length):OoOk gr lab (stV gr key (svC gr key d coins q i) 0 (q+1)) (d.getD i 0).toNat (svR coins q i) (((coins.drop (i*(2*q+2))).take (2*q+2)).drop 1):=by
 have hd:=zsN S hi
 have ha:=ztU S hi
 have hq:=S.hq
 refine zxj S.k S.hk (znm S.k S.hk _ _) (by omega) S.hs (by omega) (by omega) (zwB S hi) ?_ fun z hz=>S.hc z (List.mem_of_mem_drop (List.mem_of_mem_take (List.mem_of_mem_drop hz)))
 rw[List.length_drop,List.length_take,List.length_drop];omega
theorem zFO (S:SvOk gr key lab d coins q) {ct:Contest}(hm:zbt ct=some (q:Int)) (voter:Int):zak (σ:=Int×List Cipher×List Proof×List Int×List Int×List Int×Int×Int) (β:=(Int×List Cipher×List Proof×List Int×List Int×List Int×Int×Int) ⊕ (Sealed×Bool)) (fun i62 s61=>
 (ix d i62).bind fun x68=>
 gd (0≤(IntKind.i64.wrap (i62*(IntKind.i64.wrap ((IntKind.i64.wrap (2*(q:Int)))+2)))))<|
 gd (0≤(IntKind.i64.wrap ((IntKind.i64.wrap (i62+1))*(IntKind.i64.wrap ((IntKind.i64.wrap (2*(q:Int)))+2)))))<|
 gd ((IntKind.i64.wrap (i62*(IntKind.i64.wrap ((IntKind.i64.wrap (2*(q:Int)))+2)))).toNat≤(IntKind.i64.wrap ((IntKind.i64.wrap (i62+1))*(IntKind.i64.wrap ((IntKind.i64.wrap (2*(q:Int)))+2)))).toNat∧(IntKind.i64.wrap ((IntKind.i64.wrap (i62+1))*(IntKind.i64.wrap ((IntKind.i64.wrap (2*(q:Int)))+2)))).toNat≤coins.length)<|
 (ix ((coins.take ((IntKind.i64.wrap ((IntKind.i64.wrap (i62+1))*(IntKind.i64.wrap ((IntKind.i64.wrap (2*(q:Int)))+2)))).toNat)).drop ((IntKind.i64.wrap (i62*(IntKind.i64.wrap ((IntKind.i64.wrap (2*(q:Int)))+2)))).toNat)) 0).bind fun x69=>
 (zaq gr gr.G x68).bind fun z70=>
 (zbC gr key z70 x69).bind fun z71=>
 gd (1≤((coins.take ((IntKind.i64.wrap ((IntKind.i64.wrap (i62+1))*(IntKind.i64.wrap ((IntKind.i64.wrap (2*(q:Int)))+2)))).toNat)).drop ((IntKind.i64.wrap (i62*(IntKind.i64.wrap ((IntKind.i64.wrap (2*(q:Int)))+2)))).toNat)).length∧((coins.take ((IntKind.i64.wrap ((IntKind.i64.wrap (i62+1))*(IntKind.i64.wrap ((IntKind.i64.wrap (2*(q:Int)))+2)))).toNat)).drop ((IntKind.i64.wrap (i62*(IntKind.i64.wrap ((IntKind.i64.wrap (2*(q:Int)))+2)))).toNat)).length≤((coins.take ((IntKind.i64.wrap ((IntKind.i64.wrap (i62+1))*(IntKind.i64.wrap ((IntKind.i64.wrap (2*(q:Int)))+2)))).toNat)).drop ((IntKind.i64.wrap (i62*(IntKind.i64.wrap ((IntKind.i64.wrap (2*(q:Int)))+2)))).toNat)).length)<|
 (zbt ct).bind fun z72=>
 (zbz gr key z71 0 z72).bind fun z73=>
 (zcy gr lab z73 x68 x69 ((((coins.take ((IntKind.i64.wrap ((IntKind.i64.wrap (i62+1))*(IntKind.i64.wrap ((IntKind.i64.wrap (2*(q:Int)))+2)))).toNat)).drop ((IntKind.i64.wrap (i62*(IntKind.i64.wrap ((IntKind.i64.wrap (2*(q:Int)))+2)))).toNat)).take (((coins.take ((IntKind.i64.wrap ((IntKind.i64.wrap (i62+1))*(IntKind.i64.wrap ((IntKind.i64.wrap (2*(q:Int)))+2)))).toNat)).drop ((IntKind.i64.wrap (i62*(IntKind.i64.wrap ((IntKind.i64.wrap (2*(q:Int)))+2)))).toNat)).length)).drop 1)).bind fun z74=>
 if(!z74.2)=true then(
 some (.out (.inr ((Sealed.mk 0 [] [] (Proof.mk [] [] [])),false))))else(
 gd ((s61.2.1.length+1)*16≤140737488355328∧s61.2.1.length+1≤4611686018427387904)<|
 gd ((s61.2.2.1.length+1)*72≤140737488355328∧s61.2.2.1.length+1≤4611686018427387904)<|
 (zbj gr (IntKind.i64.wrap (s61.2.2.2.2.2.2.2+x69))).bind fun z76=>
 some (.go (s61.1,s61.2.1++[z71],s61.2.2.1++[z74.1],s61.2.2.2.1,s61.2.2.2.2.1,s61.2.2.2.2.2.1,IntKind.i64.wrap (s61.2.2.2.2.2.2.1+x68),z76)))) (fun s61=>.inl (s61.1,s61.2.1,s61.2.2.1,s61.2.2.2.1,s61.2.2.2.2.1,s61.2.2.2.2.2.1,s61.2.2.2.2.2.2.1,s61.2.2.2.2.2.2.2)) (d.length) 0 (voter,[],[],[],[],[],0,0)=some (.inl (voter,(List.range d.length).map (svC gr key d coins q),(List.range d.length).map (svP gr key lab d coins q),[],[],[],smE d d.length,srN gr.Q (svR coins q) d.length)):=by
 have hp:=S.k.p
 have hQ:=S.k.q
 have hq:=S.hq
 have hn:=S.hn
 have hcl:=S.hl.2
 refine zhR (fun i=>(voter,(List.range i).map (svC gr key d coins q),(List.range i).map (svP gr key lab d coins q),[],[],[],smE d i,srN gr.Q (svR coins q) i)) rfl fun i hi=>?_
 have ha:=ztU S hi
 have hd:=zsN S hi
 have hr:=zwB S hi
 have hsm:=zs6 S i (by omega)
 have hsr:=zv5 (Q:=gr.Q) (by omega) (svR coins q) i
 have wT:IntKind.i64.wrap (IntKind.i64.wrap (2*(q:Int))+2)=((2*q+2:Nat):Int):=by
  rw[zag (n:=2*(q:Int)) (by omega) (by omega),zag (by omega) (by omega)];omega
 have wA:IntKind.i64.wrap ((i:Int)*((2*q+2:Nat):Int))=((i*(2*q+2):Nat):Int):=by
  rw[←Int.natCast_mul];exact zag (by omega) (by omega)
 have wB:IntKind.i64.wrap (IntKind.i64.wrap ((i:Int)+1)*((2*q+2:Nat):Int))=((i*(2*q+2)+(2*q+2):Nat):Int):=by
  rw[zag (n:=(i:Int)+1) (by omega) (by omega),show(i:Int)+1=((i+1:Nat):Int)by omega,←Int.natCast_mul,Nat.succ_mul];exact zag (by omega) (by omega)
 have eB:(coins.take (i*(2*q+2)+(2*q+2))).drop (i*(2*q+2))=(coins.drop (i*(2*q+2))).take (2*q+2):=by rw[List.drop_take,Nat.add_sub_cancel_left]
 have lB:((coins.drop (i*(2*q+2))).take (2*q+2)).length=2*q+2:=by rw[List.length_take,List.length_drop];omega
 have e0:ix ((coins.drop (i*(2*q+2))).take (2*q+2)) 0=some (svR coins q i):=by
  rw[show(0:Int)=((0:Nat):Int)from rfl,zf4 (by omega)]
  simp[List.getD,svR]
 have hP:=zw3 S.k (ztP S hi)
 rw[show(((d.getD i 0).toNat:Nat):Int)=d.getD i 0 by omega]at hP
 have hst:=zxd S.k (key:=key) (c:=svC gr key d coins q i) (zug S.k S.hk _ _) (lo:=0) (hi:=(q:Int)) (n:=q+1) (by omega) (by omega) (by omega)
 dsimp only
 rw[wT,wA,wB,Int.toNat_natCast,Int.toNat_natCast,eB,lB]
 refine zad (zf4 hi) (zap (by omega) (zap (by omega) (zap (by omega) (zad e0 (zad (pwI S.k (r_G S.k) _) (zad (zxl S.k S.hk _ _) (zap (by omega) (zad hm (zad hst ?_)))))))))
 rw[List.take_of_length_le (Nat.le_of_eq lB)]
 refine zad hP (za8 rfl (zap (by simp;omega) (zap (by simp;omega) (zad (zq1 S.k _) (zae ?_)))))
 rw[zag (n:=smE d i+d.getD i 0) (by omega) (by omega),zag (n:=srN gr.Q (svR coins q) i+svR coins q i) (by have:=hsr.1;have:=hr.1;omega) (by have:=hsr.2;have:=hr.2;omega),List.range_succ,List.map_append,List.map_append]
 rfl
theorem zIg (S:SvOk gr key lab d coins q) (voter:Int):zak (σ:=(List Int)×Int×List Cipher×List Proof×List Int×List Int×List Int×Int×Int) (fun i38 s37=>
 (ix d i38).bind fun x44=>
 (ix s37.1 0).bind fun x45=>
 (ze9 gr key x44 x45).bind fun z46=>
 gd ((s37.2.2.1.length+1)*16≤140737488355328∧s37.2.2.1.length+1≤4611686018427387904)<|
 gd (0≤(IntKind.i64.wrap ((IntKind.i64.wrap (2*(q:Int)))+2)))<|
 gd (1≤(IntKind.i64.wrap ((IntKind.i64.wrap (2*(q:Int)))+2)).toNat∧(IntKind.i64.wrap ((IntKind.i64.wrap (2*(q:Int)))+2)).toNat≤s37.1.length)<|
 (zcn gr key z46 0 (q:Int)).bind fun z47=>
 (zd5 gr lab z47 x44 x45 ((s37.1.take ((IntKind.i64.wrap ((IntKind.i64.wrap (2*(q:Int)))+2)).toNat)).drop 1)).bind fun z48=>
 gd ((s37.2.2.2.1.length+1)*72≤140737488355328∧s37.2.2.2.1.length+1≤4611686018427387904)<|
 gd (gr.Q≠0)<|
 gd (0≤(IntKind.i64.wrap ((IntKind.i64.wrap (2*(q:Int)))+2)))<|
 gd ((IntKind.i64.wrap ((IntKind.i64.wrap (2*(q:Int)))+2)).toNat≤s37.1.length∧s37.1.length≤s37.1.length)<|
 some (.go ((s37.1.take s37.1.length).drop ((IntKind.i64.wrap ((IntKind.i64.wrap (2*(q:Int)))+2)).toNat),s37.2.1,s37.2.2.1++[z46],s37.2.2.2.1++[z48],s37.2.2.2.2.1,s37.2.2.2.2.2.1,s37.2.2.2.2.2.2.1,IntKind.i64.wrap (s37.2.2.2.2.2.2.2.1+x44),(IntKind.i64.wrap (s37.2.2.2.2.2.2.2.2+x45)).tmod gr.Q))) (fun s37=>(s37.1,s37.2.1,s37.2.2.1,s37.2.2.2.1,s37.2.2.2.2.1,s37.2.2.2.2.2.1,s37.2.2.2.2.2.2.1,s37.2.2.2.2.2.2.2.1,s37.2.2.2.2.2.2.2.2)) (d.length) 0 (coins,voter,[],[],[],[],[],0,0)=some (coins.drop (d.length*(2*q+2)),voter,(List.range d.length).map (svC gr key d coins q),(List.range d.length).map (svP gr key lab d coins q),[],[],[],smE d d.length,srN gr.Q (svR coins q) d.length):=by
 have hp:=S.k.p
 have hQ:=S.k.q
 have hq:=S.hq
 have hn:=S.hn
 have hcl:=S.hl.2
 refine zhR (fun i=>(coins.drop (i*(2*q+2)),voter,(List.range i).map (svC gr key d coins q),(List.range i).map (svP gr key lab d coins q),[],[],[],smE d i,srN gr.Q (svR coins q) i)) (by rw[Nat.zero_mul];rfl) fun i hi=>?_
 have ha:=ztU S hi
 have hd:=zsN S hi
 have hr:=zwB S hi
 have hsm:=zs6 S i (by omega)
 have hsr:=zv5 (Q:=gr.Q) (by omega) (svR coins q) i
 have wT:IntKind.i64.wrap (IntKind.i64.wrap (2*(q:Int))+2)=((2*q+2:Nat):Int):=by
  rw[zag (n:=2*(q:Int)) (by omega) (by omega),zag (by omega) (by omega)];omega
 have lB:(coins.drop (i*(2*q+2))).length=coins.length-i*(2*q+2):=List.length_drop
 have e0:ix (coins.drop (i*(2*q+2))) 0=some (svR coins q i):=by
  rw[show(0:Int)=((0:Nat):Int)from rfl,zf4 (by omega)]
  simp[List.getD,svR]
 have hP:=zxr S.k (ztP S hi)
 rw[show(((d.getD i 0).toNat:Nat):Int)=d.getD i 0 by omega]at hP
 have hst:=zxc S.k (key:=key) (c:=svC gr key d coins q i) (zug S.k S.hk _ _) (lo:=0) (hi:=(q:Int)) (n:=q+1) (by omega) (by omega) (by omega)
 dsimp only
 rw[wT,Int.toNat_natCast,lB]
 refine zad (zf4 hi) (zad e0 (zad (zsv S.k S.hk _ _) (zap (by simp;omega) (zap (by omega) (zap (by omega) (zad hst (zad hP (zap (by simp;omega) (zap (by omega) (zap (by omega) (zap (by omega) (zae ?_))))))))))))
 rw[←lB,List.take_length,List.drop_drop,zag (n:=smE d i+d.getD i 0) (by omega) (by omega),zag (n:=srN gr.Q (svR coins q) i+svR coins q i) (by have:=hsr.1;have:=hr.1;omega) (by have:=hsr.2;have:=hr.2;omega),Int.tmod_eq_emod_of_nonneg (by have:=hsr.1;have:=hr.1;omega),List.range_succ,List.map_append,List.map_append,show(i+1)*(2*q+2)=i*(2*q+2)+(2*q+2)from Nat.succ_mul _ _]
 rfl
def zkG (gr:Group) (key:Int) (d coins:List Int) (q:Nat):Cipher:=⟨pg gr (srN gr.Q (svR coins q) d.length),pg gr (smE d d.length+dl gr key*srN gr.Q (svR coins q) d.length)⟩
theorem zsf (S:SvOk gr key lab d coins q):zkG gr key d coins q=⟨pg gr (smL (svR coins q) d.length),pg gr (smE d d.length+dl gr key*smL (svR coins q) d.length)⟩:=by
 have h:=zxv gr.Q (svR coins q) d.length
 unfold zkG
 rw[zqJ h,zqJ (a:=smE d d.length+dl gr key*srN gr.Q (svR coins q) d.length) (b:=smE d d.length+dl gr key*smL (svR coins q) d.length) (by rw[Int.add_emod,Int.mul_emod,h,←Int.mul_emod,←Int.add_emod])]
theorem zCd (k:OkG gr) (a b c d:Int):zcH gr ⟨pg gr a,pg gr b⟩ ⟨pg gr c,pg gr d⟩=some ⟨pg gr (a+c),pg gr (b+d)⟩:=by
 unfold zcH
 dsimp only
 rw[m2I k (x:=pg gr a) (y:=pg gr c) (zda k _ _) (zda k _ _),Option.bind_some,m2I k (x:=pg gr b) (y:=pg gr d) (zda k _ _) (zda k _ _),Option.bind_some,zj6 k,zj6 k]
theorem zCh (S:SvOk gr key lab d coins q):zcv gr ((List.range d.length).map (svC gr key d coins q))=some (zkG gr key d coins q):=by
 rw[zsf S]
 unfold zcv
 have h:=zhR (σ:=Int×Int) (γ:=Int×Int) (n:=((List.range d.length).map (svC gr key d coins q)).length) (stop:=fun s13=>(s13.1,s13.2)) (s0:=(1,1)) (body:=fun i14 s13=>
  (ix ((List.range d.length).map (svC gr key d coins q)) i14).bind fun x20=>
  (zcH gr (Cipher.mk s13.1 s13.2) x20).bind fun z21=>
  some (.go (z21.A,z21.B))) (fun i=>(pg gr (smL (svR coins q) i),pg gr (smE d i+dl gr key*smL (svR coins q) i))) (by
   show _=(pg gr 0,pg gr (0+dl gr key*0))
   rw[Int.mul_zero,Int.add_zero,zzN S.k]) fun i hi=>by
  refine za6 hi ?_
  rw[List.getElem_map,List.getElem_range]
  unfold svC
  rw[znm S.k S.hk]
  refine zad (zCd S.k _ _ _ _) (zae ?_)
  dsimp only
  rw[show smE d (i+1)=smE d i+d.getD i 0 from rfl,show smL (svR coins q) (i+1)=smL (svR coins q) i+svR coins q i from rfl,show smE d i+dl gr key*smL (svR coins q) i+(d.getD i 0+dl gr key*svR coins q i)=smE d i+d.getD i 0+dl gr key*(smL (svR coins q) i+svR coins q i)by rw[Int.mul_add];omega]
 rw[h]
 simp
theorem zDl (S:SvOk gr key lab d coins q):zgE gr ((List.range d.length).map (svC gr key d coins q))=some (zkG gr key d coins q):=by
 rw[zsf S]
 unfold zgE
 have h:=zhR (σ:=Int×Int) (γ:=Int×Int) (n:=((List.range d.length).map (svC gr key d coins q)).length) (stop:=fun s14=>(s14.1,s14.2)) (s0:=(1,1)) (body:=fun i15 s14=>
  (ix ((List.range d.length).map (svC gr key d coins q)) i15).bind fun x21=>
  (zbF gr [s14.1,x21.A]).bind fun z22=>
  (zbF gr [s14.2,x21.B]).bind fun z23=>
  some (.go (z22,z23))) (fun i=>(pg gr (smL (svR coins q) i),pg gr (smE d i+dl gr key*smL (svR coins q) i))) (by
   show _=(pg gr 0,pg gr (0+dl gr key*0))
   rw[Int.mul_zero,Int.add_zero,zzN S.k]) fun i hi=>by
  refine za6 hi ?_
  rw[List.getElem_map,List.getElem_range]
  unfold svC
  rw[znm S.k S.hk]
  refine zad (m2S S.k (zda S.k _ _) (zda S.k _ _)) (zad (m2S S.k (zda S.k _ _) (zda S.k _ _)) (zae ?_))
  show Stp.go (zeB gr [pg gr _,pg gr _],zeB gr [pg gr _,pg gr _])=_
  rw[zj6 S.k,zj6 S.k,show smE d (i+1)=smE d i+d.getD i 0 from rfl,show smL (svR coins q) (i+1)=smL (svR coins q) i+svR coins q i from rfl,show smE d i+dl gr key*smL (svR coins q) i+(d.getD i 0+dl gr key*svR coins q i)=smE d i+d.getD i 0+dl gr key*(smL (svR coins q) i+svR coins q i)by rw[Int.mul_add];omega]
 rw[h]
 simp
end
theorem zxh {gr:Group}{s:ByteArray}{l:List EqualLog}{m:Nat}{x:Int}{coins:List Int}(k:OkG gr) (O:OoOk gr s l m x coins) (w:Int):∀i,i≤l.length→∀z∈(ooN gr l m w coins i).2.2.1,E9 gr.Q z
 |0,_=>by intro z hz;simp[ooN]at hz
 |i+1,hi=>by
  have h2:=zxh k O w i (by omega)
  have hq:=k.q
  have hnx:=zna gr l m w coins i
  have hc:i≠m→(ooN gr l m w coins i).2.2.2+1<coins.length:=fun e=>by
   have:=O.cl;have:=O.hm
   rw[hnx];split<;>omega
  rw[ooN]
  by_cases e:i=m
  ·rw[if_pos e]
   refine apL h2 fun z hz=>?_
   rw[List.mem_singleton]at hz;subst hz;exact⟨Int.le_refl 0,by omega⟩
  ·rw[if_neg e]
   refine apL h2 fun z hz=>?_
   rw[List.mem_singleton]at hz;subst hz;exact zhZ O.hc (by have:=hc e;omega)
structure PrOk (p:Proof):Prop where
 a:p.Commits.length≤16
 b:p.Challenges.length≤8
 c:p.Responses.length≤8
 d:(ze5 p).all zbq=true
theorem zsM {p:Proof}(a:p.Commits.length≤16) (b:p.Challenges.length≤8) (c:p.Responses.length≤8) (d:∀z∈p.Commits,R9 z) (e:∀z∈p.Challenges,R9 z) (f:∀z∈p.Responses,R9 z):PrOk p:=by
 refine⟨a,b,c,?_⟩
 have h:∀l:List Int,l.length≤16→(∀z∈l,R9 z)→(zbZ l).all zbq=true:=fun l hl hz=>by
  unfold zbZ
  rw[List.all_cons,zpG hz,Bool.and_true]
  exact zdg.2 (by omega)
 unfold ze5
 rw[List.all_append,List.all_append,h _ a d,h _ (by omega) e,h _ (by omega) f];rfl
theorem e_r {gr:Group}(k:OkG gr) {z:Int}(h:E9 gr.Q z):R9 z:=⟨h.1,by have:=h.2;have:=k.q;have:=k.p;omega⟩
theorem zxa {gr:Group}{s:ByteArray}{l:List EqualLog}{m:Nat}{x:Int}{coins:List Int}(k:OkG gr) (O:OoOk gr s l m x coins):PrOk (ooV gr s l m x coins):=by
 have hq:=k.q
 have hn:=O.hn
 obtain⟨l1,l2,l3⟩:=zjP gr l m (coins.getD (coins.length-1) 0) coins l.length
 obtain⟨g1,g2⟩:=zpp k O (coins.getD (coins.length-1) 0) l.length (Nat.le_refl _)
 have g3:=zxh k O (coins.getD (coins.length-1) 0) l.length (Nat.le_refl _)
 have hs:∀{L:List Int}{y:Int},(∀z∈L,E9 gr.Q z)→E9 gr.Q y→∀z∈L.set m y,R9 z:=fun h hy z hz=>e_r k ((List.mem_or_eq_of_mem_set hz).elim (h z) fun e=>e▸hy)
 unfold ooV
 refine zsM (by show(ooN gr l m (coins.getD (coins.length-1) 0) coins l.length).1.length≤16;omega) ?_ ?_ g1 (hs g2 (zj8 (by omega) _)) (hs g3 (zj8 (by omega) _))
 ·show(List.set _ _ _).length≤8
  rw[List.length_set];omega
 show(List.set _ _ _).length≤8
 rw[List.length_set];omega
theorem zvj {d:List Int}:∀n,n≤d.length→smE d n=(d.take n).sum
 |0,_=>rfl
 |n+1,h=>by
  show smE d n+d.getD n 0=_
  rw[zvj n (by omega),List.take_succ_eq_append_getElem (show n<d.length by omega),List.sum_append,zjL (show n<d.length by omega)];simp
theorem zCB {gr:Group}{ct:Contest}(h:zdj gr ct=some true) (kg:OkG gr) (kc:OkC ct) (hf:zdK ct=true):ct.Most-ct.Least<8:=by
 have lo:=kc.lo
 have b:=zl8 kc hf
 have hm:ct.Options*zc6 ct≤8*5:=Int.mul_le_mul b.1.2 b.2.1.2 (by omega) (by omega)
 obtain⟨n,h1,_⟩:=znO kc
 unfold zdj at h
 rw[zp4,znZ,zmb.2 kg,zpy.2 kc]at h
 simp only[h1,zjS,Bool.not_true,Bool.false_eq_true,if_false,Option.bind_some,zh7]at h
 rw[show(ct.Kind==1||ct.Kind==2)=zdK ct from rfl,hf,zag (n:=ct.Most-ct.Least) (by omega) (by omega)]at h
 by_cases hh:ct.Most-ct.Least<8
 ·exact hh
 have e:decide (ct.Most-ct.Least<8)=false:=decide_eq_false hh
 rw[e]at h
 cases hc:(decide (100000<n)||decide (gr.Q≤n))<;>rw[hc]at h<;>cases h
structure SeOk (x:Sealed):Prop where
 v:0≤x.Voter∧x.Voter≤999999
 n:x.Ciphers.length≤8
 c:∀z∈x.Ciphers,R9 z.A∧R9 z.B
 m:x.Proofs.length≤8
 p:∀z∈x.Proofs++[x.Sum],PrOk z
theorem znt (a:Int):zeq a=some (inB 0 999999 a):=by
 unfold zeq
 rw[zqu];rfl
def seV (gr:Group) (key:Int) (lab:ByteArray) (d coins:List Int) (q:Nat) (voter lo:Int) (n:Nat):Sealed:=
 ⟨voter,(List.range d.length).map (svC gr key d coins q),(List.range d.length).map (svP gr key lab d coins q),ooV gr lab (stV gr key (zkG gr key d coins q) lo n) (smE d d.length-lo).toNat (srN gr.Q (svR coins q) d.length) (coins.drop (d.length*(2*q+2)))⟩
theorem zAj {gr:Group}(k:OkG gr) {key:Int}(hk:zaD gr key=true) (e r:Int):R9 (cK gr key e r).A∧R9 (cK gr key e r).B:=by
 rw[znm k hk]
 exact⟨zda k gr.G _,zda k gr.G _⟩
theorem zDf {gr:Group}{key:Int}{lab:ByteArray}{d coins:List Int}{q:Nat}(S:SvOk gr key lab d coins q) {voter lo:Int}{n:Nat}(hv:0≤voter∧voter≤999999) (O:OoOk gr lab (stV gr key (zkG gr key d coins q) lo n) (smE d d.length-lo).toNat (srN gr.Q (svR coins q) d.length) (coins.drop (d.length*(2*q+2)))):SeOk (seV gr key lab d coins q voter lo n):=by
 have hn:=S.hn
 refine⟨hv,by simpa[seV]using hn,?_,by simpa[seV]using hn,fun z hz=>?_⟩
 ·intro z hz
  obtain⟨i,_,rfl⟩:=List.mem_map.1 hz
  exact zAj S.k S.hk _ _
 rcases List.mem_append.1 hz with hz|hz
 ·obtain⟨i,hi,rfl⟩:=List.mem_map.1 hz
  exact zxa S.k (ztP S (List.mem_range.1 hi))
 rw[List.mem_singleton.1 hz]
 exact zxa S.k O
structure SeHn (gr:Group) (key:Int) (ct:Contest) (voter:Int) (v coins:List Int) (x:Sealed):Prop where
 g:zdj gr ct=some true
 kg:OkG gr
 kc:OkC ct
 hk:zaD gr key=true
 h2:0≤voter∧voter≤999999
 h3:zfb ct v=true
 hc:∀z∈coins,E9 gr.Q z
 e:(zdK ct=false∧∃u0 u1,coins=[u0,u1]∧x=⟨voter,[cK gr key (zlq ct v) u0],[zib gr (zfC voter) u0 u1],⟨[],[],[]⟩⟩)∨
  (zdK ct=true∧∃q:Nat,zc6 ct=(q:Int)∧SvOk gr key (zfC voter) (zd6 ct v) coins q∧OoOk gr (zfC voter) (stV gr key (zkG gr key (zd6 ct v) coins q) ct.Least (ct.Most-ct.Least+1).toNat) (smE (zd6 ct v) (zd6 ct v).length-ct.Least).toNat (srN gr.Q (svR coins q) (zd6 ct v).length) (coins.drop ((zd6 ct v).length*(2*q+2)))∧x=seV gr key (zfC voter) (zd6 ct v) coins q voter ct.Least (ct.Most-ct.Least+1).toNat)
theorem zx2 (gr:Group) (key:Int) (ct:Contest) (voter:Int) {v coins:List Int}(hv:v.length≤1048576):∃x,ze4 gr key ct voter v coins=some x∧zeZ gr key ct voter v coins=some x∧(x.2=true→SeOk x.1∧SeHn gr key ct voter v coins x.1):=by
 obtain⟨b,s1,s2,s3⟩:=znM gr ct
 unfold ze4 zeZ
 rw[s1,s2]
 cases b with
 |false=>exact⟨(⟨0,[],[],⟨[],[],[]⟩⟩,false),rfl,rfl,fun h=>by cases h⟩
 |true=>
  obtain⟨kg,kc⟩:=s3 rfl
  have hQ:=kg.q
  have hp:=kg.p
  have hco:=zwt kc
  simp only[ztS kg,zuK kg,znt,zs9,zwo kc hv,zx6 kc hv,zw2 kc,hco.1,zlt (gr:=gr) (by omega) (by omega),zym (gr:=gr) (by omega) (by omega),Bool.not_true,Bool.false_eq_true,if_false,Option.bind_some,zh7]
  cases hok:(!zaD gr key||(!inB 0 999999 voter||(!zfb ct v||((coins.length:Int) !=zko ct|| !coins.all (zgW gr)))))with
  |true=>exact⟨(⟨0,[],[],⟨[],[],[]⟩⟩,false),rfl,rfl,fun h=>by cases h⟩
  |false=>
   simp only[Bool.or_eq_false_iff,Bool.not_eq_false',bne_eq_false_iff_eq]at hok
   obtain⟨hk,h2,h3,h4,h5⟩:=hok
   have h2:=zc9.1 h2
   have hc:∀z∈coins,E9 gr.Q z:=fun z hz=>ziy.1 (List.all_eq_true.1 h5 z hz)
   have hlb:=zzB h2.1 h2.2
   have hE:=zzo kc h3
   unfold zoB at hE
   cases hf:zdK ct with
   |false=>
    rw[hf]at hE
    have hn2:coins.length=2:=by
     unfold zko at h4
     rw[hf]at h4
     have:(coins.length:Int)=2:=h4
     omega
    obtain⟨u0,u1,rfl⟩:∃u0 u1,coins=[u0,u1]:=by
     match coins,hn2 with
     |[a,b],_=>exact⟨a,b,rfl⟩
    have hk1:(ct.Kind==1||ct.Kind==2)=false:=hf
    have b0:=hc u0 (by simp)
    have b1:=hc u1 (by simp)
    have hpk:zce gr (zfC voter) gr.G u0 u1=some (zib gr (zfC voter) u0 u1,true):=by
     rw[zv7 gr (by omega),zmb.2 kg,ziy.2 b0,ziy.2 b1];rfl
    have r0:=e_r kg b0
    have r1:=e_r kg b1
    have hps:=zCR (gr:=gr) kg.gb (s:=zfC voter) (by omega) (x:=u0) (w:=u1) ⟨r0.1,by have:=r0.2;omega⟩ ⟨r1.1,by have:=r1.2;omega⟩
    refine⟨(⟨voter,[cK gr key (zlq ct v) u0],[zib gr (zfC voter) u0 u1],⟨[],[],[]⟩⟩,true),zah ?_,zah ?_,fun _=>⟨⟨h2,by simp,fun z hz=>?_,by simp,fun z hz=>?_⟩,s1,kg,kc,hk,h2,h3,hc,.inl ⟨hf,u0,u1,rfl,rfl⟩⟩⟩
    ·refine za8 rfl (zad (zva h2.1 h2.2) (zad hE (zad (zlT ct) (zgT (by rw[hk1];rfl) (zad (a:=u0) rfl (zad (a:=u1) rfl (zad hpk (zad (a:=zlq ct v) rfl (zad (pwI kg (r_G kg) _) (zad (zxl kg hk _ _) (zae rfl)))))))))))
    ·refine za8 rfl (zad (a:=(⟨voter,[cK gr key (zlq ct v) u0],[zib gr (zfC voter) u0 u1],⟨[],[],[]⟩⟩:Sealed)) (zah ?_) (zae rfl))
     unfold zgk
     exact zad (zuf h2.1 h2.2) (zad (zjS ct) (zgT (by rw[hk1];rfl) (zad (a:=u0) rfl (zad (zrd kc h3).1 (zad (zsv kg hk _ _) (zap (by omega) (zap (by simp) (zap (by simp) (zad hps (zap (by omega) (zae rfl)))))))))))
    ·rw[List.mem_singleton.1 hz];exact zAj kg hk _ _
    ·have hz:z=zib gr (zfC voter) u0 u1∨z=⟨[],[],[]⟩:=by simpa using hz
     rcases hz with rfl|rfl
     ·have he:=zon kg.gb (zfC voter) u0 u1
      refine zsM (by simp[zib]) (by simp[zib]) (by simp[zib]) (fun z hz=>?_) (fun z hz=>?_) fun z hz=>?_
      ·rw[List.mem_singleton.1 hz];exact zda kg _ _
      ·rw[List.mem_singleton.1 hz];exact e_r kg he
      ·rw[List.mem_singleton.1 hz];exact e_r kg (zj8 (by omega) _)
     ·exact zsM (by simp) (by simp) (by simp) (by simp) (by simp) (by simp)
   |true=>
    rw[hf]at hE
    obtain⟨f1,f2,f3,f4⟩:=zl8 kc hf
    obtain⟨g1,g2,g3,_⟩:=zzH kc hf h3
    have hgd:=zCB s1 kg kc hf
    have hk1:(ct.Kind==1||ct.Kind==2)=true:=hf
    have hm:=zvo (ct:=ct) (.inl hf)
    have hbt:=zu2 ct
    have hEx:=zyp kc h3
    unfold zoB at hEx
    rw[hf]at hEx
    rw[if_pos hf]at hm
    unfold zko at h4
    rw[if_pos hf]at h4
    obtain⟨q,hq⟩:∃q:Nat,zc6 ct=(q:Int):=⟨(zc6 ct).toNat,by omega⟩
    rw[hq]at hm hbt f2 f3 g2 h4
    have hE:zbP ct v=some (zd6 ct v):=hE
    have hEx:zfj ct v=some (zd6 ct v):=hEx
    have hdv:∃d,d=zd6 ct v:=⟨_,rfl⟩
    obtain⟨d,hdv⟩:=hdv
    rw[←hdv]at g1 g2 g3 hE hEx
    rw[←g1]at h4 f1 f3
    have eP:(d.length:Int)*(2*(q:Int)+2)=((d.length*(2*q+2):Nat):Int):=by rw[Int.natCast_mul];rfl
    rw[eP]at h4
    have hDq:(d.length:Int)*(q:Int)≤8*5:=Int.mul_le_mul (by omega) (by omega) (by omega) (by omega)
    have hPb:d.length*(2*q+2)≤8*12:=Nat.mul_le_mul (by omega) (by omega)
    have S:SvOk gr key (zfC voter) d coins q:=⟨kg,hk,by omega,by omega,by omega,fun z hz=>zc9.1 (List.all_eq_true.1 g2 z hz),by omega,hc⟩
    have hsum:smE d d.length=d.sum:=by rw[zvj _ (Nat.le_refl _),List.take_length]
    have hsr:=zv5 (Q:=gr.Q) (by omega) (svR coins q) d.length
    have O:OoOk gr (zfC voter) (stV gr key (zkG gr key d coins q) ct.Least (ct.Most-ct.Least+1).toNat) (smE d d.length-ct.Least).toNat (srN gr.Q (svR coins q) d.length) (coins.drop (d.length*(2*q+2))):=by
     refine zxj kg hk rfl (by omega) (by omega) (by omega) (by omega) hsr ?_ fun z hz=>hc z (List.mem_of_mem_drop hz)
     rw[List.length_drop];omega
    have hcs:zoc gr (zkG gr key d coins q)=true:=by
     show(zaD gr (pg gr _)&&zaD gr (pg gr _))=true
     rw[zj5 kg,zj5 kg];rfl
    have wE:IntKind.i64.wrap (smE d d.length-ct.Least)=(((smE d d.length-ct.Least).toNat:Nat):Int):=by rw[zag (by omega) (by omega)];omega
    have wT:IntKind.i64.wrap ((d.length:Int)*IntKind.i64.wrap (IntKind.i64.wrap (2*(q:Int))+2))=((d.length*(2*q+2):Nat):Int):=by
     rw[zag (n:=2*(q:Int)) (by omega) (by omega),zag (n:=2*(q:Int)+2) (by omega) (by omega),eP,zag (by omega) (by omega)]
    refine⟨(seV gr key (zfC voter) d coins q voter ct.Least (ct.Most-ct.Least+1).toNat,true),zah ?_,zah ?_,fun _=>⟨zDf S h2 O,s1,kg,kc,hk,h2,h3,hc,.inr ⟨hf,q,hq,hdv▸S,hdv▸O,hdv▸rfl⟩⟩⟩
    ·refine za8 rfl (zad (zva h2.1 h2.2) (zad hE (zad (zlT ct) (za8 (by rw[hk1];rfl) (zad hm (zad (zFO S hm voter) ?_))))))
     show Rn (gd _ _) _
     dsimp only
     rw[wT,wE,Int.toNat_natCast,List.take_length]
     exact zap (by omega) (zap (by omega) (zad (zCh S) (zad (zxd kg hcs (by omega) (n:=(ct.Most-ct.Least+1).toNat) (by omega) (by omega)) (zad (zw3 kg O) (za8 rfl (zae rfl))))))
    ·refine za8 rfl (zad (a:=seV gr key (zfC voter) d coins q voter ct.Least (ct.Most-ct.Least+1).toNat) (zah ?_) (zae rfl))
     unfold zgk
     refine zad (zuf h2.1 h2.2) (zad (zjS ct) (za8 (by rw[hk1];rfl) (zad hbt (zad hEx (zad (zIg S voter) ?_)))))
     dsimp only
     rw[wE]
     exact zad (zDl S) (zad (zxc kg hcs (by omega) (n:=(ct.Most-ct.Least+1).toNat) (by omega) (by omega)) (zad (zxr kg O) (zae rfl)))
def zgK (l:List Cipher):List Int:=(l.length:Int)::l.flatMap fun c=>[c.A,c.B]
def zgx (L:List (List Int)):List Int:=(L.length:Int)::L.flatMap zbZ
theorem zxt (l:List Cipher):(l.flatMap fun c=>[c.A,c.B]).length=2*l.length:=by
 induction l with
 |nil=>rfl
 |cons e l ih=>show([e.A,e.B]++l.flatMap fun c=>[c.A,c.B]).length=_;rw[List.length_append,ih];simp;omega
theorem zsb (l:List Cipher):(zgK l).length=2*l.length+1:=by unfold zgK;rw[List.length_cons,zxt]
theorem zsa {l:List Cipher}(hl:l.length≤8) (h:∀z∈l,R9 z.A∧R9 z.B):(zgK l).all zbq=true:=by
 unfold zgK
 rw[List.all_cons,zdg.2 (show 0≤(l.length:Int)∧(l.length:Int)≤4611686018427387903 by omega),Bool.true_and]
 refine zpG fun z hz=>?_
 obtain⟨c,hc,hz⟩:=List.mem_flatMap.1 hz
 simp only[List.mem_cons,List.not_mem_nil,or_false]at hz
 rcases hz with rfl|rfl
 ·exact(h c hc).1
 exact(h c hc).2
theorem zpM {l:List Cipher}(hl:l.length≤8):zak (σ:=(List Int)) (fun i5 s4=>
 (ix l i5).bind fun x11=>
 gd ((s4.length+2)*8≤140737488355328∧s4.length+2≤4611686018427387904)<|
 some (.go (s4++[x11.A,x11.B]))) (fun s4=>s4) (l.length) 0 [(l.length:Int)]=some (zgK l):=by
 refine zah (zbf (fun i s=>s=(l.length:Int)::((l.take i).flatMap fun c=>[c.A,c.B])∧i≤l.length) ⟨rfl,by omega⟩ ?_ fun s h=>by rw[h.1,List.take_length];rfl)
 rintro i s hi ⟨rfl,_⟩
 have hn:=zxt (l.take i)
 rw[List.length_take]at hn
 refine za6 hi (zap (by rw[List.length_cons];omega) (zae ⟨?_,by omega⟩))
 rw[List.take_succ_eq_append_getElem hi,List.flatMap_append];rfl
theorem zun {α:Type}{f:α→List Int}{B:Nat}:∀{l:List α},(∀p∈l,(f p).length≤B)→(l.flatMap f).length≤B*l.length
 |[],_=>by simp
 |p::l,h=>by
  have h1:=zun (l:=l) fun z hz=>h z (List.mem_cons_of_mem _ hz)
  have h2:=h p (by simp)
  rw[List.flatMap_cons,List.length_append,List.length_cons,Nat.mul_succ];omega
theorem zoa (L:List (List Int)) (i:Nat):((L.take i).flatMap zbZ).length≤(L.flatMap zbZ).length:=by
 have h:(L.take i).flatMap zbZ++(L.drop i).flatMap zbZ=L.flatMap zbZ:=by rw[←List.flatMap_append,List.take_append_drop]
 rw[←h,List.length_append];omega
theorem zsL {L:List (List Int)}{i:Nat}(hi:i<L.length):L[i].length+1≤(L.flatMap zbZ).length:=by
 have h:=zoa L (i+1)
 rw[List.take_succ_eq_append_getElem hi,List.flatMap_append,List.length_append]at h
 have e:([L[i]].flatMap zbZ).length=L[i].length+1:=by simp[zbZ]
 omega
theorem zyf {L:List (List Int)}(h:(zgx L).length≤400) (hd:(zgx L).all zbq=true):zdQ L=some (zgx L,true):=by
 have hn:(L.flatMap zbZ).length+1≤400:=by simpa[zgx]using h
 unfold zdQ
 have e:zak (σ:=(List Int)) (β:=(List Int) ⊕ (List Int×Bool)) (fun i5 s4=>(ix L i5).bind fun x11=>(zcr x11).bind fun z12=>
  gd ((s4.length+z12.length)*8≤140737488355328∧s4.length+z12.length≤4611686018427387904)<|
  if decide (400<((s4++z12).length:Int))=true then(some (.out (.inr ([],false))))else(some (.go (s4++z12)))) (fun s4=>.inl s4) (L.length) 0 [(L.length:Int)]=some (.inl (zgx L)):=by
  refine zah (zbf (fun i s=>s=(L.length:Int)::(L.take i).flatMap zbZ∧i≤L.length) ⟨rfl,by omega⟩ ?_ fun s h=>by rw[h.1,List.take_length];rfl)
  rintro i s hi ⟨rfl,_⟩
  have h1:=zoa L (i+1)
  have h2:=zsL hi
  have e1:(L.length:Int)::(L.take i).flatMap zbZ++zbZ L[i]=(L.length:Int)::(L.take (i+1)).flatMap zbZ:=by
   rw[List.take_succ_eq_append_getElem hi,List.flatMap_append];simp
  have e2:=congrArg List.length e1
  rw[List.length_append,List.length_cons,List.length_cons]at e2
  refine za6 hi (zad (znR (by omega)) (zap (by rw[List.length_cons];omega) (za8 ?_ (zae ⟨e1,by omega⟩))))
  rw[List.length_append,List.length_cons]
  exact decide_eq_false (by omega)
 have hr:zi1 (zgx L)=true:=by unfold zi1;rw[hd,decide_eq_true (by omega)];rfl
 have hrec:zdq (zgx L)=some (zgx L,true):=by rw[zmL,if_pos hr]
 rw[e,Option.bind_some,Sum.elim_inl,hrec,Option.bind_some]
def zii (x:Sealed):List (List Int):=[[x.Voter],zgK x.Ciphers]++(x.Proofs++[x.Sum]).map ze5
def zdd (x:Sealed):List Int:=zgx (zii x)
theorem zsw (p:Proof):(ze5 p).length=p.Commits.length+p.Challenges.length+p.Responses.length+3:=by simp[ze5,zbZ];omega
theorem zlR {x:Sealed}(O:SeOk x):(zdd x).length≤352:=by
 have h1:=zsb x.Ciphers
 have h2:=O.n
 have h3:=O.m
 have h4:(((x.Proofs++[x.Sum]).map ze5).flatMap zbZ).length≤36*(x.Proofs++[x.Sum]).length:=by
  have:=zun (f:=zbZ) (B:=36) (l:=(x.Proofs++[x.Sum]).map ze5) fun p hp=>by
   obtain⟨z,hz,rfl⟩:=List.mem_map.1 hp
   have o:=O.p z hz
   have:=o.a;have:=o.b;have:=o.c
   have:=zsw z
   show(ze5 z).length+1≤36
   omega
  rwa [List.length_map]at this
 rw[List.length_append]at h4
 unfold zdd zgx zii
 rw[List.length_cons,List.flatMap_append,List.length_append]
 have h5:([[x.Voter],zgK x.Ciphers].flatMap zbZ).length=2+(2*x.Ciphers.length+2):=by simp[zbZ,h1];omega
 have h6:[x.Sum].length=1:=rfl
 omega
theorem zx1 {l:List Int}(hl:l.length≤1000) (h:l.all zbq=true):(zbZ l).all zbq=true:=by
 unfold zbZ
 rw[List.all_cons,h,zdg.2 (show 0≤(l.length:Int)∧(l.length:Int)≤4611686018427387903 by omega)];rfl
theorem zop {x:Sealed}(O:SeOk x):(zdd x).all zbq=true:=by
 have hl:=zlR O
 have hn:((zii x).flatMap zbZ).length+1≤352:=by simpa[zdd,zgx]using hl
 have hp:∀p∈zii x,p.all zbq=true:=by
  intro p hp
  rcases List.mem_append.1 hp with hp|hp
  ·simp only[List.mem_cons,List.not_mem_nil,or_false]at hp
   rcases hp with rfl|rfl
   ·have:=O.v
    simp[zbq];omega
   ·exact zsa O.n O.c
  ·obtain⟨z,hz,rfl⟩:=List.mem_map.1 hp
   exact(O.p z hz).d
 unfold zdd zgx
 have hpl:(zii x).length≤11:=by
  have:=O.m
  unfold zii;simp;omega
 rw[List.all_cons,zdg.2 (show 0≤((zii x).length:Int)∧((zii x).length:Int)≤4611686018427387903 by omega),Bool.true_and,List.all_flatMap]
 refine List.all_eq_true.2 fun p hm=>?_
 obtain⟨i,hi,rfl⟩:=List.mem_iff_getElem.1 hm
 have:=zsL hi
 exact zx1 (by omega) (hp _ hm)
theorem zxQ {x:Sealed}(O:SeOk x):zcG x=some (zdd x,true):=by
 have hl:=zlR O
 have hd:=zop O
 have hm:=O.m
 have hv:inB 0 999999 x.Voter=true:=zc9.2 O.v
 have hc:zdh x.Ciphers=some (zgK x.Ciphers,true):=by
  unfold zdh
  rw[zpM O.n,Option.bind_some,zmL]
  have:zi1 (zgK x.Ciphers)=true:=by
   have:=zsb x.Ciphers;have:=O.n
   unfold zi1;rw[zsa O.n O.c,decide_eq_true (by omega)];rfl
  rw[this];rfl
 unfold zcG
 have hk:zbg x.Proofs=some x.Proofs:=by
  unfold zbg
  rw[zcu (by omega)]
 have hS:=zhR (σ:=(List (List Int))) (γ:=(List (List Int)) ⊕ (List Int×Bool)) (n:=(x.Proofs++[x.Sum]).length) (stop:=fun s13=>.inl s13) (s0:=[[x.Voter],zgK x.Ciphers]) (body:=fun i14 s13=>
  (ix (x.Proofs++[x.Sum]) i14).bind fun x21=>
  (zcU x21).bind fun z22=>
  if(!z22.2)=true then(
  some (.out (.inr ([],false))))else(
  gd ((s13.length+1)*24≤140737488355328∧s13.length+1≤4611686018427387904)<|
  some (.go (s13++[z22.1])))) (fun i=>[[x.Voter],zgK x.Ciphers]++((x.Proofs++[x.Sum]).take i).map ze5) (by simp) fun i hi=>by
   have o:=O.p _ (List.getElem_mem hi)
   have oa:=o.a;have ob:=o.b;have oc:=o.c
   have e:=zsw (x.Proofs++[x.Sum])[i]
   have hr:zi1 (ze5 (x.Proofs++[x.Sum])[i])=true:=by unfold zi1;rw[o.d,decide_eq_true (by omega)];rfl
   have he:=zpe (p:=(x.Proofs++[x.Sum])[i]) (by omega) (by omega) (by omega)
   rw[if_pos hr]at he
   have hi2:=hi
   rw[List.length_append]at hi2
   refine za6 hi (zad he (za8 rfl (zap (by rw[List.length_append,List.length_map,List.length_take,List.length_append];simp at hi2⊢;omega) (zae ?_))))
   rw[List.take_succ_eq_append_getElem hi,List.map_append,←List.append_assoc];rfl
 rw[List.take_length]at hS
 refine zah (zad hc (zav (ψ:=(· =false)) (za8 rfl (zad (znt _) (za8 (by rw[hv];rfl) (zae (decide_eq_false (by omega)))))) ?_))
 rintro _ rfl
 refine za8 rfl (zad hk (zap (by omega) (zad hS ?_)))
 exact zad (zyf (L:=zii x) (by show(zdd x).length≤400;omega) hd) (zae rfl)
theorem zwl {L:List (List Int)}(h:(zgx L).length≤400):zgb L=some (zgx L):=by
 have hn:(L.flatMap zbZ).length+1≤400:=by simpa[zgx]using h
 unfold zgb
 have e:zak (σ:=(List Int)) (fun i5 s4=>(ix L i5).bind fun x11=>(zbK s4 x11).bind fun z12=>some (.go z12)) (fun s4=>s4) (L.length) 0 [(L.length:Int)]=some (zgx L):=by
  refine zah (zbf (fun i s=>s=(L.length:Int)::(L.take i).flatMap zbZ∧i≤L.length) ⟨rfl,by omega⟩ ?_ fun s h=>by rw[h.1,List.take_length];rfl)
  rintro i s hi ⟨rfl,_⟩
  have h1:=zoa L i
  have h2:=zsL hi
  refine za6 hi (zad (zlW (by rw[List.length_cons];omega) (by omega)) (zae ⟨?_,by omega⟩))
  rw[List.take_succ_eq_append_getElem hi,List.flatMap_append]
  simp
 rw[e];rfl
theorem zyB {x:Sealed}(O:SeOk x):zcD x=some (zdd x,true):=by
 have hl:=zlR O
 have hd:=zop O
 have hm:=O.m
 have hv:inB 0 999999 x.Voter=true:=zc9.2 O.v
 unfold zcD zgq
 have hS:=zhR (σ:=(List (List Int))) (n:=x.Proofs.length) (stop:=fun s5=>s5) (s0:=[[x.Voter],zgK x.Ciphers]) (body:=fun i6 s5=>
  (ix x.Proofs i6).bind fun x12=>
  (zd3 x12).bind fun z13=>
  gd ((s5.length+1)*24≤140737488355328∧s5.length+1≤4611686018427387904)<|
  some (.go (s5++[z13]))) (fun i=>[[x.Voter],zgK x.Ciphers]++(x.Proofs.take i).map ze5) (by simp) fun i hi=>by
   have o:=O.p x.Proofs[i] (List.mem_append.2 (.inl (List.getElem_mem hi)))
   have oa:=o.a;have ob:=o.b;have oc:=o.c
   refine za6 hi (zad (zqL (by omega) (by omega) (by omega)) (zap (by rw[List.length_append,List.length_map,List.length_take];simp;omega) (zae ?_)))
   rw[List.take_succ_eq_append_getElem hi,List.map_append,←List.append_assoc];rfl
 rw[List.take_length]at hS
 have o:=O.p x.Sum (by simp)
 have oa:=o.a;have ob:=o.b;have oc:=o.c
 have hcs:ze1 x.Ciphers=some (zgK x.Ciphers):=by
  unfold ze1
  rw[zpM O.n];rfl
 have hpar:[[x.Voter],zgK x.Ciphers]++x.Proofs.map ze5++[ze5 x.Sum]=zii x:=by
  unfold zii
  rw[List.map_append,List.append_assoc];rfl
 have hif:zgA (zdd x)=some (zdd x,true):=by
  unfold zgA zf3
  rw[if_pos (decide_eq_true (by omega)),zlX]
  have e:((zdd x).all fun z=>decide (0≤z)&&decide (z≤4611686018427387903))=true:=hd
  rw[e];rfl
 refine zah (zad (zs9 _ _ _) (za8 (by rw[hv];rfl) (zad (a:=zdd x) (zah (zad hcs (zad hS (zad (zqL (by omega) (by omega) (by omega)) (zap (by rw[List.length_append,List.length_map];simp;omega) ?_))))) ?_)))
 ·rw[hpar]
  exact zad (zwl (L:=zii x) (by show(zdd x).length≤400;omega)) (zae rfl)
 exact zad hif (zae rfl)
theorem zAt {x:Sealed}(O:SeOk x):zcG x=some (zdd x,true)∧zcD x=some (zdd x,true):=⟨zxQ O,zyB O⟩
def seaL:ByteArray:=⟨#[115,101,97,108,101,100]⟩
theorem zzh {x:Sealed}(O:SeOk x):zdx x=some (zly seaL (zdd x),true)∧zdw x=some (zly seaL (zdd x),true):=by
 obtain⟨h1,h2⟩:=zAt O
 have hl:=zlR O
 have hd:=zop O
 have hs:seaL.size=6:=rfl
 have hb:zhJ seaL (zdd x)=true:=by
  unfold zhJ
  rw[hd,decide_eq_true (show seaL.size≤40 by omega),decide_eq_true (show 1+seaL.size+(zdd x).length≤400 by omega)];rfl
 constructor
 ·unfold zdx
  refine zah (zad h1 (za8 rfl (zad (a:=(zly seaL (zdd x),true)) ?_ (zae rfl))))
  have:=zjZ seaL (zdd x)
  rw[if_pos hb]at this
  exact this
 unfold zdw
 refine zah (zad h2 (za8 rfl (zad (a:=(zly seaL (zdd x),true)) (zah ?_) (zae rfl))))
 have w:IntKind.i64.wrap (IntKind.i64.wrap (IntKind.i64.wrap (1+(seaL.size:Int))+((zdd x).length:Int))+0)=7+((zdd x).length:Int):=by
  rw[hs,zag (n:=1+((6:Nat):Int)) (by omega) (by omega),zag (n:=1+((6:Nat):Int)+((zdd x).length:Int)) (by omega) (by omega),zag (by omega) (by omega)];omega
 have e:((zdd x).all fun z=>decide (0≤z)&&decide (z≤4611686018427387903))=true:=hd
 have hlb:zfp seaL (zdd x) 0=some true:=by
  unfold zfp
  rw[if_pos (decide_eq_true (show(seaL.size:Int)≤40 by omega)),zlX,e,w,decide_eq_true (show 7+((zdd x).length:Int)≤400 by omega)];rfl
 unfold zeG
 exact zad hlb (za8 rfl (zad (zjr (s:=seaL) (l:=zdd x) (by omega) (by omega) hd) (zae rfl)))
theorem zCF (gr:Group) (key:Int) (ct:Contest) (voter:Int) {v coins:List Int}(hv:v.length≤1048576):∃y,zeb gr key ct voter v coins=some y∧zed gr key ct voter v coins=some y∧(y.2=true→zbq y.1=true):=by
 obtain⟨⟨x,t⟩,h1,h2,h3⟩:=zx2 gr key ct voter (coins:=coins) hv
 unfold zeb zed
 cases t with
 |false=>exact⟨(0,false),zah (zad h1 (zgT rfl (zae rfl))),zah (zad h2 (zgT rfl (zae rfl))),fun h=>by cases h⟩
 |true=>
  obtain⟨d1,d2⟩:=zzh (h3 rfl).1
  exact⟨_,zah (zad h1 (za8 rfl (zad d1 (zae rfl)))),zah (zad h2 (za8 rfl (zad d2 (zae rfl)))),fun _=>zkc _ _⟩
theorem zqj {v:List Int}(h:v.length≤1048576):zeN v=some v:=by
 unfold zeN
 rw[zcu (by omega),Option.bind_some]
 have e:zaN (σ:=(List Int)×Int) (fun s15=>
  if decide (s15.2<(v.length:Int))=true then(
  (ix v s15.2).bind fun x21=>
  (ix s15.1 s15.2).bind fun x22=>
  some (.go (s15.1.set s15.2.toNat x21,IntKind.i64.wrap (s15.2+1))))else(
  some (.out s15.1))) (List.replicate v.length 0,0)=some v:=by
  refine zah (ze6 v.length (fun i s=>s=(v.take i++List.replicate (v.length-i) 0,(i:Int))∧i≤v.length) ⟨rfl,by omega⟩ ?_ ?_)
  ·rintro i s hi ⟨rfl,_⟩
   have hl:(v.take i++List.replicate (v.length-i) (0:Int)).length=v.length:=by simp;omega
   refine zgT (by simpa using hi) (za6 hi (za6 (by rw[hl];exact hi) (zae ⟨?_,by omega⟩)))
   have hr:List.replicate (v.length-i) (0:Int)=0::List.replicate (v.length-(i+1)) 0:=by rw[show v.length-i=(v.length-(i+1))+1 by omega];rfl
   have ht:(v.take i).length=i:=by rw[List.length_take];omega
   have hset:(v.take i++List.replicate (v.length-i) (0:Int)).set i v[i]=v.take (i+1)++List.replicate (v.length-(i+1)) 0:=by
    rw[hr,List.set_append_right _ _ (by omega),ht,Nat.sub_self,List.take_succ_eq_append_getElem hi,List.append_assoc];rfl
   dsimp only
   rw[Int.toNat_natCast,hset,zag (n:=(i:Int)+1) (by omega) (by omega)];rfl
  ·rintro s ⟨rfl,_⟩
   exact za8 (by simp) (zae (show v.take v.length++List.replicate (v.length-v.length) 0=v by simp))
 rw[e];rfl
theorem zsU {v:List Int}(h:v.length≤1048576):zcP v v=some true:=by
 unfold zcP
 rw[if_neg (by simp)]
 have e:=zvg (β:=Bool) (step:=fun s5=>
  if decide (s5<(v.length:Int))=true then(
  (ix v s5).bind fun x11=>
  (ix v s5).bind fun x12=>
  if(x11 !=x12)=true then(
  some (.out (.inr false)))else(
  some (.go (IntKind.i64.wrap (s5+1)))))else(
  some (.out (.inl ())))) v.length (fun k hk=>by
   rw[if_pos (by simpa using hk),zdO hk,Option.bind_some,Option.bind_some,if_neg (by simp),zag (n:=(k:Int)+1) (by omega) (by omega)];rfl) (by rw[if_neg (by simp)])
 rw[e];rfl
theorem zvm (gr:Group) (key:Int) (ct:Contest) {s:Session}(h:s.Vote.length≤1048576):∃y,zdA gr key ct s=some y∧zcI gr key ct s=some y:=by
 obtain⟨⟨d,t⟩,h1,h2,_⟩:=zCF gr key ct s.Voter (coins:=s.Coins) h
 unfold zdA zcI
 simp only[h1,h2,zkl,ztB,Option.bind_some]
 cases s.Cast<;>cases zbq s.Receipt<;>cases t<;>exact⟨_,rfl,rfl⟩
def seL (s:Session):Prop:=s.Vote.length≤1048576∧s.Coins.length≤1048576
theorem zyo {s:Session}(h:seL s):zeu s=some s:=by
 unfold zeu
 rw[zqj h.1,Option.bind_some,zqj h.2];rfl
end
end Go.Pm
