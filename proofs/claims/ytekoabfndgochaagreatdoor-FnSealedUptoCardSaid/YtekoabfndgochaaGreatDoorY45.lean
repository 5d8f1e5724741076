/-
  FnSealed: plain laws.
  No condition.
-/
import Derived.Test.YtekoabfndgochaaGreatDoorM45b
import Derived.Test.YtekoabfndgochaaGreatDoorPmZ
namespace Go.Pm
open Go.Am IntKind
set_option linter.unusedVariables false
set_option linter.unusedSimpArgs false
variable{a at_ b c m n q seed x y:Int}{bs:List (List Int)}{c0 code im l v:List Int}{ct:Contest}{e i k p:Nat}{gr:Group}{s:ByteArray}
theorem zwY{r:List Int}(h1:k<l.length)(h2:k<r.length)(h:l.take k=r.take k)(he:l[k]=r[k]):l.take (k+1)=r.take (k+1):=by
 rw[List.take_succ_eq_append_getElem h1,List.take_succ_eq_append_getElem h2,h,he]
theorem zn0(a b:List Int):zbw a b=some (decide (a=b)):=by
 unfold zbw;by_cases hl:a.length=b.length
 ·have e:((a.length:Int) !=(b.length:Int))=false:=by simp[hl]
  simp only[e,Bool.false_eq_true,if_false]
  obtain⟨r,hb,hp⟩:=zpj (σ:=Unit) (β:=Unit ⊕ Bool) (body:=fun i16 s15=>
   (ix a i16).bind fun x25=>
   (ix b i16).bind fun x32=>
   if(x25 !=x32)=true then(
   some (.out (.inr false)))else(
   some (.go ()))) (stop:=fun s15=>.inl ()) (m:=a.length) (i0:=0) (s0:=()) (fun k _=>a.take k=b.take k)
   (fun r=>Sum.elim (fun _=>a=b) (fun r=>r=false∧a≠b) r) (by simp)
   (by
     rintro k s hk hI;have hk2:k<b.length:=by omega
     rw[Int.zero_add];simp only[zbB hk,zbB hk2,Option.bind_some];by_cases he:a[k]=b[k]
     ·exact .inl ⟨(),by simp[he],zwY hk hk2 hI he⟩
     ·exact .inr ⟨.inr false,by simp[he],rfl,fun h=>by subst h;exact he rfl⟩)
   (by
     rintro s hI;rw[List.take_length,hl,List.take_length]at hI
     exact hI)
  rw[hb,Option.bind_some];cases r with
  |inl u=>have hp:a=b:=hp;simp[hp]
  |inr r=>
   obtain⟨h1,h2⟩:r=false∧a≠b:=hp;simp[h1,h2]
 have e:((a.length:Int) !=(b.length:Int))=true:=by simp;omega
 have:a≠b:=fun h=>hl (by rw[h])
 simp[e,this]
theorem zdV(a b c:Int):zaD a b c=some (decide (b≤a)&&decide (a≤c)):=by
 unfold zaD;by_cases h:b≤a<;>simp[h]
theorem ziL(a b c:Int):zbc a b c=some (decide (b≤a)&&decide (a≤c)):=by
 unfold zbc;by_cases h:b≤a<;>simp[h]
theorem zof(a:Int):zfH a=some (decide (2≤a)&&decide (a≤2000000000)):=by
 unfold zfH;rw[zdV];rfl
theorem zdA(a b:Nat):(a:Int).tmod (b:Int)=((a%b:Nat):Int):=by rw[Int.tmod_eq_emod_of_nonneg (by omega)];exact(Int.natCast_emod _ _).symm
theorem zwV(a b:Nat):(a:Int).tdiv (b:Int)=((a/b:Nat):Int):=by rw[Int.tdiv_eq_ediv_of_nonneg (by omega)];exact(Int.natCast_ediv _ _).symm
theorem zhu(a b:Nat):(a:Int)*(b:Int)=((a*b:Nat):Int):=(Int.natCast_mul _ _).symm
theorem zAw(he:e≤9223372036854775807):i64.wrap (BitVec.ofInt IntKind.i64.bits (e:Int)&&&BitVec.ofInt IntKind.i64.bits 1).toNat=((e%2:Nat):Int):=by
 have h1:(BitVec.ofInt IntKind.i64.bits (e:Int)&&&BitVec.ofInt IntKind.i64.bits 1).toNat=e%2:=by
  rw[BitVec.toNat_and]
  have a1:(BitVec.ofInt IntKind.i64.bits (e:Int)).toNat=e:=by
   rw[BitVec.toNat_ofInt];have:IntKind.i64.bits=64:=rfl;rw[this];omega
  have a2:(BitVec.ofInt IntKind.i64.bits 1).toNat=1:=by decide
  rw[a1,a2,Nat.and_one_is_mod]
 rw[h1,zah (by omega) (by omega)]
theorem zAW{a m:Nat}(ha:a≤2000000000)(hm:1≤m)(hm2:m≤2000000000)(he:e≤9223372036854775807):ze8 (a:Int) (e:Int) (m:Int)=some ((a^e%m:Nat):Int):=by
 unfold ze8
 refine zaj (zak (by omega) (zae (φ:=(· =((a^e%m:Nat):Int))) (zej (φ:=(· =((a^e%m:Nat):Int))) (fun s=>∃x y o:Nat,s=((x:Int),(y:Int),(o:Int))∧x≤2000000000∧y≤e∧o<m∧o*x^y%m=a^e%m) (fun s=>s.2.1.toNat)
  ⟨a,e,1%m,by rw[show(1:Int)=((1:Nat):Int)from rfl,zdA],ha,Nat.le_refl _,Nat.mod_lt _ (by omega),by rw[Nat.mod_mul_mod,Nat.one_mul]⟩ ?_) fun x hx=>zab hx))
 rintro s ⟨x,y,o,rfl,hx,hy,ho,hi⟩;refine zan (fun h0=>?_) fun h0=>?_
 ·have h0:0<y:=by simpa using h0
  have hox:o*x≤4000000000000000000:=Nat.le_trans (Nat.mul_le_mul (show o≤2000000000 by omega) hx) (by decide);have hxx:x*x≤4000000000000000000:=Nat.le_trans (Nat.mul_le_mul hx hx) (by decide);refine zae (ψ:=fun o'=>∃k:Nat,o'=(k:Int)∧k<m∧k*(x*x)^(y/2)%m=a^e%m) ?_ ?_
  ·simp only[zAw (show y≤9223372036854775807 by omega)];refine zan (fun h1=>zak (by omega) (zab ⟨o*x%m,?_,Nat.mod_lt _ (by omega),?_⟩)) fun h1=>zab ⟨o,rfl,ho,?_⟩
   ·rw[zhu,zah (by omega) (by omega),zdA]
   ·have h1:y%2=1:=by
     have:((y%2:Nat):Int)=1:=by simpa using h1
     omega
    rw[Nat.mod_mul_mod,←hi,←Nat.pow_two,←Nat.pow_mul,Nat.mul_assoc,←Nat.pow_succ'];congr 3;omega
   have h1:y%2=0:=by
    have:¬((y%2:Nat):Int)=1:=by simpa using h1
    omega
   rw[←hi,←Nat.pow_two,←Nat.pow_mul];congr 3;omega
  rintro o' ⟨k,rfl,hk,hk2⟩;refine zak (by omega) (zab ⟨⟨x*x%m,y/2,k,?_,by have:=Nat.mod_lt (x*x) (show 0<m by omega);omega,by omega,hk,?_⟩,?_⟩)
  ·rw[zhu,zah (by omega) (by omega),zdA];have e3:(y:Int).fdiv 2=((y/2:Nat):Int):=by rw[Int.fdiv_eq_ediv_of_nonneg _ (by omega)];rfl
   show(_,(y:Int).fdiv 2,_)=_;rw[e3]
  ·rw[Nat.mul_mod,←Nat.pow_mod,←Nat.mul_mod];exact hk2
  show((y:Int).fdiv 2).toNat<(y:Int).toNat;rw[Int.fdiv_eq_ediv_of_nonneg _ (by omega)];omega
 have h0:y=0:=by
  have:¬(0<y):=by simpa using h0
  omega
 subst h0;refine zab ?_;show(o:Int)=_;rw[Nat.pow_zero,Nat.mul_one,Nat.mod_eq_of_lt ho]at hi;rw[hi]
theorem zyL{a m:Nat}(ha:a≤2000000000)(hm:1≤m)(hm2:m≤2000000000)(he:e≤9223372036854775807):zcm (a:Int) (e:Int) (m:Int)=some ((a^e%m:Nat):Int):=by
 unfold zcm
 refine zaj (zak (by omega) (zae (φ:=(· =((a^e%m:Nat):Int))) (zej (φ:=(· =((a^e%m:Nat):Int))) (fun s=>∃x y o:Nat,s=((x:Int),(y:Int),(o:Int))∧x≤2000000000∧y≤e∧o<m∧o*x^y%m=a^e%m) (fun s=>s.2.1.toNat)
  ⟨a,e,1%m,by rw[show(1:Int)=((1:Nat):Int)from rfl,zdA],ha,Nat.le_refl _,Nat.mod_lt _ (by omega),by rw[Nat.mod_mul_mod,Nat.one_mul]⟩ ?_) fun x hx=>zab hx))
 rintro s ⟨x,y,o,rfl,hx,hy,ho,hi⟩;refine zan (fun h0=>?_) fun h0=>?_
 ·have h0:0<y:=by simpa using h0
  have hox:o*x≤4000000000000000000:=Nat.le_trans (Nat.mul_le_mul (show o≤2000000000 by omega) hx) (by decide);have hxx:x*x≤4000000000000000000:=Nat.le_trans (Nat.mul_le_mul hx hx) (by decide);have e2:(y:Int).tmod 2=((y%2:Nat):Int):=zdA y 2;refine zae (ψ:=fun o'=>∃k:Nat,o'=(k:Int)∧k<m∧k*(x*x)^(y/2)%m=a^e%m) ?_ ?_
  ·simp only[e2];refine zan (fun h1=>zak (by omega) (zab ⟨o*x%m,?_,Nat.mod_lt _ (by omega),?_⟩)) fun h1=>zab ⟨o,rfl,ho,?_⟩
   ·rw[zhu,zah (by omega) (by omega),zdA]
   ·have h1:y%2=1:=by
     have:((y%2:Nat):Int)=1:=by simpa using h1
     omega
    rw[Nat.mod_mul_mod,←hi,←Nat.pow_two,←Nat.pow_mul,Nat.mul_assoc,←Nat.pow_succ'];congr 3;omega
   have h1:y%2=0:=by
    have:¬((y%2:Nat):Int)=1:=by simpa using h1
    omega
   rw[←hi,←Nat.pow_two,←Nat.pow_mul];congr 3;omega
  rintro o' ⟨k,rfl,hk,hk2⟩;have e3:(y:Int).tdiv 2=((y/2:Nat):Int):=zwV y 2;refine zak (by omega) (zab ⟨⟨x*x%m,y/2,k,?_,by have:=Nat.mod_lt (x*x) (show 0<m by omega);omega,by omega,hk,?_⟩,?_⟩)
  ·simp only[e3];rw[zhu,zah (n:=((x*x:Nat):Int)) (by omega) (by omega),zdA,zah (n:=((y/2:Nat):Int)) (by omega) (by omega)]
  ·rw[Nat.mul_mod,←Nat.pow_mod,←Nat.mul_mod];exact hk2
  show(i64.wrap ((y:Int).tdiv 2)).toNat<(y:Int).toNat;rw[e3,zah (by omega) (by omega)];omega
 have h0:y=0:=by
  have:¬(0<y):=by simpa using h0
  omega
 subst h0;refine zab ?_;show(o:Int)=_;rw[Nat.pow_zero,Nat.mul_one,Nat.mod_eq_of_lt ho]at hi;rw[hi]
theorem zwe(h0:0<q)(h1:q≤2000000000):zhJ a q=some (a%q):=by
 unfold zhJ;rw[zcB (by omega),zcB (by omega)];have b1:a.tmod q<q:=Int.tmod_lt_of_pos a h0
 have b2: -q<a.tmod q:=by
  have:=Int.lt_tmod_of_pos a h0;omega
 rw[zah (by omega) (by omega),Int.tmod_eq_emod_of_nonneg (by omega)];congr 1;rw[Int.add_emod_right];rw[Int.tmod_def,Int.sub_emod,Int.mul_emod_right,Int.sub_zero,Int.emod_emod]
theorem znw(h0:0<q)(h1:q≤2000000000):ze0 a q=some (a%q):=by
 unfold ze0;rw[zcB (by omega),zcB (by omega)];have b1:a.tmod q<q:=Int.tmod_lt_of_pos a h0
 have b2: -q<a.tmod q:=by
  have:=Int.lt_tmod_of_pos a h0;omega
 rw[zah (by omega) (by omega),Int.tmod_eq_emod_of_nonneg (by omega)];congr 1;rw[Int.add_emod_right];rw[Int.tmod_def,Int.sub_emod,Int.mul_emod_right,Int.sub_zero,Int.emod_emod]
def Pr(n:Nat):Prop:=2≤n∧∀d,2≤d→d*d≤n→n%d≠0
open Classical in
noncomputable def prB(n:Int):Bool:=decide (Pr n.toNat)
theorem zhd{n:Nat}:prB (n:Int)=true↔Pr n:=by simp[prB]
theorem zmp(n:Int)(h:n≤2000000000):zeC n=some (prB n):=by
 unfold zeC;refine zaj (zan (fun h0=>zab ?_) fun h0=>?_)
 ·have h0:n<2:=by simpa using h0
  symm;unfold prB;rw[decide_eq_false_iff_not];intro hp;have:=hp.1;omega
 have h0:¬n<2:=by simpa using h0
 obtain⟨n,rfl⟩:=Int.eq_ofNat_of_zero_le (show 0≤n by omega);refine zae (ψ:=fun b=>(b=.inl ()∧Pr n)∨(b=.inr false∧¬Pr n)) (zej (fun s=>∃d:Nat,s=(d:Int)∧2≤d∧d≤44723∧∀k,2≤k→k<d→k*k≤n→n%k≠0) (fun s=>50000-s.toNat) ⟨2,rfl,by omega,by omega,fun k h1 h2=>by omega⟩ ?_) ?_
 ·rintro s ⟨d,rfl,hd,hd2,hi⟩;have hdd:d*d≤2000146729:=Nat.le_trans (Nat.mul_le_mul hd2 hd2) (by decide);rw[zhu,zah (by omega) (by omega)];refine zan (fun h1=>zak (by omega) (zan (fun h2=>zab (.inr ⟨rfl,?_⟩)) fun h2=>zab ?_)) fun h1=>zab (.inl ⟨rfl,by omega,fun k hk hkn=>?_⟩)
  ·have h1:d*d≤n:=by have:=of_decide_eq_true h1;omega
   rw[zdA]at h2
   have h2 : n % d = 0 := by have:((n%d:Nat):Int)=0:=by simpa using h2
                             omega
   exact fun hp=>hp.2 d hd h1 h2
  ·have h1:d*d≤n:=by have:=of_decide_eq_true h1;omega
   rw[zdA]at h2
   have h2 : n % d ≠ 0 := by have:¬((n%d:Nat):Int)=0:=by simpa using h2
                             omega
   have hd3:d≤44722:=by
    rcases Nat.lt_or_ge d 44723 with h|h
    ·omega
    ·have:44723*44723≤d*d:=Nat.mul_le_mul h h;omega
   rw[zah (by omega) (by omega)];refine⟨⟨d+1,rfl,by omega,by omega,fun k h3 h4 h5=>?_⟩,by omega⟩;rcases Nat.lt_or_ge k d with h|h
   ·exact hi k h3 h h5
   have:k=d:=by omega
   subst this;exact h2
  have h1:n<d*d:=by have:=of_decide_eq_false h1;omega
  rcases Nat.lt_or_ge k d with h|h
  ·exact hi k hk h hkn
  have:=Nat.mul_le_mul h h;omega
 rintro b (⟨rfl,hp⟩|⟨rfl,hp⟩)
 ·exact zab (zhd.2 hp).symm
 refine zab ?_;symm;unfold prB;rw[decide_eq_false_iff_not];exact hp
theorem zqP(n:Int):zfD n=some (decide (n≤2000000000)&&prB n):=by
 unfold zfD;by_cases h:2≤n∧n≤2000000000
 ·obtain⟨n,rfl⟩:=Int.eq_ofNat_of_zero_le (show 0≤n by omega);have e2:((n:Int)).tmod 2=((n%2:Nat):Int):=zdA n 2;have em:(decide (2≤(n:Int))&&decide ((n:Int)≤2000000000))=true:=by simp only[Bool.and_eq_true,decide_eq_true_eq];exact h
  rw[show(decide ((n:Int)≤2000000000)&&prB (n:Int))=prB (n:Int)by simp[h.2]];refine zaj (zae (ψ:=fun b=>b=decide (n%2=0∧n≠2)) (zac (zof _) ?_) ?_)
  ·rw[em];refine zaB rfl ?_;rw[e2];refine zan (fun h1=>zab ?_) fun h1=>zab ?_
   ·have h1 : n % 2 = 0 := by have:((n%2:Nat):Int)=0:=by simpa using h1
                              omega
    have:((n:Int) !=2)=decide (n≠2):=by
     by_cases hn:n=2
     ·subst hn;rfl
     ·have hn':¬(n:Int)=2:=by omega
      simp[hn,hn']
    rw[this];simp[h1]
   have h1 : n % 2 ≠ 0 := by have:¬((n%2:Nat):Int)=0:=by simpa using h1
                             omega
   simp[h1]
  rintro b rfl;refine zan (fun h1=>zab ?_) fun h1=>?_
  ·have h1:=of_decide_eq_true h1;symm;unfold prB;rw[decide_eq_false_iff_not];intro hp;have hn:4≤n:=by omega
   exact hp.2 2 (by omega) hn h1.1
  have h1:=of_decide_eq_false h1;refine zae (ψ:=fun b=>(b=.inl ()∧Pr n)∨(b=.inr false∧¬Pr n)) (zej (fun s=>∃d:Nat,s=(d:Int)∧3≤d∧d%2=1∧d≤44725∧∀k,2≤k→k<d→k*k≤n→n%k≠0) (fun s=>50000-s.toNat) ⟨3,rfl,by omega,by omega,by omega,fun k h2 h3 h4=>?_⟩ ?_) ?_
  ·have:k=2:=by omega
   subst this;intro h5;exact h1 ⟨h5,by omega⟩
  ·rintro s ⟨d,rfl,hd,hodd,hd2,hi⟩;have hdd:d*d≤2000325625:=Nat.le_trans (Nat.mul_le_mul hd2 hd2) (by decide);rw[zhu,zah (by omega) (by omega)];refine zan (fun h1=>zak (by omega) (zan (fun h2=>zab (.inr ⟨rfl,?_⟩)) fun h2=>zab ?_)) fun h1=>zab (.inl ⟨rfl,by omega,fun k hk hkn=>?_⟩)
   ·have h1:d*d≤n:=by have:=of_decide_eq_true h1;omega
    rw[zdA]at h2
    have h2 : n % d = 0 := by have:((n%d:Nat):Int)=0:=by simpa using h2
                              omega
    exact fun hp=>hp.2 d (by omega) h1 h2
   ·have h3:d*d≤n:=by have:=of_decide_eq_true h1;omega
    rw[zdA]at h2
    have h2 : n % d ≠ 0 := by have:¬((n%d:Nat):Int)=0:=by simpa using h2
                              omega
    have hd3:d≤44722:=by
     rcases Nat.lt_or_ge d 44723 with h|h
     ·omega
     ·have:44723*44723≤d*d:=Nat.mul_le_mul h h;omega
    rw[zah (by omega) (by omega)];refine⟨⟨d+2,rfl,by omega,by omega,by omega,fun k h4 h5 h6 h7=>?_⟩,by omega⟩;rcases Nat.lt_or_ge k d with h|h
    ·exact hi k h4 h h6 h7
    rcases(show k=d∨k=d+1 by omega)with e|e
    ·subst e;exact h2 h7
    have h8:n%2=0:=by
     have a1:k∣n:=Nat.dvd_of_mod_eq_zero h7;have a2:2∣k:=Nat.dvd_of_mod_eq_zero (by omega);exact Nat.mod_eq_zero_of_dvd (Nat.dvd_trans a2 a1)
    have h9:2*2≤n:=by
     have:=Nat.mul_le_mul h4 h4;omega
    exact hi 2 (by omega) (by omega) h9 h8
   have h1:n<d*d:=by have:=of_decide_eq_false h1;omega
   rcases Nat.lt_or_ge k d with h|h
   ·exact hi k hk h hkn
   have:=Nat.mul_le_mul h h;omega
  rintro b (⟨rfl,hp⟩|⟨rfl,hp⟩)
  ·exact zab (zhd.2 hp).symm
  refine zab ?_;symm;unfold prB;rw[decide_eq_false_iff_not];exact hp
 have em:(decide (2≤n)&&decide (n≤2000000000))=false:=by
  rw[Bool.and_eq_false_iff,decide_eq_false_iff_not,decide_eq_false_iff_not];omega
 rw[zof,em];simp only[Option.bind_some,Bool.not_false,if_true];congr 1;symm;rw[Bool.and_eq_false_iff,decide_eq_false_iff_not];by_cases hn:n≤2000000000
 ·right;unfold prB;rw[decide_eq_false_iff_not];intro hp;have:=hp.1;omega
 exact .inl hn
structure OkG (gr:Group):Prop where
 p:3≤gr.P∧gr.P≤2000000000
 q:2≤gr.Q∧gr.Q≤gr.P-1
 d:(gr.P.toNat-1)%gr.Q.toNat=0
 g:2≤gr.G∧gr.G≤gr.P-1
 pp:Pr gr.P.toNat
 pq:Pr gr.Q.toNat
 o:gr.G.toNat^gr.Q.toNat%gr.P.toNat=1
open Classical in
noncomputable def okG(gr:Group):Bool:=decide (OkG gr)
theorem zjV :okG gr=true↔OkG gr:=by simp[okG]
theorem zhH(h:¬OkG gr):okG gr=false:=by simp[okG,h]
theorem zxd{b:Bool}(h1:b=true→OkG gr)(h2:OkG gr→b=true):b=okG gr:=by
 cases hb:b with
 |true=>exact(zjV.2 (h1 hb)).symm
 |false=>exact(zhH fun h=>by rw[h2 h]at hb;cases hb).symm
theorem zeW(h:0≤a):a=((a.toNat:Nat):Int):=by omega
theorem zh2{e:Int}(ha:0≤a)(ha2:a≤2000000000)(hm:1≤m)(hm2:m≤2000000000)(he:0≤e)(he2:e≤9223372036854775807):ze8 a e m=some ((a.toNat^e.toNat%m.toNat:Nat):Int)∧zcm a e m=some ((a.toNat^e.toNat%m.toNat:Nat):Int):=by
 have h1:=zAW (a:=a.toNat) (e:=e.toNat) (m:=m.toNat) (by omega) (by omega) (by omega) (by omega);have h2:=zyL (a:=a.toNat) (e:=e.toNat) (m:=m.toNat) (by omega) (by omega) (by omega) (by omega);rw[←zeW ha,←zeW he,←zeW (show 0≤m by omega)]at h1 h2;exact⟨h1,h2⟩
theorem zla{a b:Bool}:(a&&b)=true↔a=true∧b=true:=by simp
theorem zo5(gr:Group):zcl gr=some (okG gr):=by
 unfold zcl;refine zaj (zae (ψ:=fun b=>b=okG gr) ?_ fun b hb=>zab hb);refine zac (zdV _ _ _) (zan (fun h=>?_) fun h=>?_)
 ·have hp:3≤gr.P∧gr.P≤2000000000:=by simpa using h
  rw[zah (n:=gr.P-1) (by omega) (by omega)];refine zac (zdV _ _ _) (zan (fun h=>?_) fun h=>?_)
  ·have hq:2≤gr.Q∧gr.Q≤gr.P-1:=by simpa using h
   have ed:(gr.P-1).tmod gr.Q=(((gr.P.toNat-1)%gr.Q.toNat:Nat):Int):=by
    rw[zeW (show 0≤gr.P-1 by omega),zeW (show 0≤gr.Q by omega),zdA];simp only[Int.toNat_natCast];congr 2;omega
   refine zak (by omega) ?_;rw[ed];refine zan (fun h=>?_) fun h=>?_
   ·have hd:(gr.P.toNat-1)%gr.Q.toNat=0:=by
     have:(((gr.P.toNat-1)%gr.Q.toNat:Nat):Int)=0:=by simpa using h
     omega
    refine zac (zdV _ _ _) (zan (fun h=>?_) fun h=>?_)
    ·have hg:2≤gr.G∧gr.G≤gr.P-1:=by simpa using h
     refine zac (zqP _) (zan (fun h=>?_) fun h=>?_)
     ·have hpp:Pr gr.P.toNat:=by
       rw[zla,zeW (show 0≤gr.P by omega),zhd]at h;exact h.2
      refine zac (zqP _) (zan (fun h=>?_) fun h=>?_)
      ·have hpq:Pr gr.Q.toNat:=by
        rw[zla,zeW (show 0≤gr.Q by omega),zhd]at h;exact h.2
       refine zac (zh2 (a:=gr.G) (e:=gr.Q) (m:=gr.P) (by omega) (by omega) (by omega) (by omega) (by omega) (by omega)).1 (zab (zxd (fun h=>⟨hp,hq,hd,hg,hpp,hpq,?_⟩) fun h=>?_))
       ·have:((gr.G.toNat^gr.Q.toNat%gr.P.toNat:Nat):Int)=1:=by simpa using h
        omega
       rw[h.o];rfl
      refine zab (zhH fun hk=>?_).symm
      have:(decide (gr.Q≤2000000000)&&prB gr.Q)=true:=by
       rw[zla,zeW (show 0≤gr.Q by omega),zhd];exact⟨by simp;omega,hk.pq⟩
      rw[this]at h;cases h
     refine zab (zhH fun hk=>?_).symm
     have:(decide (gr.P≤2000000000)&&prB gr.P)=true:=by
      rw[zla,zeW (show 0≤gr.P by omega),zhd];exact⟨by simp;omega,hk.pp⟩
     rw[this]at h;cases h
    refine zab (zhH fun hk=>?_).symm;have:=hk.g;simp at h;omega
   refine zab (zhH fun hk=>?_).symm;rw[hk.d]at h;cases h
  refine zab (zhH fun hk=>?_).symm;have:=hk.q;simp at h;omega
 refine zab (zhH fun hk=>?_).symm;have:=hk.p;simp at h;omega
theorem zks(gr:Group):zfl gr=some (okG gr):=by
 unfold zfl;refine zaj (zae (ψ:=fun b=>b=okG gr) ?_ fun b hb=>zab hb);refine zac (ziL _ _ _) (zan (fun h=>?_) fun h=>?_)
 ·have hp:3≤gr.P∧gr.P≤2000000000:=by simpa using h
  rw[zah (n:=gr.P-1) (by omega) (by omega)];refine zac (ziL _ _ _) (zan (fun h=>?_) fun h=>?_)
  ·have hq:2≤gr.Q∧gr.Q≤gr.P-1:=by simpa using h
   have ed:(gr.P-1).tmod gr.Q=(((gr.P.toNat-1)%gr.Q.toNat:Nat):Int):=by
    rw[zeW (show 0≤gr.P-1 by omega),zeW (show 0≤gr.Q by omega),zdA];simp only[Int.toNat_natCast];congr 2;omega
   refine zak (by omega) ?_;rw[ed];refine zan (fun h=>?_) fun h=>?_
   ·have hd:(gr.P.toNat-1)%gr.Q.toNat=0:=by
     have:(((gr.P.toNat-1)%gr.Q.toNat:Nat):Int)=0:=by simpa using h
     omega
    refine zac (ziL _ _ _) (zan (fun h=>?_) fun h=>?_)
    ·have hg:2≤gr.G∧gr.G≤gr.P-1:=by simpa using h
     refine zac (zh2 (a:=gr.G) (e:=gr.Q) (m:=gr.P) (by omega) (by omega) (by omega) (by omega) (by omega) (by omega)).2 (zan (fun h=>?_) fun h=>?_)
     ·have ho:gr.G.toNat^gr.Q.toNat%gr.P.toNat=1:=by
       have:((gr.G.toNat^gr.Q.toNat%gr.P.toNat:Nat):Int)=1:=by simpa using h
       omega
      refine zac (zmp _ (by omega)) (zan (fun h=>?_) fun h=>?_)
      ·have hpq:Pr gr.Q.toNat:=by
        rw[zeW (show 0≤gr.Q by omega),zhd]at h;exact h
       refine zac (zmp _ (by omega)) (zab (zxd (fun h=>⟨hp,hq,hd,hg,?_,hpq,ho⟩) fun h=>?_))
       ·rw[zeW (show 0≤gr.P by omega),zhd]at h;exact h
       rw[zeW (show 0≤gr.P by omega),zhd];exact h.pp
      refine zab (zhH fun hk=>?_).symm
      have:prB gr.Q=true:=by
       rw[zeW (show 0≤gr.Q by omega),zhd];exact hk.pq
      rw[this]at h;cases h
     refine zab (zhH fun hk=>?_).symm;rw[hk.o]at h;cases h
    refine zab (zhH fun hk=>?_).symm;have:=hk.g;simp at h;omega
   refine zab (zhH fun hk=>?_).symm;rw[hk.d]at h;cases h
  refine zab (zhH fun hk=>?_).symm;have:=hk.q;simp at h;omega
 refine zab (zhH fun hk=>?_).symm;have:=hk.p;simp at h;omega
def zaq(gr:Group)(x:Int):Bool:=decide (1≤x)&&decide (x≤gr.P-1)&&decide (x.toNat^gr.Q.toNat%gr.P.toNat=1)
def zdU(gr:Group)(x:Int):Bool:=decide (0≤x)&&decide (x≤gr.Q-1)
theorem zpg(k:OkG gr)(x:Int):zcz gr x=some (zaq gr x):=by
 have hp:=k.p;have hq:=k.q;unfold zcz zaq;rw[zah (n:=gr.P-1) (by omega) (by omega),zdV];refine zaj (zae (ψ:=fun b=>b=_) ?_ fun b hb=>zab hb);refine zac rfl (zan (fun h=>?_) fun h=>?_)
 ·have hx:1≤x∧x≤gr.P-1:=by simpa using h
  refine zac (zh2 (a:=x) (e:=gr.Q) (m:=gr.P) (by omega) (by omega) (by omega) (by omega) (by omega) (by omega)).1 (zab ?_);rw[h,Bool.true_and];by_cases h1:x.toNat^gr.Q.toNat%gr.P.toNat=1
  ·simp[h1]
  have:¬((x.toNat^gr.Q.toNat%gr.P.toNat:Nat):Int)=1:=by omega
  rw[beq_false_of_ne this,decide_eq_false h1]
 rw[h];exact zab rfl
theorem zrz(k:OkG gr)(l:List Int):ze4 gr l=some (l.all (zaq gr)):=by
 have hp:=k.p;have hq:=k.q;unfold ze4;rw[zah (n:=gr.P-1) (by omega) (by omega)];refine zaj (zae (ψ:=fun b=>(b=.inl ()∧l.all (zaq gr)=true)∨(b=.inr false∧l.all (zaq gr)=false)) (za3 (fun i s=>(l.take i).all (zaq gr)=true) rfl ?_ ?_) ?_)
 ·rintro i s hi hI;refine zaK hi (zae (ψ:=fun b=>b= !zaq gr l[i]) ?_ ?_)
  ·refine zac (ziL _ _ _) (zan (fun h=>zab ?_) fun h=>?_)
   ·have h:(decide (1≤l[i])&&decide (l[i]≤gr.P-1))=false:=by rwa [Bool.not_eq_true']at h
    simp[zaq,h]
   have h:(decide (1≤l[i])&&decide (l[i]≤gr.P-1))=true:=by simpa using h
   have hx:1≤l[i]∧l[i]≤gr.P-1:=by simpa using h
   refine zac (zh2 (a:=l[i]) (e:=gr.Q) (m:=gr.P) (by omega) (by omega) (by omega) (by omega) (by omega) (by omega)).2 (zab ?_);simp only[zaq,h,Bool.true_and];by_cases h1:l[i].toNat^gr.Q.toNat%gr.P.toNat=1
   ·simp[h1]
   have:¬((l[i].toNat^gr.Q.toNat%gr.P.toNat:Nat):Int)=1:=by omega
   simp only[bne,beq_false_of_ne this,decide_eq_false h1]
  rintro b rfl;refine zan (fun h=>zab (.inr ⟨rfl,?_⟩)) fun h=>zab ?_
  ·have h:zaq gr l[i]=false:=by simpa using h
   rw[List.all_eq_false];exact⟨l[i],List.getElem_mem hi,by simp[h]⟩
  have h:zaq gr l[i]=true:=by simpa using h
  show(l.take (i+1)).all (zaq gr)=true;rw[List.take_succ_eq_append_getElem hi,List.all_append,hI];simp[h]
 ·rintro s hI;rw[List.take_length]at hI;exact .inl ⟨rfl,hI⟩
 rintro b (⟨rfl,h⟩|⟨rfl,h⟩)
 ·exact zab h.symm
 exact zab h.symm
theorem zuD(l:List Int)(a b:Int):zes l a b=some (l.all fun x=>decide (a≤x)&&decide (x≤b)):=by
 unfold zes;refine zaj (zae (ψ:=fun c=>(c=.inl ()∧(l.all fun x=>decide (a≤x)&&decide (x≤b))=true)∨(c=.inr false∧(l.all fun x=>decide (a≤x)&&decide (x≤b))=false)) (za3 (fun i s=>((l.take i).all fun x=>decide (a≤x)&&decide (x≤b))=true) rfl ?_ ?_) ?_)
 ·rintro i s hi hI;refine zaK hi (zac (ziL _ _ _) (zan (fun h=>zab (.inr ⟨rfl,?_⟩)) fun h=>zab ?_))
  ·rw[List.all_eq_false];exact⟨l[i],List.getElem_mem hi,by rw[Bool.not_eq_true']at h;rw[h];simp⟩
  show((l.take (i+1)).all fun x=>decide (a≤x)&&decide (x≤b))=true;rw[List.take_succ_eq_append_getElem hi,List.all_append,hI];simpa using h
 ·rintro s hI;rw[List.take_length]at hI;exact .inl ⟨rfl,hI⟩
 rintro c (⟨rfl,h⟩|⟨rfl,h⟩)
 ·exact zab h.symm
 exact zab h.symm
theorem zn9(h:0≤gr.Q)(h2:gr.Q≤2000000000)(l:List Int):zer gr l=some (l.all (zdU gr)):=by
 unfold zer;rw[zah (by omega) (by omega),zuD];rfl
theorem zqB(h:0≤gr.Q)(h2:gr.Q≤2000000000)(x:Int):zc8 gr x=some (zdU gr x):=by
 unfold zc8;rw[zah (by omega) (by omega),zdV];rfl
def zao(gr:Group)(x e:Int):Int:=((x.toNat^(e%gr.Q).toNat%gr.P.toNat:Nat):Int)
theorem zfd(k:OkG gr)(x e:Int):0≤zao gr x e∧zao gr x e≤gr.P-1:=by
 have hp:=k.p;unfold zao;have:=Nat.mod_lt (x.toNat^(e%gr.Q).toNat) (y:=gr.P.toNat) (by omega);omega
theorem zk2(k:OkG gr)(h0:0≤x)(h1:x≤2000000000)(e:Int):zav gr x e=some (zao gr x e)∧zau gr x e=some (zao gr x e):=by
 have hp:=k.p;have hq:=k.q;have b1:0≤e%gr.Q:=Int.emod_nonneg _ (by omega);have b2:e%gr.Q<gr.Q:=Int.emod_lt_of_pos _ (by omega);have hw:=zh2 (a:=x) (e:=e%gr.Q) (m:=gr.P) (by omega) (by omega) (by omega) (by omega) b1 (by omega);unfold zav zau;rw[zwe (by omega) (by omega),znw (by omega) (by omega),Option.bind_some,Option.bind_some,hw.1,hw.2];exact⟨rfl,rfl⟩
theorem zxA(k:OkG gr)(h0:0≤x)(h1:x≤2000000000)(e:Int):zau gr x e=some (zao gr x e):=by
 have hp:=k.p;have hq:=k.q;have b1:0≤e%gr.Q:=Int.emod_nonneg _ (by omega);have b2:e%gr.Q<gr.Q:=Int.emod_lt_of_pos _ (by omega);have hw:=zh2 (a:=x) (e:=e%gr.Q) (m:=gr.P) (by omega) (by omega) (by omega) (by omega) b1 (by omega);unfold zau;rw[znw (by omega) (by omega),Option.bind_some,hw.2];rfl
def zcW(gr:Group)(l:List Int):Int:=l.foldl (fun o x=>o*x%gr.P) 1
theorem zrQ(h:1≤gr.P):∀(l:List Int) (o:Int),0≤o→o≤gr.P→(∀x∈l,0≤x)→0≤l.foldl (fun o x=>o*x%gr.P) o∧l.foldl (fun o x=>o*x%gr.P) o≤gr.P:=by
 intro l;induction l with
 |nil=>intro o h0 h1 _;exact⟨h0,h1⟩
 |cons x l ih=>
  intro o h0 h1 h2;exact ih _ (Int.emod_nonneg _ (by omega)) (Int.le_of_lt (Int.emod_lt_of_pos (o*x) (show 0<gr.P by omega))) fun y hy=>h2 y (List.mem_cons_of_mem _ hy)
theorem zCq(gr:Group)(l:List Int):zbC gr l=zaP gr l:=rfl
theorem znN(k:OkG gr)(hl:∀x∈l,0≤x∧x≤2000000000):zaP gr l=some (zcW gr l):=by
 have hp:=k.p;unfold zaP;refine zaj (zae (ψ:=fun b=>b=zcW gr l) (za3 (fun i s=>s=(l.take i).foldl (fun o x=>o*x%gr.P) 1) rfl ?_ ?_) fun b hb=>zab hb)
 ·rintro i s hi rfl;have hb:=zrQ (gr:=gr) (by omega) (l.take i) 1 (by omega) (by omega) fun x hx=>(hl x (List.mem_of_mem_take hx)).1
  have hx:=hl l[i] (List.getElem_mem hi);refine zaK hi (zak (by omega) (zab ?_));show _=(l.take (i+1)).foldl _ _;rw[List.take_succ_eq_append_getElem hi,List.foldl_append];generalize (l.take i).foldl (fun o x=>o*x%gr.P) 1=o at hb⊢;have b1:0≤o*l[i]:=Int.mul_nonneg hb.1 hx.1;have b2:o*l[i]≤2000000000*2000000000:=Int.mul_le_mul (by omega) hx.2 hx.1 (by omega);show(i64.wrap (o*l[i])).tmod gr.P=o*l[i]%gr.P;rw[zah (by omega) (by omega),Int.tmod_eq_emod_of_nonneg b1]
 rintro s rfl;rw[List.take_length];rfl
theorem zsi(k:OkG gr)(hl:∀x∈l,0≤x∧x≤2000000000):zbC gr l=some (zcW gr l):=by rw[zCq];exact znN k hl
theorem zzT(k:OkG gr)(hl:∀x∈l,0≤x∧x≤2000000000):0≤zcW gr l∧zcW gr l≤gr.P:=by
 have hp:=k.p;exact zrQ (by omega) l 1 (by omega) (by omega) fun x hx=>(hl x hx).1
theorem zmg(k:OkG gr)(l:List Int):zbV gr l=some (l.all (zaq gr)):=by
 unfold zbV zc7 zaO zaV;refine zaj (zae (ψ:=fun b=>b=l.all (zaq gr)) (zae (ψ:=fun b=>b= !l.all (zaq gr)) (zae (ψ:=fun j=>(j=-1∧l.all (zaq gr)=true)∨(0≤j∧l.all (zaq gr)=false)) (zae (ψ:=fun b=>(b=.inl ()∧l.all (zaq gr)=true)∨(∃j,b=.inr j∧0≤j∧l.all (zaq gr)=false)) (za3 (fun i s=>(l.take i).all (zaq gr)=true) rfl ?_ ?_) ?_) ?_) ?_) ?_)
 ·rintro i s hi hI
  have hc:zb0 l[i] gr=some (!zaq gr l[i]):=by
   unfold zb0;rw[zpg k];rfl
  refine zaK hi (zac hc (zan (fun h=>zab (.inr ⟨i,rfl,by omega,?_⟩)) fun h=>zab ?_))
  ·rw[List.all_eq_false];exact⟨l[i],List.getElem_mem hi,by rw[Bool.not_eq_true']at h;rw[h];simp⟩
  show(l.take (i+1)).all (zaq gr)=true;rw[List.take_succ_eq_append_getElem hi,List.all_append,hI];simpa using h
 ·rintro s hI;rw[List.take_length]at hI;exact .inl ⟨rfl,hI⟩
 ·rintro b (⟨rfl,h⟩|⟨j,rfl,h0,h⟩)
  ·exact zab (.inl ⟨rfl,h⟩)
  exact zab (.inr ⟨h0,h⟩)
 ·rintro j (⟨rfl,h⟩|⟨h0,h⟩)
  ·exact zab (by rw[h];rfl)
  exact zab (by rw[h];simpa using h0)
 ·rintro b rfl;exact zab (by simp)
 rintro b rfl;exact zab rfl
theorem ziN(h:zaq gr x=true):1≤x∧x≤gr.P-1:=by
 simp only[zaq,Bool.and_eq_true,decide_eq_true_eq]at h;exact h.1
theorem zqN(k:OkG gr)(hy:zaq gr y=true)(hm:zaq gr m=true)(r:Int):
 zb8 gr y m r=some (Cipher.mk (zao gr gr.G r) (zcW gr [m,zao gr y r]))∧zhU gr y m r=some (Cipher.mk (zao gr gr.G r) (zcW gr [m,zao gr y r])):=by
 have hp:=k.p;have hg:=k.g;have b1:=ziN hy;have b2:=ziN hm;have e1:=zk2 k (x:=gr.G) (by omega) (by omega) r;have e2:=zk2 k (x:=y) (by omega) (by omega) r
 have hl:∀x∈[m,zao gr y r],0≤x∧x≤2000000000:=fun x hx=>by
  simp only[List.mem_cons,List.not_mem_nil,or_false]at hx;rcases hx with rfl|rfl
  ·omega
  ·have:=zfd k y r;omega
 unfold zb8 zhU;rw[e1.1,e1.2,Option.bind_some,Option.bind_some,e2.1,e2.2,Option.bind_some,Option.bind_some,znN k hl,zsi k hl];exact⟨rfl,rfl⟩
theorem zl8{α:Type}(b:Bool)(u v:α):(if b=true then some u else some v)=some (if(!b)=true then v else u):=by cases b<;>rfl
theorem zvD{α:Type}(b:Bool)(u v:α):(if(!b)=true then some u else some v)=some (if b=true then v else u):=by cases b<;>rfl
theorem zkn{β:Type}{body:Int→Unit→Option (Stp Unit (Unit ⊕ β))}(m:Nat)(p:Nat→Bool)(val:Nat→β)(h:∀k,k<m→body (k:Int) ()=some (if p k=true then .go ()else .out (.inr (val k)))):
 (zar body (fun _=>.inl ()) m 0 ()=some (.inl ())∧∀k,k<m→p k=true)∨∃k,k<m∧p k=false∧(∀j,j<k→p j=true)∧zar body (fun _=>.inl ()) m 0 ()=some (.inr (val k)):=by
 have key:Rn (zar body (fun _=>Sum.inl ()) m 0 ()) (fun b=>(b=.inl ()∧∀k,k<m→p k=true)∨∃k,k<m∧p k=false∧(∀j,j<k→p j=true)∧b=.inr (val k)):=by
  refine za3 (fun k _=>∀j,j<k→p j=true) (fun j hj=>by omega) ?_ fun s hs=>.inl ⟨rfl,hs⟩
  intro k s hk hI;refine⟨_,h k hk,?_⟩;cases hp:p k with
  |true=>
   intro j hj;rcases Nat.lt_or_ge j k with h|h
   ·exact hI j h
   ·have:j=k:=by omega
    rw[this];exact hp
  |false=>exact .inr ⟨k,hk,hp,hI,rfl⟩
 obtain⟨b,e,h1|⟨k,h1,h2,h3,h4⟩⟩:=key
 ·exact .inl ⟨by rw[e,h1.1],h1.2⟩
 exact .inr ⟨k,h1,h2,h3,by rw[e,h4]⟩
theorem zzt{α:Type}(l:List α)(p:α→Bool)(c:Bool){body:Int→Unit→Option (Stp Unit (Unit ⊕ Bool))}(h:∀k (hk:k<l.length),body (k:Int) ()=some (if p l[k]=true then .go ()else .out (.inr c))):
 (zar body (fun _=>.inl ()) l.length 0 ()).bind (Sum.elim (fun _=>some (!c)) some)=some (if l.all p=true then !c else c):=by
 rcases zkn (body:=body) l.length (fun k=>(l[k]?).any p) (fun _=>c) (fun k hk=>by rw[h k hk,List.getElem?_eq_getElem hk];rfl)with⟨e,h1⟩|⟨k,h1,h2,h3,e⟩
 ·rw[e]
  have:l.all p=true:=by
   rw[List.all_eq_true];intro x hx;obtain⟨k,hk,rfl⟩:=List.mem_iff_getElem.1 hx;have:=h1 k hk;rw[List.getElem?_eq_getElem hk]at this;exact this
  rw[this];rfl
 rw[e]
 have:l.all p=false:=by
  rw[List.all_eq_false];refine⟨l[k],List.getElem_mem h1,?_⟩;rw[List.getElem?_eq_getElem h1]at h2;simpa using h2
 rw[this];rfl
theorem zuG(l:List Int)(x:Int):zgz l x=some (l.contains x):=by
 unfold zgz
 have:=zzt l (fun y=> !(y==x)) true (body:=fun i8 s7=>(ix l i8).bind fun x17=>if(x17==x)=true then some (.out (.inr true))else some (.go ())) fun k hk=>by
  rw[zbB hk,Option.bind_some];exact zl8 _ _ _
 rw[show(!true)=false from rfl]at this;refine this.trans ?_;congr 1;cases hc:l.contains x with
 |true=>
  have hm:x∈l:=by simpa using hc
  have:(l.all fun y=> !(y==x))=false:=by
   rw[List.all_eq_false];exact⟨x,hm,by simp⟩
  rw[this];rfl
 |false=>
  have hm:¬x∈l:=by simpa using hc
  have:(l.all fun y=> !(y==x))=true:=by
   rw[List.all_eq_true];intro y hy;have:y≠x:=fun e=>hm (e▸hy)
   simp[this]
  rw[this];rfl
theorem zzZ(l:List Int)(x:Int):(zcM l x=some (-1)∧¬x∈l)∨∃k,∃h:k<l.length,zcM l x=some (k:Int)∧l[k]=x∧∀j (hj:j<k),l[j]'(by omega)≠x:=by
 unfold zcM
 rcases zkn l.length (fun k=>(l[k]?).any fun y=> !(x==y)) (fun k=>(k:Int)) (body:=fun i8 s7=>(ix l i8).bind fun x17=>if(x==x17)=true then some (.out (.inr i8))else some (.go ())) (fun k hk=>by
  rw[zbB hk,Option.bind_some,List.getElem?_eq_getElem hk]
  exact zl8 _ _ _)with⟨e,h1⟩|⟨k,h1,h2,h3,e⟩
 ·refine .inl ⟨by rw[e];rfl,fun hx=>?_⟩;obtain⟨k,hk,rfl⟩:=List.mem_iff_getElem.1 hx;have:=h1 k hk;rw[List.getElem?_eq_getElem hk]at this;simp at this
 refine .inr ⟨k,h1,by rw[e];rfl,?_,fun j hj=>?_⟩
 ·rw[List.getElem?_eq_getElem h1]at h2;simp at h2;exact h2.symm
 have:=h3 j hj;rw[List.getElem?_eq_getElem (by omega)]at this;simp at this;exact fun e=>this e.symm
theorem zu0(l:List Int)(x:Int):zcU l x=some (l.contains x):=by
 unfold zcU;rcases zzZ l x with⟨e,h⟩|⟨k,hk,e,h,_⟩
 ·rw[e];have:l.contains x=false:=by simpa using h
  rw[this];rfl
 rw[e]
 have:l.contains x=true:=by
  have:=List.getElem_mem hk;rw[h]at this;simpa using this
 rw[this];simp
open Classical in
noncomputable def zjM(l:List Int):Bool:=decide l.Nodup
theorem zs9{C:List Int→Int→Option Bool}(hC:∀l x,C l x=some (l.contains x))(l:List Int)(hl:l.length≤1000000000000):
 ((zar (σ:=Unit) (fun i5 s4=>
 (ix l i5).bind fun x11=>
 gd (0≤i5)<|
 gd (0≤i5.toNat∧i5.toNat≤l.length)<|
 (C ((l.take i5.toNat).drop 0) x11).bind fun z12=>
 if z12=true then(
 some (.out (.inr false)))else(
 some (.go ()))) (fun s4=>.inl ()) (l.length) 0 ():Option (Unit ⊕ Bool)).bind (Sum.elim (fun x3=>
 some true) some))=some (zjM l):=by
 rcases zkn l.length (fun k=>(l[k]?).any fun y=> !(l.take k).contains y) (fun _=>false) (body:=fun i8 s7=>
  (ix l i8).bind fun x17=>
  gd (0≤i8)<|
  gd (0≤i8.toNat∧i8.toNat≤l.length)<|
  (C ((l.take i8.toNat).drop 0) x17).bind fun z26=>
  if z26=true then(
  some (.out (.inr false)))else(
  some (.go ()))) (fun k hk=>by
   rw[zbB hk,Option.bind_some,zcB (by omega),zcB (by simp;omega),hC,List.getElem?_eq_getElem hk,Option.bind_some,Int.toNat_natCast,List.drop_zero]
   exact zl8 _ _ _)with⟨e,h1⟩|⟨k,h1,h2,h3,e⟩
 ·rw[e]
  have:zjM l=true:=by
   unfold zjM;rw[decide_eq_true_eq,List.nodup_iff_pairwise_ne,List.pairwise_iff_getElem];intro i j hi hj hij e;have:=h1 j hj;rw[List.getElem?_eq_getElem hj]at this
   have hm:l[j]∈l.take j:=by
    rw[←e];exact List.mem_iff_getElem.2 ⟨i,by simp;omega,by simp⟩
   have hc:(l.take j).contains l[j]=true:=by simpa using hm
   simp only[Option.any_some,hc]at this;cases this
  rw[this];rfl
 rw[e]
 have:zjM l=false:=by
  unfold zjM;rw[decide_eq_false_iff_not,List.nodup_iff_pairwise_ne,List.pairwise_iff_getElem];intro hd;rw[List.getElem?_eq_getElem h1]at h2;have hc:(l.take k).contains l[k]=true:=by simpa using h2
  have hm:l[k]∈l.take k:=by simpa using hc
  obtain⟨i,hi,e⟩:=List.mem_iff_getElem.1 hm;simp at hi e;exact hd i k (by omega) h1 (by omega) e
 rw[this];rfl
theorem zCM(l:List Int)(hl:l.length≤1000000000000):zeR l=some (zjM l):=zs9 zu0 l hl
theorem ziR{p:Int→Bool}{f:Int→Option Bool}(hf:∀x∈l,f x=some (!p x)):
 ((((zar (σ:=Unit) (β:=Unit ⊕ Int) (fun i8 s7=>(ix l i8).bind fun x17=>(f x17).bind fun z20=>if z20=true then(some (.out (.inr i8)))else(some (.go ()))) (fun s7=>.inl ()) (l.length) 0 ():Option (Unit ⊕ Int)).bind (Sum.elim (fun(x5:Unit)=>some (-1)) some)).bind fun z1=>some (decide (0≤z1))).bind fun z1=>some (!z1))=some (l.all p):=by
 rcases zkn l.length (fun k=>(l[k]?).any p) (fun k=>(k:Int)) (body:=fun i8 s7=>(ix l i8).bind fun x17=>(f x17).bind fun z20=>if z20=true then(some (.out (.inr i8)))else(some (.go ()))) (fun k hk=>by
  rw[zbB hk,Option.bind_some,hf _ (List.getElem_mem hk),Option.bind_some,List.getElem?_eq_getElem hk]
  exact zvD _ _ _)with⟨e,h1⟩|⟨k,h1,h2,h3,e⟩
 ·rw[e]
  have:l.all p=true:=by
   rw[List.all_eq_true];intro x hx;obtain⟨k,hk,rfl⟩:=List.mem_iff_getElem.1 hx;have:=h1 k hk;rw[List.getElem?_eq_getElem hk]at this;exact this
  rw[this];rfl
 rw[e]
 have:l.all p=false:=by
  rw[List.all_eq_false];refine⟨l[k],List.getElem_mem h1,?_⟩;rw[List.getElem?_eq_getElem h1]at h2;simpa using h2
 rw[this];simp
def dg(q:Nat):Nat→Nat→List Int
 |0,_=>[]
 |k+1,n=>((n%q:Nat):Int)::dg q k (n/q)
theorem zBS(q a:Int):(a%q)%q=a%q:=Int.emod_emod_of_dvd a (Int.dvd_refl q)
theorem zty(k:OkG gr)(c:Cipher):zdP gr c=some (zaq gr c.A&&zaq gr c.B):=by
 unfold zdP;rw[zpg k,zpg k];cases zaq gr c.A<;>simp
theorem zxE(k:OkG gr)(m:Int):ze4 gr [m]=some (zaq gr m):=by
 rw[zrz k];simp
theorem zju(h:0≤gr.Q)(h2:gr.Q≤2000000000)(l:List Int):zaM gr l=some (l.all (zdU gr)):=by
 have h1:zcI l gr=some (l.all (zdU gr)):=ziR (f:=fun x=>zbK x gr) fun x _=>by
  unfold zbK;rw[zqB h h2];rfl
 unfold zaM;rw[h1];rfl
theorem zlD{a n:Nat}(h:a^n%p=1):a^(e%n)%p=a^e%p:=by
 have hp:1%p=1:=by rw[←h,Nat.mod_mod]
 conv=>rhs;rw[←Nat.div_add_mod e n]
 rw[Nat.pow_add,Nat.pow_mul,Nat.mul_mod,Nat.pow_mod (a^n),h,Nat.one_pow,hp,Nat.one_mul,Nat.mod_mod]
theorem zn4(h:zaq gr x=true):1≤x∧x≤gr.P-1∧x.toNat^gr.Q.toNat%gr.P.toNat=1:=by
 unfold zaq at h;simp only[Bool.and_eq_true,decide_eq_true_eq]at h;exact⟨h.1.1,h.1.2,h.2⟩
theorem zrV(k:OkG gr)(h:zaq gr x=true){s l:Int}(hs:0≤s)(hl:0≤l):zao gr (zao gr x s) l=zao gr x (s*l):=by
 obtain⟨_,_,h3⟩:=zn4 h;have hq:=k.q;obtain⟨a,rfl⟩:=Int.eq_ofNat_of_zero_le hs;obtain⟨b,rfl⟩:=Int.eq_ofNat_of_zero_le hl;obtain⟨n,hn⟩:=Int.eq_ofNat_of_zero_le (show 0≤gr.Q by omega);unfold zao;rw[hn]at h3⊢;rw[Int.toNat_natCast]at h3;have e:∀c:Nat,((c:Int)%(n:Int)).toNat=c%n:=fun c=>by rw[←Int.natCast_emod,Int.toNat_natCast]
 rw[zhu,e,e,e,Int.toNat_natCast,zlD h3,zlD h3,←Nat.pow_mod,←Nat.pow_mul];congr 1;rw[Nat.pow_mul,Nat.pow_mod,zlD (n:=n) (e:=b)]
 ·rw[←Nat.pow_mod,←Nat.pow_mul]
 rw[←Nat.pow_mod,←Nat.pow_mul,Nat.mul_comm,Nat.pow_mul,Nat.pow_mod,h3,Nat.one_pow,←h3,Nat.mod_mod]
structure Bt (code:List Int):Prop where
 b:∀x∈code,0≤x∧x≤255
 l:code.length≤1048576
structure Cu (code:List Int) (n:Int) (c:List Int×Int×Int):Prop where
 e:c.1=code
 lo:0≤c.2.1
 hi:c.2.1≤n
theorem Cu.mono{c:List Int×Int×Int}(h:Cu code n c)(hn:n≤m):Cu code m c:=⟨h.e,h.lo,Int.le_trans h.hi hn⟩
theorem zBB(x:BitVec IntKind.u64.bits):0≤i64.wrap (IntKind.u64.wrap ((x&&&BitVec.ofInt IntKind.u64.bits 255).toNat:Int))∧i64.wrap (IntKind.u64.wrap ((x&&&BitVec.ofInt IntKind.u64.bits 255).toNat:Int))≤255:=by
 have hy:(x&&&BitVec.ofInt IntKind.u64.bits 255).toNat≤255:=by
  rw[BitVec.toNat_and];exact Nat.le_trans Nat.and_le_right (by decide)
 generalize (x&&&BitVec.ofInt IntKind.u64.bits 255).toNat=y at hy⊢;rw[wrU (by omega) (by omega),zah (by omega) (by omega)];omega
theorem zwO(hb:Bt code)(h:Cu code n (c0,at_,seed))(hn:n≤9000000000000000):Rn (zcL c0 at_ seed) (fun z=>0≤z.1∧z.1≤255∧Cu code (n+1) z.2):=by
 obtain⟨h1,h2,h3⟩:=h;have h1:c0=code:=h1;have h2:0≤at_:=h2;have h3:at_≤n:=h3;subst h1;have hw:i64.wrap (at_+1)=at_+1:=zah (by omega) (by omega);unfold zcL;refine zae (ψ:=fun v=>0≤v∧v≤255) ?_ fun v hv=>?_
 ·refine zan (fun g=>?_) fun g=>zab (by omega)
  obtain⟨k,rfl⟩:=Int.eq_ofNat_of_zero_le h2;have hk:k<c0.length:=by simp at g;omega
  have:=hb.b _ (List.getElem_mem hk);exact zaK hk (zab (by rw[zah (by omega) (by omega)];exact this))
 simp only[hw];refine zan (fun g=>zab ⟨hv.1,hv.2,rfl,by show 0≤at_+1;omega,by show at_+1≤n+1;omega⟩) fun g=>zab ?_
 exact⟨(zBB _).1,(zBB _).2,rfl,by show 0≤at_+1;omega,by show at_+1≤n+1;omega⟩
theorem zdr(hb:Bt code)(h:Cu code n (c0,at_,seed))(hn:n≤8000000000000000):Rn (zag c0 at_ seed m) (fun z=>0≤z.1∧(m≤1→z.1=0)∧(1<m→z.1<m)∧z.1≤65535∧Cu code (n+2) z.2):=by
 unfold zag;refine zan (fun g=>zab ⟨Int.le_refl 0,fun _=>rfl,fun h=>by simp at g;omega,by show(0:Int)≤_;omega,h.mono (by omega)⟩) fun g=>?_
 have g:1<m:=by simpa using g
 refine zae (zwO hb h (by omega)) fun z ⟨z1,z2,z3⟩=>?_
 refine zae (ψ:=fun x=>0≤x.2∧x.2≤65535∧Cu code (n+2) x.1) ?_ fun x ⟨x1,x2,x3⟩=>?_
 ·refine zan (fun _=>zae (zwO hb z3 (by omega)) fun y ⟨y1,y2,y3⟩=>zab ?_) fun _=>zab ⟨z1,by show z.1≤_;omega,z3.mono (by omega)⟩
  rw[zah (n:=z.1*256) (by omega) (by omega),zah (by omega) (by omega)];exact⟨by show 0≤z.1*256+y.1;omega,by show z.1*256+y.1≤_;omega,y3.mono (by omega)⟩
 refine zak (by omega) (zab ?_);rw[Int.tmod_eq_emod_of_nonneg x1];have b1:=Int.emod_nonneg x.2 (show m≠0 by omega);have b2:=Int.emod_lt_of_pos x.2 (show 0<m by omega)
 have b3:x.2%m≤x.2:=by
  rcases Int.lt_or_le x.2 m with h|h
  ·rw[Int.emod_eq_of_lt x1 h];exact Int.le_refl _
  ·omega
 exact⟨b1,fun h=>by omega,fun _=>b2,by show x.2%m≤_;omega,x3⟩
theorem znP(hb:Bt code)(h:Cu code n (c0,at_,seed))(hn:n≤8000000000000000):Rn (zbk c0 at_ seed m) (fun z=>Cu code (n+2) z.2):=by
 unfold zbk;exact zae (zdr hb h hn) fun z hz=>zab hz.2.2.2.2
theorem zfk(hb:Bt code)(h:Cu code n (c0,at_,seed))(hn:n≤8000000000000000)(hl:l≠[]):Rn (zal c0 at_ seed l) (fun z=>z.1∈l∧Cu code (n+2) z.2):=by
 unfold zal;refine zae (zdr hb h hn) fun z ⟨z1,z2,z3,z4,z5⟩=>?_
 have h0:0<l.length:=List.length_pos_iff.2 hl;obtain⟨k,hk⟩:=Int.eq_ofNat_of_zero_le z1
 have hlt:k<l.length:=by
  rcases Nat.lt_or_ge 1 l.length with h|h
  ·have:=z3 (by omega);omega
  ·have:=z2 (by omega);omega
 rw[hk];exact zaK hlt (zab ⟨List.getElem_mem hlt,z5⟩)
theorem zx4{n d:Nat}(h:Pr n)(hd:d%n≠0):Nat.gcd n d=1:=by
 obtain⟨k,hk⟩:=Nat.gcd_dvd_left n d;have hn:=h.1;have h0:0<Nat.gcd n d:=Nat.gcd_pos_of_pos_left d (by omega);have hdv:=Nat.gcd_dvd_right n d;generalize Nat.gcd n d=g at hk h0 hdv;apply Classical.byContradiction;intro hg;have hg2:2≤g:=by omega
 have hk2:2≤k:=by
  rcases Nat.lt_or_ge k 2 with h|h
  ·have:k=0∨k=1:=by omega
   rcases this with rfl|rfl
   ·omega
   ·rw[Nat.mul_one]at hk;rw[←hk]at hdv;exact absurd (Nat.mod_eq_zero_of_dvd hdv) hd
  ·exact h
 rcases Nat.le_total g k with h'|h'
 ·exact h.2 g hg2 (by rw[hk];exact Nat.mul_le_mul_left g h') (by rw[hk];exact Nat.mul_mod_right g k)
 exact h.2 k hk2 (by rw[hk];exact Nat.mul_le_mul_right k h') (by rw[hk];exact Nat.mul_mod_left g k)
theorem zBo{n:Nat}(h:Pr n)(hab:(a*b)%(n:Int)=0):a%(n:Int)=0∨b%(n:Int)=0:=by
 have h1:n∣a.natAbs*b.natAbs:=by
  rw[←Int.natAbs_mul];exact Int.ofNat_dvd_left.1 (Int.dvd_of_emod_eq_zero hab)
 by_cases ha:a.natAbs%n=0
 ·exact .inl (Int.emod_eq_zero_of_dvd (Int.ofNat_dvd_left.2 (Nat.dvd_of_mod_eq_zero ha)))
 exact .inr (Int.emod_eq_zero_of_dvd (Int.ofNat_dvd_left.2 (Nat.Coprime.dvd_of_dvd_mul_left (zx4 h ha) h1)))
def evP(f:List Int)(x:Int):Int:=f.foldr (fun c a=>a*x+c) 0
theorem zrY(c:Int)(f:List Int)(x:Int):evP (c::f) x=evP f x*x+c:=rfl
def dvP(r:Int):List Int→List Int
 |[]=>[]
 |[_]=>[]
 |_::c::f=>evP (c::f) r::dvP r (c::f)
theorem zuu(r:Int):∀f:List Int,(dvP r f).length=f.length-1
 |[]=>rfl
 |[_]=>rfl
 |_::c::f=>by
  show(dvP r (c::f)).length+1=_;rw[zuu r (c::f)];simp
theorem zwv(r x:Int):∀f:List Int,evP f x=evP (dvP r f) x*(x-r)+evP f r
 |[]=>by simp[dvP,evP]
 |[c]=>by simp[dvP,evP]
 |d::c::f=>by
  have ih:=zwv r x (c::f);show evP (c::f) x*x+d=(evP (dvP r (c::f)) x*x+evP (c::f) r)*(x-r)+(evP (c::f) r*r+d);rw[ih];grind
theorem zsb(r:Int):∀f:List Int,2≤f.length→(dvP r f).getLastD 0=f.getLastD 0
 |[],h=>absurd h (by simp)
 |[_],h=>absurd h (by simp)
 |[d,c],_=>by simp[dvP,evP]
 |e::d::c::f,_=>by
  have ih:=zsb r (d::c::f) (by simp);show(evP (d::c::f) r::evP (c::f) r::dvP r (c::f)).getLastD 0=_;have:dvP r (d::c::f)=evP (c::f) r::dvP r (c::f):=rfl;rw[this]at ih;simpa[List.getLastD]using ih
theorem zw6{p:Nat}(hp:Pr p):∀(n:Nat) (f:List Int),f.length=n+1→f.getLastD 0%(p:Int)≠0→∀rs:List Int,rs.Pairwise (fun a b=>(b-a)%(p:Int)≠0)→(∀r∈rs,evP f r%(p:Int)=0)→rs.length≤n
 |0,f,hl,hf,rs,hd,hr=>by
  match f,hl with
  |[c],_=>
   cases rs with
   |nil=>simp
   |cons r rs=>
    have:=hr r (List.mem_cons_self ..);simp[evP]at this;exact absurd (by first|exact this|exact Int.emod_eq_zero_of_dvd this) (by simpa[List.getLastD]using hf)
 |n+1,f,hl,hf,rs,hd,hr=>by
  cases rs with
  |nil=>simp
  |cons r rs=>
   have h1:=List.pairwise_cons.1 hd
   have:=zw6 hp n (dvP r f) (by rw[zuu];omega) (by rw[zsb r f (by omega)];exact hf) rs h1.2 fun s hs=>by
    have e:=zwv r s f;have hs0:=hr s (List.mem_cons_of_mem _ hs);have hr0:=hr r (List.mem_cons_self ..)
    have hm:(evP (dvP r f) s*(s-r))%(p:Int)=0:=by
     rw[show evP (dvP r f) s*(s-r)=evP f s-evP f r by omega,Int.sub_emod,hs0,hr0];simp
    rcases zBo hp hm with h|h
    ·exact h
    ·exact absurd h (h1.1 s hs)
   simpa using this
theorem zy9(k:Nat)(x:Int):evP (List.replicate k 0++[1]) x=x^k:=by
 induction k with
 |zero=>simp[evP]
 |succ k ih=>rw[List.replicate_succ,List.cons_append,zrY,ih,Int.pow_succ];omega
theorem zoo{n:Nat}(hp:Pr p)(hn:1≤n)(rs:List Int)(hd:rs.Pairwise (fun a b=>(b-a)%(p:Int)≠0))(hr:∀r∈rs,r^n%(p:Int)=1):rs.length≤n:=by
 have h2:=hp.1;have hone:(1:Int)%(p:Int)=1:=Int.emod_eq_of_lt (by omega) (by omega);obtain⟨k,rfl⟩:∃k,n=k+1:=⟨n-1,by omega⟩
 refine zw6 hp (k+1) (-1::(List.replicate k 0++[1])) (by simp) ?_ rs hd fun r hr'=>?_
 ·have:(-1::(List.replicate k (0:Int)++[1])).getLastD 0=1:=by
   rw[←List.cons_append,List.getLastD_concat]
  rw[this,hone];omega
 rw[zrY,zy9,←Int.pow_succ,Int.add_emod,hr r hr']
 have:((-1:Int)%(p:Int))=p-1:=by
  have:=Int.add_mul_emod_self_left (-1) (p:Int) 1;rw[←this,Int.mul_one,Int.emod_eq_of_lt (by omega) (by omega)];omega
 rw[this,show 1+((p:Int)-1)=p by omega,Int.emod_self]
theorem zx5{n:Nat}(hp:Pr p)(hn:1≤n)(hnp:n<p-1):∃h:Nat,2≤h∧h<p∧h^n%p≠1:=by
 apply Classical.byContradiction;intro hc;have h2:=hp.1
 have h1:∀h:Nat,1≤h→h<p→h^n%p=1:=fun h a b=>by
  rcases Nat.lt_or_ge h 2 with c|c
  ·have:h=1:=by omega
   subst this;rw[Nat.one_pow,Nat.mod_eq_of_lt (by omega)]
  ·exact Classical.byContradiction fun d=>hc ⟨h,c,b,d⟩
 have:=zoo hp hn ((List.range (p-1)).map fun k=>((k+1:Nat):Int)) ?_ ?_
 ·simp at this;omega
 ·rw[List.pairwise_map];refine List.Pairwise.imp_of_mem ?_ List.pairwise_lt_range;intro a b ha hb hab;have hb:=List.mem_range.1 hb;rw[show((b+1:Nat):Int)-((a+1:Nat):Int)=((b-a:Nat):Int)by omega,←Int.natCast_emod,Nat.mod_eq_of_lt (by omega)];omega
 intro r hr;obtain⟨k,hk,rfl⟩:=List.mem_map.1 hr;have hk:=List.mem_range.1 hk;rw[←Int.natCast_pow,←Int.natCast_emod,h1 (k+1) (by omega) (by omega)];rfl
structure Gs (gr:Group):Prop where
 p:0≤gr.P∧gr.P≤2000000000
 q:0≤gr.Q∧gr.Q≤1000000000
 g:0≤gr.G∧gr.G≤2000000000
theorem zBF{q:Nat}(hq:2≤q):((1+(k:Int)*(q:Int))-1).tdiv (q:Int)=(k:Int):=by
 rw[show(1+(k:Int)*(q:Int))-1=(k:Int)*(q:Int)by omega,Int.mul_tdiv_cancel _ (by omega)]
theorem zok{q:Nat}(hq2:q≤1000000):Rn (zeX (q:Int)) (fun z=>Gs z.1∧(z.2=true→z.1.Q=q∧3≤z.1.P)∧(∀k:Nat,1≤k→Pr (1+k*q)→1+k*q≤2000000000→Pr q→z.2=true)):=by
 unfold zeX;refine zae (ψ:=fun b=>b= !(decide (2≤q)&&prB (q:Int))) ?_ ?_
 ·refine zac (ziL _ _ _) ?_;by_cases h:2≤q
  ·refine zaB (by simp;omega) (zac (zmp _ (by omega)) (zab ?_));simp[h]
  refine zee (by simp;omega) (zab ?_);simp[h]
 rintro _ rfl;cases hc:(decide (2≤q)&&prB (q:Int))
 ·refine zee rfl (zab ⟨⟨⟨by decide,by decide⟩,⟨by decide,by decide⟩,by decide,by decide⟩,fun h=>(by cases h),fun k h1 h2 h3 h4=>?_⟩);rw[zhd.2 h4]at hc;have:=h4.1;simp at hc;omega
 have hq:2≤q:=by simp at hc;exact hc.1
 have hpq:Pr q:=by simp at hc;exact zhd.1 hc.2
 refine zaB rfl ?_;refine zae (ψ:=fun b=>(b=.inl ()∧∀k:Nat,1≤k→Pr (1+k*q)→¬1+k*q≤2000000000)∨∃z:Group×Bool,b=.inr z∧Gs z.1∧z.2=true∧z.1.Q=q∧3≤z.1.P) ?_ ?_
 ·rw[zah (by omega) (by omega)];refine zej (fun s=>∃k:Nat,1≤k∧s=1+(k:Int)*(q:Int)∧s≤2001000001∧∀j:Nat,1≤j→j<k→¬Pr (1+j*q)) (fun s=>(2001000001-s).toNat) ⟨1,by omega,by omega,by omega,fun j h1 h2=>by omega⟩ ?_;rintro s ⟨k,hk,rfl,hs,hn⟩;have hkq:k*2≤k*q:=Nat.mul_le_mul_left k hq;have hkc:(k:Int)*(q:Int)=((k*q:Nat):Int):=zhu k q;refine zan (fun g=>?_) fun g=>?_
  ·have g:1+(k:Int)*(q:Int)≤2000000000:=by simpa using g
   refine zac (zmp _ (by omega)) ?_;have hcast:1+(k:Int)*(q:Int)=((1+k*q:Nat):Int):=by omega
   cases hp:prB (1+(k:Int)*(q:Int))
   ·refine zee rfl (zab ?_)
    have e:i64.wrap (1+(k:Int)*(q:Int)+(q:Int))=1+((k+1:Nat):Int)*(q:Int):=by
     rw[zah (by omega) (by omega)];grind
    refine⟨⟨k+1,by omega,e,by rw[zah (by omega) (by omega)];omega,fun j h1 h2=>?_⟩,?_⟩
    ·rcases Nat.lt_or_ge j k with h|h
     ·exact hn j h1 h
     have:j=k:=by omega
     subst this;intro hpr;rw[hcast,zhd.2 hpr]at hp;cases hp
    rw[zah (by omega) (by omega)];omega
   refine zaB rfl ?_;have hpr:Pr (1+k*q):=by rw[hcast]at hp;exact zhd.1 hp
   obtain⟨h0,a1,a2,a3⟩:=zx5 hpr hk (by omega)
   have hdv:i64.wrap ((i64.wrap (1+(k:Int)*(q:Int)-1)).tdiv (q:Int))=(k:Int):=by
    rw[zah (n:=1+(k:Int)*(q:Int)-1) (by omega) (by omega),zBF hq,zah (by omega) (by omega)]
   simp only[hdv];simp only[hcast];refine zae (ψ:=fun h=>2≤h∧h≤(h0:Int)) (zej (fun s=>2≤s∧s≤(h0:Int)) (fun s=>(h0-s).toNat) (by omega) ?_) ?_
   ·rintro s ⟨s1,s2⟩;have hpw:=(zh2 (a:=s) (e:=(k:Int)) (m:=((1+k*q:Nat):Int)) (by omega) (by omega) (by omega) (by omega) (by omega) (by omega)).2;refine zak (by omega) (zac hpw ?_);refine zan (fun g=>zab ?_) fun g=>zab ⟨s1,s2⟩
    rw[zah (by omega) (by omega)]
    have hne:s≠(h0:Int):=fun e=>by
     subst e;apply a3;have g:((((h0:Int).toNat^(k:Int).toNat%((1+k*q:Nat):Int).toNat:Nat)):Int)=1:=by simpa only[beq_iff_eq]using g
     rw[Int.toNat_natCast,Int.toNat_natCast,Int.toNat_natCast]at g;omega
    refine⟨⟨by omega,by omega⟩,?_⟩;omega
   rintro h ⟨s1,s2⟩;have hpw:=(zh2 (a:=h) (e:=(k:Int)) (m:=((1+k*q:Nat):Int)) (by omega) (by omega) (by omega) (by omega) (by omega) (by omega)).2;refine zak (by omega) (zac hpw (zab ?_))
   have hlt:h.toNat^(k:Int).toNat%((1+k*q:Nat):Int).toNat<1+k*q:=by
    rw[Int.toNat_natCast (1+k*q)];exact Nat.mod_lt _ (by omega)
   refine .inr ⟨_,rfl,⟨⟨by show(0:Int)≤((1+k*q:Nat):Int);omega,by show((1+k*q:Nat):Int)≤_;omega⟩,⟨by show(0:Int)≤(q:Int);omega,by show(q:Int)≤_;omega⟩,?_,?_⟩,rfl,rfl,by show(3:Int)≤((1+k*q:Nat):Int);omega⟩
   ·show(0:Int)≤((_:Nat):Int);omega
   show((_:Nat):Int)≤2000000000;omega
  refine zab (.inl ⟨rfl,fun j h1 h2 h3=>?_⟩);have g:¬1+(k:Int)*(q:Int)≤2000000000:=by simpa using g
  rcases Nat.lt_or_ge j k with h|h
  ·exact hn j h1 h h2
  have:k*q≤j*q:=Nat.mul_le_mul_right q h;omega
 rintro b (⟨rfl,h⟩|⟨z,rfl,h1,h2,h3,h4⟩)
 ·exact zab ⟨⟨⟨by decide,by decide⟩,⟨by decide,by decide⟩,by decide,by decide⟩,fun h=>(by cases h),fun k h1 h2 h3 h4=>absurd h3 (h k h1 h2)⟩
 exact zab ⟨h1,fun _=>⟨h3,h4⟩,fun _ _ _ _ _=>h2⟩
theorem zhO{n:Nat}(hn:n<64)(h2:2≤n)(h:∀d,d<8→2≤d→d*d≤n→n%d≠0):Pr n:=by
 refine⟨h2,fun d h1 h3=>?_⟩;rcases Nat.lt_or_ge d 8 with h8|h8
 ·exact h d h8 h1 h3
 have:8*8≤d*d:=Nat.mul_le_mul h8 h8;omega
structure Gw (gr:Group):Prop where
 p: -10≤gr.P∧gr.P≤2100000000
 q: -10≤gr.Q∧gr.Q≤2100000000
 g: -10≤gr.G∧gr.G≤2100000000
theorem Gs.w(h:Gs gr):Gw gr:=⟨by have:=h.p;omega,by have:=h.q;omega,by have:=h.g;omega⟩
theorem zBG(hx:x∈[(3:Int),5,5,7,11,11,13,23]):∃q k:Nat,x=(q:Int)∧3≤q∧q≤23∧1≤k∧Pr (1+k*q)∧1+k*q≤2000000000∧Pr q:=by
 simp only[List.mem_cons,List.not_mem_nil,or_false]at hx;rcases hx with rfl|rfl|rfl|rfl|rfl|rfl|rfl|rfl
 ·exact⟨3,2,rfl,by decide,by decide,by decide,zhO (by decide) (by decide) (by decide),by decide,zhO (by decide) (by decide) (by decide)⟩
 ·exact⟨5,2,rfl,by decide,by decide,by decide,zhO (by decide) (by decide) (by decide),by decide,zhO (by decide) (by decide) (by decide)⟩
 ·exact⟨5,2,rfl,by decide,by decide,by decide,zhO (by decide) (by decide) (by decide),by decide,zhO (by decide) (by decide) (by decide)⟩
 ·exact⟨7,4,rfl,by decide,by decide,by decide,zhO (by decide) (by decide) (by decide),by decide,zhO (by decide) (by decide) (by decide)⟩
 ·exact⟨11,2,rfl,by decide,by decide,by decide,zhO (by decide) (by decide) (by decide),by decide,zhO (by decide) (by decide) (by decide)⟩
 ·exact⟨11,2,rfl,by decide,by decide,by decide,zhO (by decide) (by decide) (by decide),by decide,zhO (by decide) (by decide) (by decide)⟩
 ·exact⟨13,4,rfl,by decide,by decide,by decide,zhO (by decide) (by decide) (by decide),by decide,zhO (by decide) (by decide) (by decide)⟩
 exact⟨23,2,rfl,by decide,by decide,by decide,zhO (by decide) (by decide) (by decide),by decide,zhO (by decide) (by decide) (by decide)⟩
theorem zDp(hb:Bt code)(h:Cu code n (c0,at_,seed))(hn:n≤7000000000000000):Rn (zdL c0 at_ seed) (fun z=>Gs z.1∧3≤z.1.Q∧z.1.Q≤23∧3≤z.1.P∧Cu code (n+2) z.2):=by
 unfold zdL;refine zae (zfk hb h (by omega) (by simp)) fun z ⟨z1,z2⟩=>?_
 obtain⟨q,k,e,q1,q2,k1,k2,k3,k4⟩:=zBG z1;rw[e];refine zae (zok (by omega)) fun y ⟨y1,y2,y3⟩=>zab ?_
 have y4:=y2 (y3 k k1 k2 k3 k4);exact⟨y1,by show 3≤y.1.Q;omega,by show y.1.Q≤23;omega,y4.2,z2⟩
theorem zAc(h:Gs gr)(hq:1≤gr.Q)(hp:1≤gr.P)(hx:0≤x∧x≤2000000000)(e:Int):Rn (zau gr x e) (fun v=>0≤v∧v≤2000000000):=by
 have h1:=h.p;have h2:=h.q;have b1:0≤e%gr.Q:=Int.emod_nonneg _ (by omega);have b2:e%gr.Q<gr.Q:=Int.emod_lt_of_pos _ (by omega);have hw:=(zh2 (a:=x) (e:=e%gr.Q) (m:=gr.P) (by omega) (by omega) (by omega) (by omega) b1 (by omega)).2;unfold zau;refine zac (znw (by omega) (by omega)) (zac hw (zab ?_));have hlt:x.toNat^(e%gr.Q).toNat%gr.P.toNat<gr.P.toNat:=Nat.mod_lt _ (by omega);omega
theorem zFz(hx:x∈[(101:Int),1009,1019,65537,999983]):∃q:Nat,x=(q:Int)∧q≤1000000:=by
 simp only[List.mem_cons,List.not_mem_nil,or_false]at hx;rcases hx with rfl|rfl|rfl|rfl|rfl
 ·exact⟨101,rfl,by decide⟩
 ·exact⟨1009,rfl,by decide⟩
 ·exact⟨1019,rfl,by decide⟩
 ·exact⟨65537,rfl,by decide⟩
 exact⟨999983,rfl,by decide⟩
theorem zCS:Gs (Group.mk 1000000007 500000003 4):=⟨⟨by decide,by decide⟩,⟨by decide,by decide⟩,by decide,by decide⟩
theorem cu0(code:List Int):Cu code 0 (code,0,0):=⟨rfl,Int.le_refl 0,Int.le_refl 0⟩
theorem zAu(hb:Bt code)(h:Cu code n (c0,at_,seed))(hn:n≤6000000000000000):Rn (zdo c0 at_ seed) (fun z=>Gs z.1∧Cu code (n+6) z.2):=by
 unfold zdo;refine zae (zdr hb h (by omega)) fun z ⟨z1,z2,z3,z4,z5⟩=>?_
 refine zan (fun _=>zab ⟨zCS,z5.mono (by omega)⟩) fun _=>zan (fun _=>?_) fun _=>?_
 ·refine zae (zfk hb z5 (by omega) (by simp)) fun y ⟨y1,y2⟩=>?_
  obtain⟨q,e,hq⟩:=zFz y1;rw[e];exact zae (zok hq) fun x ⟨x1,_,_⟩=>zab ⟨x1,y2.mono (by omega)⟩
 refine zae (zDp hb z5 (by omega)) fun y ⟨y1,y2,y3,y4,y5⟩=>?_
 refine zae (zdr hb y5 (by omega)) fun x ⟨x1,x2,x3,x4,x5⟩=>?_
 have hg:=y1.g;refine zae (zAc y1 (by omega) (by omega) hg _) fun v hv=>zab ⟨⟨y1.p,y1.q,hv⟩,x5.mono (by omega)⟩
theorem zvO(hb:Bt code)(h:Cu code n (c0,at_,seed))(hn:n≤5000000000000000):Rn (zcD c0 at_ seed) (fun z=>Gw z.1∧Cu code (n+10) z.2):=by
 unfold zcD;refine zae (zAu hb h (by omega)) fun z ⟨z1,z2⟩=>?_
 have g1:=z1.p;have g2:=z1.q;have g3:=z1.g;refine zae (zdr hb z2 (by omega)) fun y ⟨_,_,_,_,y5⟩=>?_
 rw[zah (n:=z.1.P+2) (by omega) (by omega),zah (n:=z.1.Q+1) (by omega) (by omega),zah (n:=z.1.P-1) (by omega) (by omega),zah (n:=z.1.G+1) (by omega) (by omega)];refine zae (ψ:=fun x=>Gw (Group.mk x.2.1 x.2.2.1 x.2.2.2)∧Cu code (n+10) x.1) ?_ fun x hx=>zab hx
 refine zan (fun _=>?_) fun _=>zan (fun _=>?_) fun _=>zan (fun _=>?_) fun _=>zab ⟨z1.w,y5.mono (by omega)⟩
 ·refine zae (zfk hb y5 (by omega) (by simp)) fun x ⟨x1,x2⟩=>zab ⟨?_,x2.mono (by omega)⟩
  simp only[List.mem_cons,List.not_mem_nil,or_false]at x1;exact⟨by show-10≤x.1∧x.1≤_;omega,by show-10≤z.1.Q∧z.1.Q≤_;omega,by show-10≤z.1.G∧z.1.G≤_;omega⟩
 ·refine zae (zfk hb y5 (by omega) (by simp)) fun x ⟨x1,x2⟩=>zab ⟨?_,x2.mono (by omega)⟩
  simp only[List.mem_cons,List.not_mem_nil,or_false]at x1;exact⟨by show-10≤z.1.P∧z.1.P≤_;omega,by show-10≤x.1∧x.1≤_;omega,by show-10≤z.1.G∧z.1.G≤_;omega⟩
 refine zae (zfk hb y5 (by omega) (by simp)) fun x ⟨x1,x2⟩=>zab ⟨?_,x2.mono (by omega)⟩
 simp only[List.mem_cons,List.not_mem_nil,or_false]at x1;exact⟨by show-10≤z.1.P∧z.1.P≤_;omega,by show-10≤z.1.Q∧z.1.Q≤_;omega,by show-10≤x.1∧x.1≤_;omega⟩
theorem zpz(hb:Bt code)(h:Cu code n (c0,at_,seed))(hn:n≤7000000000000000)(hg:gr.Q≤2100000000):Rn (zbL c0 at_ seed gr) (fun z=>0≤z.1∧z.1≤2100000000∧(2≤gr.Q→z.1<gr.Q)∧Cu code (n+4) z.2):=by
 unfold zbL;refine zan (fun g=>zab ⟨Int.le_refl 0,by show(0:Int)≤_;omega,fun h=>by simp at g;omega,h.mono (by omega)⟩) fun g=>?_
 have g:2≤gr.Q:=by simp at g;omega
 refine zae (zdr hb h (by omega)) fun z ⟨z1,z2,z3,z4,z5⟩=>?_
 refine zae (zdr hb z5 (by omega)) fun y ⟨y1,y2,y3,y4,y5⟩=>zak (by omega) (zab ?_)
 rw[zah (n:=z.1*60000) (by omega) (by omega),zah (by omega) (by omega),Int.tmod_eq_emod_of_nonneg (by omega)];have b1:=Int.emod_nonneg (z.1*60000+y.1) (show gr.Q≠0 by omega);have b2:=Int.emod_lt_of_pos (z.1*60000+y.1) (show 0<gr.Q by omega);exact⟨b1,by show _%gr.Q≤_;omega,fun _=>b2,y5.mono (by omega)⟩
theorem zq6(hb:Bt code)(h:Cu code n (c0,at_,seed))(hn:n≤6000000000000000)(hg:Gw gr):Rn (zch c0 at_ seed gr) (fun z=>-100≤z.1∧z.1≤2100000000∧Cu code (n+6) z.2):=by
 have g2:=hg.q;unfold zch;refine zae (znP hb h (by omega)) fun z z1=>?_
 rw[zah (by omega) (by omega)];refine zan (fun _=>?_) fun _=>?_
 ·refine zae (zfk hb z1 (by omega) (by simp)) fun y ⟨y1,y2⟩=>zab ?_
  simp only[List.mem_cons,List.not_mem_nil,or_false]at y1;exact⟨by show-100≤y.1;omega,by show y.1≤_;omega,y2.mono (by omega)⟩
 exact zae (zpz hb z1 (by omega) (by omega)) fun y ⟨y1,y2,_,y3⟩=>zab ⟨by show-100≤y.1;omega,y2,y3.mono (by omega)⟩
theorem zAb(hb:Bt code)(h:Cu code n (c0,at_,seed))(hn:n≤5000000000000000)(hg:Gw gr)(hk:k≤1000000):Rn (zds c0 at_ seed gr (k:Int)) (fun z=>z.1.length=k∧(∀x∈z.1,0≤x∧x≤2100000000∧(2≤gr.Q→x<gr.Q))∧Cu code (n+4*k) z.2):=by
 unfold zds;refine zae (ψ:=fun r=>r.2.length=k∧(∀x∈r.2,0≤x∧x≤2100000000∧(2≤gr.Q→x<gr.Q))∧Cu code (n+4*k) r.1) (zfo k (fun j s=>s.2.1=(k:Int)-j∧s.2.2.length=j∧(∀x∈s.2.2,0≤x∧x≤2100000000∧(2≤gr.Q→x<gr.Q))∧Cu code (n+4*j) s.1) ⟨by show(k:Int)=_;omega,rfl,by simp,h.mono (by omega)⟩ ?_ ?_) fun r hr=>zab hr
 ·rintro j s hj ⟨h1,h2,h3,h4⟩;refine zee (by rw[h1];simp;omega) (zae (zpz hb h4 (by omega) hg.q.2) fun z ⟨z1,z2,z3,z4⟩=>zak (by omega) (zab ⟨?_,by simp[h2],fun x hx=>?_,z4.mono (by omega)⟩))
  ·show i64.wrap (s.2.1-1)=_;rw[h1,zah (by omega) (by omega)];omega
  rcases List.mem_append.1 hx with h|h
  ·exact h3 x h
  rw[List.mem_singleton.1 h];exact⟨z1,z2,z3⟩
 rintro s ⟨h1,h2,h3,h4⟩;exact zaB (by rw[h1];simp) (zab ⟨h2,h3,h4⟩)
theorem zoq{a:Nat}(hp:2≤p){m:Nat}(h:a^m%p=1)(k r:Nat):a^(m*k+r)%p=a^r%p:=by
 rw[Nat.pow_add,Nat.pow_mul,Nat.mul_mod,Nat.pow_mod (a^m),h,Nat.one_pow,Nat.mod_eq_of_lt (show 1<p by omega),Nat.one_mul,Nat.mod_mod]
theorem zA2{a:Nat}(hp:2≤p):∀m n,a^m%p=1→a^n%p=1→a^(Nat.gcd m n)%p=1:=by
 intro m n;induction m,n using Nat.gcd.induction with
 |H0 n=>intro _ h;simpa using h
 |H1 m n hm ih=>
  intro h1 h2;rw[Nat.gcd_rec];refine ih ?_ h1;rw[←zoq hp h1 (n/m) (n%m),Nat.div_add_mod];exact h2
theorem zue{a q:Nat}(hp:2≤p)(hq:Pr q)(ha:a^q%p=1)(ha1:a%p≠1){j:Nat}(hij:i<j)(hj:j<q):a^i%p≠a^j%p:=by
 intro e
 have h1:a^(j-i)%p=1:=by
  have e1:a^(j-i)%p=a^(q*1+(j-i))%p:=(zoq hp ha 1 (j-i)).symm;rw[e1,show q*1+(j-i)=j+(q-i)by omega,Nat.pow_add,Nat.mul_mod,←e,←Nat.mul_mod,←Nat.pow_add,show i+(q-i)=q by omega];exact ha
 have h2:=zA2 hp q (j-i) ha h1;rw[zx4 hq (by rw[Nat.mod_eq_of_lt (by omega)];omega),Nat.pow_one]at h2;exact ha1 h2
theorem zoD(h:zaq gr x=true):x.toNat^gr.Q.toNat%gr.P.toNat=1:=by
 simp only[zaq,Bool.and_eq_true,decide_eq_true_eq]at h;exact h.2
theorem zuH(k:OkG gr)(h:zaq gr x=true):x.toNat<gr.P.toNat∧1≤x.toNat:=by
 have:=ziN h;have:=k.p;omega
theorem zCa(k:OkG gr){h:Int}(hh:zaq gr h=true)(h1:h≠1)(hx:zaq gr x=true):∃s:Nat,h.toNat^s%gr.P.toNat=x.toNat:=by
 have hp2:2≤gr.P.toNat:=by have:=k.p;omega
 have hb:=zuH k hh;have hbx:=zuH k hx;have ha1:h.toNat%gr.P.toNat≠1:=by rw[Nat.mod_eq_of_lt hb.1];have:=ziN hh;omega
 apply Classical.byContradiction;intro hn;have hn':∀s:Nat,h.toNat^s%gr.P.toNat≠x.toNat:=fun s e=>hn ⟨s,e⟩
 have key:∀a b:Nat,a<gr.P.toNat→b<gr.P.toNat→a≠b→((b:Int)-(a:Int))%(gr.P.toNat:Int)≠0:=by
  intro a b ha hb' hab he;have h3:((gr.P.toNat:Nat):Int)∣(b:Int)-(a:Int):=Int.dvd_of_emod_eq_zero he;obtain⟨c,hc⟩:=h3;rcases Int.lt_trichotomy c 0 with h4|h4|h4
  ·have:(gr.P.toNat:Int)*c≤(gr.P.toNat:Int)*(-1):=Int.mul_le_mul_of_nonneg_left (by omega) (by omega);omega
  ·subst h4;simp at hc;omega
  ·have:(gr.P.toNat:Int)*1≤(gr.P.toNat:Int)*c:=Int.mul_le_mul_of_nonneg_left (by omega) (by omega);omega
 have hlt:∀s,h.toNat^s%gr.P.toNat<gr.P.toNat:=fun s=>Nat.mod_lt _ (by omega)
 have hlen:=zoo (p:=gr.P.toNat) (n:=gr.Q.toNat) k.pp (by have:=k.q;omega) ((x.toNat:Int)::(List.range gr.Q.toNat).map fun i=>((h.toNat^i%gr.P.toNat:Nat):Int)) ?_ ?_
 ·simp at hlen;omega
 ·rw[List.pairwise_cons];refine⟨fun y hy=>?_,?_⟩
  ·obtain⟨i,hi,rfl⟩:=List.mem_map.1 hy;exact key _ _ hbx.1 (hlt i) fun e=>hn' i e.symm
  rw[List.pairwise_map];refine List.Pairwise.imp_of_mem ?_ List.pairwise_lt_range;intro i j hi hj hij;exact key _ _ (hlt i) (hlt j) (zue hp2 k.pq (zoD hh) ha1 hij (List.mem_range.1 hj))
 intro r hr;rcases List.mem_cons.1 hr with rfl|hr
 ·have:=zoD hx;rw[←Int.natCast_pow,←Int.natCast_emod,this];rfl
 obtain⟨i,hi,rfl⟩:=List.mem_map.1 hr
 have h5:(h.toNat^i%gr.P.toNat)^gr.Q.toNat%gr.P.toNat=1:=by
  rw[←Nat.pow_mod,←Nat.pow_mul,Nat.mul_comm,Nat.pow_mul,Nat.pow_mod,zoD hh,Nat.one_pow,Nat.mod_eq_of_lt (by omega)]
 rw[←Int.natCast_pow,←Int.natCast_emod,h5];rfl
theorem zt5(h0:0<q)(h1:q≤4000000000000000000):ze0 a q=some (a%q):=by
 unfold ze0;rw[zcB (by omega),zcB (by omega)];have b1:a.tmod q<q:=Int.tmod_lt_of_pos a h0
 have b2: -q<a.tmod q:=by
  have:=Int.lt_tmod_of_pos a h0;omega
 rw[zah (by omega) (by omega),Int.tmod_eq_emod_of_nonneg (by omega)];congr 1;rw[Int.add_emod_right];rw[Int.tmod_def,Int.sub_emod,Int.mul_emod_right,Int.sub_zero,Int.emod_emod]
theorem zuy(a:Int)(h:0<m): -m<a.tmod m∧a.tmod m<m:=by
 have h1:=Int.tmod_lt_of_pos a h;have h2:=Int.lt_tmod_of_pos a h;omega
theorem zwz(a:Int){e:Int}(h1:1≤m)(h2:0≤e)(h3:e≤4000000000000000000):Rn (zcm a e m) (fun v=>-m<v∧v<m):=by
 unfold zcm;refine zak (by omega) (zae (ψ:=fun v=>-m<v∧v<m) (zej (fun s=>(-m<s.2.2∧s.2.2<m)∧0≤s.2.1∧s.2.1≤e) (fun s=>s.2.1.toNat) ⟨zuy _ (by omega),h2,Int.le_refl _⟩ ?_) fun x hx=>zab hx);rintro s ⟨hs,h4,h5⟩;refine zan (fun g=>?_) fun _=>zab hs
 have g:0<s.2.1:=by simpa using g
 refine zae (ψ:=fun v=>-m<v∧v<m) (zan (fun _=>zak (by omega) (zab (zuy _ (by omega)))) fun _=>zab hs) fun x hx=>zak (by omega) (zab ?_)
 have e1:s.2.1.tdiv 2=s.2.1/2:=Int.tdiv_eq_ediv_of_nonneg (by omega);have e2:i64.wrap (s.2.1.tdiv 2)=s.2.1/2:=by rw[e1,zah (by omega) (by omega)]
 exact⟨⟨hx,by show 0≤i64.wrap _;rw[e2];omega,by show i64.wrap _≤e;rw[e2];omega⟩,by show(i64.wrap _).toNat<_;rw[e2];omega⟩
theorem zA1(hq:1≤gr.Q∧gr.Q≤4000000000000000000)(hp:1≤gr.P)(x e:Int):Rn (zau gr x e) (fun v=>-gr.P<v∧v<gr.P):=by
 unfold zau;refine zac (zt5 (by omega) hq.2) (zae (zwz x hp (Int.emod_nonneg _ (by omega)) ?_) fun v hv=>zab hv);have:=Int.emod_lt_of_pos e (show 0<gr.Q by omega);omega
theorem zxB(hb:Bt code)(h:Cu code n (c0,at_,seed))(hn:n≤6000000000000000)(hg:Gw gr):Rn (zcV c0 at_ seed gr) (fun z=>-2200000000≤z.1∧z.1≤2200000000∧Cu code (n+4) z.2):=by
 have g1:=hg.p;have g2:=hg.q;unfold zcV;refine zae (ψ:=fun b=>b=false→3≤gr.P∧1≤gr.Q) (zan (fun _=>zab fun h=>by cases h) fun a=>zab fun b=>by simp at a b;omega) fun b hb'=>zan (fun _=>zab ⟨by show-2200000000≤(1:Int);decide,by show(1:Int)≤_;decide,h.mono (by omega)⟩) fun e=>?_
 obtain⟨k1,k2⟩:=hb' e;refine zac (zt5 (by omega) (by omega)) (zae (zpz hb h (by omega) (by omega)) fun z ⟨z1,z2,_,z3⟩=>zae (zA1 ⟨k2,by omega⟩ (by omega) _ _) fun v hv=>zab ⟨by show _≤v;omega,by show v≤_;omega,z3⟩)
theorem ziS(hb:Bt code)(h:Cu code n (c0,at_,seed))(hn:n≤5000000000000000)(hg:Gw gr):Rn (za8 c0 at_ seed gr) (fun z=>-2200000000≤z.1∧z.1≤2200000000∧Cu code (n+6) z.2):=by
 have g1:=hg.p;unfold za8;refine zae (znP hb h (by omega)) fun z z1=>zan (fun _=>?_) fun _=>zae (zxB hb z1 (by omega) hg) fun y ⟨y1,y2,y3⟩=>zab ⟨y1,y2,y3.mono (by omega)⟩
 rw[zah (n:=gr.P-1) (by omega) (by omega)];refine zae (zfk hb z1 (by omega) (by simp)) fun y ⟨y1,y2⟩=>zab ?_
 simp only[List.mem_cons,List.not_mem_nil,or_false]at y1;exact⟨by show-2200000000≤y.1;omega,by show y.1≤_;omega,y2.mono (by omega)⟩
def zcn(gr:Group)(c:Cipher):Bool:=zaq gr c.A&&zaq gr c.B
def zDl(gr:Group)(s:Int)(c:Cipher):Int:=zcW gr [c.B,zao gr (zao gr c.A s) (-1)]
theorem zzS(k:OkG gr){c:Cipher}(h:zcn gr c=true):0≤c.A∧c.A≤2000000000∧0≤c.B∧c.B≤2000000000:=by
 simp only[zcn,Bool.and_eq_true]at h;have h1:=ziN h.1;have h2:=ziN h.2;have hp:=k.p;omega
theorem zCx(k:OkG gr)(s:Int){c:Cipher}(h:zcn gr c=true):zcy gr s c=some (zDl gr s c):=by
 obtain⟨b1,b2,b3,b4⟩:=zzS k h;have hp:=k.p;have p1:=zfd k c.A s;have p2:=zfd k (zao gr c.A s) (-1)
 have hl:∀x∈[c.B,zao gr (zao gr c.A s) (-1)],0≤x∧x≤2000000000:=by
  intro x hx;simp only[List.mem_cons,List.not_mem_nil,or_false]at hx;rcases hx with rfl|rfl<;>omega
 unfold zcy zgK;rw[(zk2 k b1 b2 s).1,Option.bind_some,(zk2 k p1.1 (by omega) (-1)).1,Option.bind_some,Option.bind_some,znN k hl];rfl
theorem zCh(k:OkG gr)(l:List Cipher):Rn (zax l gr.P gr.Q gr.G) (fun x=>(x=-1∧l.all (zcn gr)=true)∨(0≤x∧l.all (zcn gr)=false)):=by
 unfold zax;refine zae (ψ:=fun x=>(x=.inl ()∧l.all (zcn gr)=true)∨(∃j:Nat,x=.inr (j:Int)∧l.all (zcn gr)=false)) (za3 (fun n _=>∀m,m<n→∀h:m<l.length,zcn gr l[m]=true) (fun m hm=>by omega) ?_ fun s hs=>.inl ⟨rfl,?_⟩) ?_
 ·rintro n s hn hI;refine zaK hn ?_;unfold zdT;refine zae (ψ:=fun b=>b= !zcn gr l[n]) (zac (zty k l[n]) (zab rfl)) ?_;rintro _ rfl;refine zan (fun h=>zab (.inr ⟨n,rfl,?_⟩)) fun h=>zab fun m hm hl=>?_
  ·rw[List.all_eq_false];exact⟨l[n],List.getElem_mem hn,by simpa using h⟩
  rcases Nat.lt_or_ge m n with h1|h1
  ·exact hI m h1 hl
  have:m=n:=by omega
  subst this;simpa using h
 ·rw[List.all_eq_true];intro x hx;obtain⟨m,hm,rfl⟩:=List.mem_iff_getElem.1 hx;exact hs m hm hm
 rintro x (⟨rfl,h⟩|⟨j,rfl,h⟩)
 ·exact zab (.inl ⟨rfl,h⟩)
 exact zab (.inr ⟨by show(0:Int)≤(j:Int);omega,h⟩)
theorem znn(k:OkG gr)(l:List Cipher):zcw gr l=some (decide (l.length≤24)&&l.all (zcn gr)):=by
 unfold zcw;refine zaj (zae (ψ:=fun b=>b=(decide (l.length≤24)&&l.all (zcn gr))) (zan (fun h=>?_) fun h=>zab ?_) fun b hb=>zab hb)
 ·have h:l.length≤24:=by simp at h;omega
  unfold zaC;refine zae (ψ:=fun b=>b= !l.all (zcn gr)) (zae (zCh k l) fun x hx=>zab ?_) ?_
  ·rcases hx with⟨rfl,h⟩|⟨h0,h⟩
   ·rw[h];rfl
   rw[h];simpa using h0
  rintro _ rfl;exact zab (by simp[h])
 have h:¬l.length≤24:=by simp at h;omega
 simp[h]
theorem zAL(k:OkG gr)(l:List Cipher):zhp gr l=some (decide (l.length≤24)&&l.all (zcn gr)):=by
 unfold zhp;by_cases h:24<(l.length:Int)
 ·rw[if_pos (by simpa using h)];have h:¬l.length≤24:=by omega
  simp[h]
 rw[if_neg (by simpa using h)];refine(zzt l (zcn gr) false (fun n hn=>?_)).trans ?_
 ·rw[zbB hn,Option.bind_some,zrz k,Option.bind_some];have e:([l[n].A,l[n].B].all (zaq gr))=zcn gr l[n]:=by simp[zcn]
  rw[e];cases zcn gr l[n]<;>rfl
 have h:l.length≤24:=by omega
 cases l.all (zcn gr)<;>simp[h]
theorem zvU(hb:Bt code)(h:Cu code n (c0,at_,seed))(hn:n≤3000000000000000)(hg:Gw gr)(hk:k≤1000):Rn (zcC c0 at_ seed gr (k:Int)) (fun z=>z.1.length≤k+1∧Cu code (n+4*k+20) z.2):=by
 unfold zcC;refine zae (zAb hb h (by omega) hg (by omega)) fun z ⟨z1,_,z3⟩=>?_
 refine zae (zdr hb z3 (by omega)) fun p ⟨_,_,_,_,p5⟩=>?_
 refine zae (ψ:=fun v=>Sum.elim (fun x=>x.2.length≤k+1∧Cu code (n+4*k+20) x.1) (fun y=>y.1.length≤k+1∧Cu code (n+4*k+20) y.2) v) ?_ ?_
 ·refine zan (fun _=>zak (by omega) (zab ⟨by simp[z1],p5.mono (by omega)⟩)) fun _=>zan (fun _=>zan (fun g=>?_) fun _=>zab ⟨by dsimp only;omega,p5.mono (by omega)⟩) fun _=>zan (fun _=>zan (fun g=>?_) fun _=>zab ⟨by dsimp only;omega,p5.mono (by omega)⟩) fun _=>zab ⟨by dsimp only;omega,p5.mono (by omega)⟩
  ·have g:0<(k:Int):=by simpa using g
   exact zak (by omega) (zab ⟨by simp[z1];omega,p5.mono (by omega)⟩)
  have g:0<(k:Int):=by simpa using g
  refine zae (zdr hb p5 (by omega)) fun q ⟨q1,q2,q3,_,q5⟩=>?_
  refine zae (zfk hb q5 (by omega) (by simp)) fun w ⟨_,w2⟩=>?_
  obtain⟨j,hj⟩:=Int.eq_ofNat_of_zero_le q1
  have hlt:j<z.1.length:=by
   rcases Nat.lt_or_ge 1 k with h|h
   ·have:=q3 (by omega);omega
   ·have:=q2 (by omega);omega
  rw[hj];exact zaK hlt (zab ⟨by show(z.1.set _ _).length≤_;rw[List.length_set];omega,w2.mono (by omega)⟩)
 rintro(x|y) hx
 ·exact zab hx
 exact zab hx
def byL(s:ByteArray):List Int:=s.data.toList.map fun b=>(b.toNat:Int)
theorem zji(s:ByteArray):(byL s).length=s.size:=by
 show(s.data.toList.map _).length=s.data.size;rw[List.length_map,Array.length_toList]
theorem zxG(s:ByteArray):∀x∈byL s,0≤x∧x≤255:=by
 intro x hx;obtain⟨b,_,rfl⟩:=List.mem_map.1 hx;have:=b.toNat_lt;omega
theorem zBP(h:k<s.size):ixs s (k:Int)=some ((byL s)[k]'(by rw[zji];exact h)):=by
 have h2:k<s.data.size:=h;simp[ixs,byL,h];rfl
theorem zxf(s:ByteArray)(l:List Int)(hs:s.size≤1000000)(hl:l.length≤1000000000000):zgY s l=some ((s.size:Int)::byL s++l):=by
 unfold zgY;refine zaj (zae (ψ:=fun x=>x=(s.size:Int)::byL s) (zfo s.size (fun n p=>n≤s.size∧p=((s.size:Int)::(byL s).take n,(n:Int))) ⟨by omega,by simp⟩ ?_ ?_) ?_)
 ·rintro n p hn ⟨_,rfl⟩;have hn2:n<(byL s).length:=by rw[zji];exact hn
  have hb:=zxG s _ (List.getElem_mem hn2);refine zan (fun _=>?_) fun h=>absurd h (by simp;omega)
  refine zac (zBP hn) (zak ?_ (zab ⟨by omega,?_⟩))
  ·simp only[List.length_cons,List.length_take,zji];omega
  show((s.size:Int)::(byL s).take n++[_],_)=_;rw[zah (by omega) (by omega),zah (by omega) (by omega),List.cons_append,List.take_append_getElem hn2];rfl
 ·rintro p ⟨_,rfl⟩;refine zan (fun h=>absurd h (by simp)) fun _=>zab ?_
  show(s.size:Int)::(byL s).take s.size=_;rw[List.take_of_length_le (by rw[zji];omega)]
 rintro _ rfl;refine zak ?_ (zab rfl);simp only[List.length_cons,zji];omega
theorem zvI(s:ByteArray)(l:List Int)(hs:s.size≤1000000)(hl:l.length≤1000000000000):zg6 s l=some ((s.size:Int)::byL s++l):=zxf s l hs hl
def zbE(x:Int):Bool:=decide (0≤x)&&decide (x≤4611686018427387903)
theorem zd9 :zbE x=true↔0≤x∧x≤4611686018427387903:=by simp[zbE]
theorem zpc(x:Int):zgd x=some (zbE x):=by
 unfold zgd;rw[zdV];rfl
theorem zzU(s:ByteArray):(byL s).all zbE=true:=by
 rw[List.all_eq_true];intro x hx;have:=zxG s x hx;exact zd9.2 ⟨by omega,by omega⟩
def hs1(c s k:Int):Int:=(c*s+k+1)%2147483647
def zkQ(p:Int×Int)(x:Int):Int×Int:=(hs1 48271 (hs1 48271 p.1 (x%2147483648)) (x/2147483648),hs1 69621 (hs1 69621 p.2 (x%2147483648)) (x/2147483648))
def znV(l:List Int):Int:=let p:=(((l.length:Int)::l).foldl zkQ (1,2));p.1*2147483648+p.2
theorem zlB(c s k:Int):0≤hs1 c s k∧hs1 c s k≤2147483646:=by unfold hs1;omega
theorem zjD{s k:Int}(hc:c=48271∨c=69621)(hs:0≤s∧s≤2147483646)(hk:0≤k∧k≤2147483648):(i64.wrap ((i64.wrap ((i64.wrap (c*s))+k))+1)).tmod 2147483647=hs1 c s k:=by
 rcases hc with rfl|rfl
 ·rw[zah (n:=48271*s) (by omega) (by omega),zah (n:=48271*s+k) (by omega) (by omega),zah (by omega) (by omega),Int.tmod_eq_emod_of_nonneg (by omega)];rfl
 rw[zah (n:=69621*s) (by omega) (by omega),zah (n:=69621*s+k) (by omega) (by omega),zah (by omega) (by omega),Int.tmod_eq_emod_of_nonneg (by omega)];rfl
def okP(p:Int×Int):Prop:=(0≤p.1∧p.1≤2147483646)∧(0≤p.2∧p.2≤2147483646)
theorem zzW(p:Int×Int)(x:Int):okP (zkQ p x):=⟨zlB _ _ _,zlB _ _ _⟩
theorem zkf:∀(l:List Int) (p:Int×Int),okP p→okP (l.foldl zkQ p)
 |[],_,h=>h
 |x::l,p,_=>zkf l _ (zzW p x)
theorem zx1(l:List Int):zbE (znV l)=true:=by
 obtain⟨h1,h2⟩:=zkf ((l.length:Int)::l) (1,2) ⟨by decide,by decide⟩;refine zd9.2 ?_;unfold znV;dsimp only;omega
theorem zsl{p:Int×Int}(hp:okP p)(hx:zbE x=true):zb3 p.1 p.2 x=some (zkQ p x):=by
 obtain⟨h1,h2⟩:=hp;have hx:=zd9.1 hx;have e1:x.tmod 2147483648=x%2147483648:=Int.tmod_eq_emod_of_nonneg hx.1
 have e2:i64.wrap (x.tdiv 2147483648)=x/2147483648:=by
  rw[Int.tdiv_eq_ediv_of_nonneg hx.1,zah (by omega) (by omega)]
 have b1:0≤x%2147483648∧x%2147483648≤2147483648:=by omega
 have b2:0≤x/2147483648∧x/2147483648≤2147483648:=by omega
 have h0:ix [x%2147483648,x/2147483648] 0=some (x%2147483648):=rfl;have h1':ix [x%2147483648,x/2147483648] 1=some (x/2147483648):=rfl;unfold zb3;rw[e1,e2,Option.bind_some,zms];simp only[List.length_cons,List.length_nil,show decide ((0:Int)<((0+1+1:Nat):Int))=true from rfl,if_true,h0,Option.bind_some,zjD (.inl rfl) h1 b1,zjD (.inr rfl) h2 b1];rw[zms];simp only[show i64.wrap (0+1)=1 from rfl,show decide ((1:Int)<((0+1+1:Nat):Int))=true from rfl,if_true,h1',Option.bind_some,zjD (.inl rfl) (zlB _ _ _) b2,zjD (.inr rfl) (zlB _ _ _) b2];rw[zms];simp only[show i64.wrap (1+1)=2 from rfl,show decide ((2:Int)<((0+1+1:Nat):Int))=false from rfl,Bool.false_eq_true,if_false,Option.bind_some];rfl
theorem zut(h:l.all zbE=true)(hk:k<l.length):zbE l[k]=true:=List.all_eq_true.1 h _ (List.getElem_mem hk)
theorem zAC(hl:l.length≤1000000000000)(hd:l.all zbE=true):zhn l=some (znV l):=by
 unfold zhn;have e0:=zsl (p:=(1,2)) (x:=(l.length:Int)) ⟨by decide,by decide⟩ (zd9.2 ⟨by omega,by omega⟩);refine zaj (zac e0 (zae (ψ:=fun p=>p=((l.length:Int)::l).foldl zkQ (1,2)) (za3 (fun n p=>p=((l.length:Int)::l.take n).foldl zkQ (1,2)) rfl ?_ ?_) ?_))
 ·rintro n p hn rfl;refine zaK hn (zac (zsl (zkf _ _ ⟨by decide,by decide⟩) (zut hd hn)) (zab ?_));show zkQ _ _=_;rw[←List.take_append_getElem hn,←List.cons_append,List.foldl_append];rfl
 ·rintro p rfl;show(((l.length:Int)::l.take l.length).foldl zkQ (1,2))=_;rw[List.take_length]
 rintro p rfl;obtain⟨h1,h2⟩:=zkf ((l.length:Int)::l) (1,2) ⟨by decide,by decide⟩;refine zab ?_;rw[zah (n:=_*2147483648) (by omega) (by omega),zah (by omega) (by omega)];rfl
theorem zza(hx:zbE x=true):i64.wrap (BitVec.ofInt IntKind.i64.bits x&&&BitVec.ofInt IntKind.i64.bits 2147483647).toNat=x%2147483648:=by
 have hx:=zd9.1 hx;obtain⟨n,rfl⟩:=Int.eq_ofNat_of_zero_le hx.1
 have h1:(BitVec.ofInt IntKind.i64.bits ((n:Nat):Int)&&&BitVec.ofInt IntKind.i64.bits 2147483647).toNat=n%2147483648:=by
  rw[BitVec.toNat_and]
  have a1:(BitVec.ofInt IntKind.i64.bits (n:Int)).toNat=n:=by
   rw[BitVec.toNat_ofInt];have:IntKind.i64.bits=64:=rfl;rw[this];omega
  have a2:(BitVec.ofInt IntKind.i64.bits 2147483647).toNat=2^31-1:=by decide
  rw[a1,a2,Nat.and_two_pow_sub_one_eq_mod]
 rw[h1,zah (by omega) (by omega)];omega
theorem zCZ(hl:l.length≤1000000000000)(hd:l.all zbE=true):zhZ l=some (znV l):=by
 unfold zhZ
 have hd2:((l.length:Int)::l).all zbE=true:=by
  rw[List.all_cons,hd,Bool.and_true];exact zd9.2 ⟨by omega,by omega⟩
 refine zaj (zak (by simp only[List.length_cons,List.length_nil];omega) (zac rfl (zae (ψ:=fun p=>p=((l.length:Int)::l).foldl zkQ (1,2)) (za3 (fun n p=>p=(((l.length:Int)::l).take n).foldl zkQ (1,2)) rfl ?_ ?_) ?_)))
 ·rintro n p hn rfl;have ok:=zkf ((((l.length:Int)::l)).take n) (1,2) ⟨by decide,by decide⟩;have dg:=zut hd2 hn;have b:=zd9.1 dg;have ef:(((l.length:Int)::l)[n]).fdiv 2147483648=((l.length:Int)::l)[n]/2147483648:=Int.fdiv_eq_ediv_of_nonneg _ (by omega);have hn':n<((l.length:Int)::l).length:=hn;refine zaK hn (zab ?_);show(_,_)=_;simp only[List.singleton_append]
  rw[zza dg,ef,zjD (.inl rfl) ok.1 (by omega),zjD (.inr rfl) ok.2 (by omega),zjD (.inl rfl) (zlB _ _ _) (by omega),zjD (.inr rfl) (zlB _ _ _) (by omega),
   ←List.take_append_getElem hn',List.foldl_append]
  rfl
 ·rintro p rfl;show((((l.length:Int)::l).take ([(l.length:Int)]++l).length).foldl zkQ (1,2))=_;rw[List.singleton_append,List.take_length]
 rintro p rfl;obtain⟨h1,h2⟩:=zkf ((l.length:Int)::l) (1,2) ⟨by decide,by decide⟩;refine zab ?_;rw[zah (n:=_*2147483648) (by omega) (by omega),zah (by omega) (by omega)];rfl
def zvb(s:ByteArray)(l:List Int):Int:=znV ((s.size:Int)::byL s++l)
theorem zoE(s:ByteArray)(l:List Int):zbE (zvb s l)=true:=zx1 _
def zkT(s:ByteArray)(l:List Int):Bool:=decide (s.size≤40)&&decide (1+s.size+l.length≤400)&&l.all zbE
theorem zuU(hs:s.size≤1000000):((s.size:Int)::byL s++l).all zbE=l.all zbE:=by
 rw[List.cons_append,List.all_cons,List.all_append,zzU,zd9.2 ⟨by omega,by omega⟩,Bool.true_and,Bool.true_and]
theorem zot(hs:s.size≤1000000)(hl:l.length≤100000000000)(hd:l.all zbE=true):zfN s l=some (zvb s l):=by
 unfold zfN;rw[zxf s l hs (by omega),Option.bind_some,zAC (by simp[zji];omega) (by rw[zuU hs];exact hd)];rfl
theorem zsw(l:List Int):zfv l=some (decide (l.length≤400)&&l.all zbE):=by
 unfold zfv
 have h1:zbO l=some (l.all zbE):=ziR (f:=zbd) fun x _=>by
  unfold zbd;rw[zpc];rfl
 rw[h1];by_cases h:l.length≤400
 ·rw[if_pos (by simp;omega)];simp[h]
 rw[if_neg (by simp;omega)];simp[h]
theorem zvg(l:List Int):zgl l=some (if(decide (l.length≤400)&&l.all zbE)=true then(znV l,true)else(0,false)):=by
 unfold zgl;rw[zsw,Option.bind_some];cases h:(decide (l.length≤400)&&l.all zbE)with
 |true=>
  simp only[Bool.and_eq_true,decide_eq_true_eq]at h;rw[zCZ (by omega) h.2];rfl
 |false=>rfl
theorem zqh(s:ByteArray)(l:List Int):zeQ s l=some (if zkT s l=true then(zvb s l,true)else(0,false)):=by
 unfold zeQ;by_cases h1:s.size≤40
 ·by_cases h2:l.length≤400
  ·rw[if_neg (by simp;omega),Option.bind_some,if_neg (by simp;omega),zvI s l (by omega) (by omega),Option.bind_some,zvg,zuU (by omega)];have e:((s.size:Int)::byL s++l).length=1+s.size+l.length:=by simp[zji];omega
   rw[e];have e2:zkT s l=(decide (1+s.size+l.length≤400)&&l.all zbE):=by simp[zkT,h1]
   rw[e2];cases decide (1+s.size+l.length≤400)<;>cases l.all zbE<;>rfl
  rw[if_neg (by simp;omega),Option.bind_some,if_pos (by simp;omega)]
  have:zkT s l=false:=by
   have:¬1+s.size+l.length≤400:=by omega
   simp[zkT,this]
  rw[this];rfl
 rw[if_pos (by simp;omega),Option.bind_some,if_pos rfl];have:zkT s l=false:=by simp[zkT,h1]
 rw[this];rfl
theorem ceq(h:n=(k:Int))(hk:k≤4194304):i64.wrap n=(k:Int):=by rw[zah (by omega) (by omega),h]
theorem zw8{α β γ:Type}{l:List α}{f:α→β}{body:Int→List β→Option (Stp (List β) γ)}{stop:List β→γ}(a0:List β)(hs:∀k (h:k<l.length) (s:List β),s.length=a0.length+k→body (k:Int) s=some (.go (s++[f l[k]]))):
 zar body stop l.length 0 a0=some (stop (a0++l.map f)):=by
 refine zaj (za3 (fun k s=>s=a0++(l.take k).map f∧k≤l.length) ⟨by simp,by omega⟩ ?_ ?_)
 ·rintro k s hk ⟨rfl,_⟩;refine⟨_,hs k hk _ (by simp;omega),?_,hk⟩;rw[List.take_succ_eq_append_getElem hk,List.map_append,List.append_assoc];rfl
 rintro s ⟨rfl,_⟩;simp
structure OkC (ct:Contest):Prop where
 lo:0≤ct.Least∧ct.Least≤ct.Most
 k:((ct.Kind=1∨ct.Kind=3)∧(1≤ct.Options∧ct.Options≤8)∧ct.Most≤ct.Options∧ct.Points=0)∨(ct.Kind=2∧(1≤ct.Options∧ct.Options≤8)∧(1≤ct.Points∧ct.Points≤5)∧ct.Most≤ct.Options*ct.Points)∨(ct.Kind=4∧ct.Options=0∧ct.Most≤5∧ct.Points=0)
open Classical in
noncomputable def okC(ct:Contest):Bool:=decide (OkC ct)
theorem zl5 :okC ct=true↔OkC ct:=by simp[okC]
theorem zrW(h:1≤a∧a≤8)(h2:1≤b∧b≤5):1≤a*b∧a*b≤40:=by
 have h3:a*b≤8*5:=Int.mul_le_mul h.2 h2.2 (by omega) (by omega);have h4:1*1≤a*b:=Int.mul_le_mul h.1 h2.1 (by omega) (by omega);omega
theorem zkI(ct:Contest):zc0 ct=some (okC ct):=by
 have e:∀b:Bool,(b=true↔OkC ct)→b=okC ct:=fun b h=>by
  rw[Bool.eq_iff_iff,h,zl5]
 have f:¬OkC ct→okC ct=false:=fun h=>by simp[okC,h]
 unfold zc0;simp only[zdV,Option.bind_some];by_cases l1:ct.Least<0
 ·simp[l1];exact f fun h=>by have:=h.lo;omega
 by_cases l2:ct.Most<ct.Least
 ·simp[l1,l2];exact f fun h=>by have:=h.lo;omega
 simp only[l1,l2,decide_false,Bool.false_eq_true,if_false,Option.bind_some];by_cases k13:ct.Kind=1∨ct.Kind=3
 ·have:(if(ct.Kind==1)=true then some (ct.Kind==1)else some (ct.Kind==3))=some true:=by
   rcases k13 with h|h<;>simp[h]
  rw[this,Option.bind_some,if_pos rfl];by_cases o:1≤ct.Options∧ct.Options≤8
  ·by_cases m:ct.Most≤ct.Options
   ·simp[o,m];refine e _ ⟨fun h=>⟨by omega,.inl ⟨k13,o,m,by simpa using h⟩⟩,fun h=>?_⟩;rcases h.k with h|h|h
    ·simp[h.2.2.2]
    ·omega
    omega
   simp[o,m];exact f fun h=>by rcases h.k with h|h|h<;>omega
  have:(decide (1≤ct.Options)&&decide (ct.Options≤8))=false:=by simp;omega
  rw[this];simp;exact f fun h=>by rcases h.k with h|h|h<;>omega
 have:(if(ct.Kind==1)=true then some (ct.Kind==1)else some (ct.Kind==3))=some false:=by
  simp only[not_or]at k13;simp[k13]
 rw[this,Option.bind_some,if_neg (by simp)];by_cases k2:ct.Kind=2
 ·simp only[k2];by_cases o:1≤ct.Options∧ct.Options≤8
  ·by_cases p:1≤ct.Points∧ct.Points≤5
   ·have b:=zrW o p;simp only[o,p];simp[zah (n:=ct.Options*ct.Points) (by omega) (by omega)];refine e _ ⟨fun h=>⟨by omega,.inr (.inl ⟨k2,o,p,by simpa using h⟩)⟩,fun h=>?_⟩;rcases h.k with h|h|h
    ·omega
    ·simpa using h.2.2.2
    omega
   have:(decide (1≤ct.Points)&&decide (ct.Points≤5))=false:=by simp;omega
   rw[this];simp[o];exact f fun h=>by rcases h.k with h|h|h<;>omega
  have:(decide (1≤ct.Options)&&decide (ct.Options≤8))=false:=by simp;omega
  rw[this];simp;exact f fun h=>by rcases h.k with h|h|h<;>omega
 have k2':(ct.Kind==2)=false:=by simpa using k2
 simp only[k2',Bool.false_eq_true,if_false];by_cases k4:ct.Kind=4
 ·have k4':(ct.Kind==4)=true:=by simpa using k4
  simp only[k4',if_true];by_cases o:ct.Options=0
  ·by_cases m:ct.Most≤5
   ·simp[o,m];refine e _ ⟨fun h=>⟨by omega,.inr (.inr ⟨k4,o,m,by simpa using h⟩)⟩,fun h=>?_⟩;rcases h.k with h|h|h
    ·omega
    ·omega
    simp[h.2.2.2]
   simp[o,m];exact f fun h=>by rcases h.k with h|h|h<;>omega
  simp[o];exact f fun h=>by rcases h.k with h|h|h<;>omega
 have k4':(ct.Kind==4)=false:=by simpa using k4
 simp only[k4',Bool.false_eq_true,if_false];rw[f fun h=>by rcases h.k with h|h|h<;>omega]
theorem ziP(ct:Contest):zeh ct=some (okC ct):=by
 rw[←zkI];unfold zeh zc0;simp only[zdV,ziL,Option.bind_some];cases h:ct.Kind==4<;>simp
theorem zkC{γ:Type}{m:Nat}(p:Nat→Bool)(c d:γ){body:Int→Unit→Option (Stp Unit (Unit ⊕ γ))}(h:∀k,k<m→body (k:Int) ()=some (if p k=true then .go ()else .out (.inr c))):
 (zar body (fun _=>.inl ()) m 0 ()).bind (Sum.elim (fun _=>some d) some)=some (if(List.range m).all p=true then d else c):=by
 rcases zkn (body:=body) m p (fun _=>c) h with⟨e,h1⟩|⟨k,h1,h2,h3,e⟩
 ·have:(List.range m).all p=true:=by
   rw[List.all_eq_true];intro x hx;exact h1 x (List.mem_range.1 hx)
  rw[e,this];rfl
 have:(List.range m).all p=false:=by
  rw[List.all_eq_false];exact⟨k,List.mem_range.2 h1,by simp[h2]⟩
 rw[e,this];rfl
theorem zCj{α:Type}{l:List α}{p:α→Bool}{f:α→Option Bool}(hf:∀x∈l,f x=some (p x)):
 ((((zar (σ:=Unit) (β:=Unit ⊕ Int) (fun i8 s7=>(ix l i8).bind fun x17=>(f x17).bind fun z20=>if z20=true then(some (.out (.inr i8)))else(some (.go ()))) (fun s7=>.inl ()) (l.length) 0 ():Option (Unit ⊕ Int)).bind (Sum.elim (fun(x5:Unit)=>some (-1)) some)).bind fun z1=>some (decide (0≤z1))))=some (l.any p):=by
 rcases zkn l.length (fun k=> !(l[k]?).any p) (fun k=>(k:Int)) (body:=fun i8 s7=>(ix l i8).bind fun x17=>(f x17).bind fun z20=>if z20=true then(some (.out (.inr i8)))else(some (.go ()))) (fun k hk=>by
  rw[zbB hk,Option.bind_some,hf _ (List.getElem_mem hk),Option.bind_some,List.getElem?_eq_getElem hk]
  cases h:p l[k]<;>simp[h])with⟨e,h1⟩|⟨k,h1,h2,h3,e⟩
 ·rw[e]
  have:l.any p=false:=by
   rw[List.any_eq_false];intro x hx;obtain⟨k,hk,rfl⟩:=List.mem_iff_getElem.1 hx;have:=h1 k hk;rw[List.getElem?_eq_getElem hk]at this;simpa using this
  rw[this];rfl
 rw[e]
 have:l.any p=true:=by
  rw[List.any_eq_true];refine⟨l[k],List.getElem_mem h1,?_⟩;rw[List.getElem?_eq_getElem h1]at h2;simpa using h2
 rw[this];simp
def inB(a b x:Int):Bool:=decide (a≤x)&&decide (x≤b)
theorem zbe :inB a b x=true↔a≤x∧x≤b:=by simp[inB]
theorem zAf(l:List Int)(k o a b p:Int):zb6 l k o a b p=some (l.all (inB 0 p)):=ziR (f:=fun x=>zbp x k o a b p) fun x _=>by
 unfold zbp zek;rw[zdV];rfl
theorem zz5(l:List Int)(a b:Int):zca l a b=some (l.all (inB a b)):=ziR (f:=fun x=>zbq x a b) fun x _=>by
 unfold zbq zel;rw[zdV];rfl
theorem zxt{R:Int→Int→Prop}(tr:∀a b c,R a b→R b c→R a c)(h:∀i (h:i+1<l.length),R l[i] l[i+1]):l.Pairwise R:=by
 rw[List.pairwise_iff_getElem];intro i j hi hj hij;obtain⟨d,rfl⟩:∃d,j=i+1+d:=⟨j-(i+1),by omega⟩
 induction d with
 |zero=>exact h i hj
 |succ d ih=>exact tr _ _ _ (ih (by omega) (by omega)) (h (i+1+d) hj)
open Classical in
noncomputable def zlZ(l:List Int):Bool:=decide (l.Pairwise (·≤ ·))
theorem zvR(hl:l.length≤1048576):zcR l=some (zlZ l):=by
 unfold zcR
 have cl:∀a b:Int,zgB a b=some (decide (a<b)):=fun a b=>by
  unfold zgB zgi;simp
 refine zaj (zae (ψ:=fun x=>(x=.inl ()∧zlZ l=true)∨(x=.inr false∧zlZ l=false)) (zej (fun s=>s<l.length∧(-1≤s)∧∀i (h:i+1<l.length),s≤i→l[i]≤l[i+1]) (fun s=>s.toNat) ?_ ?_) ?_)
 ·rw[zah (by omega) (by omega)];exact⟨by omega,by omega,fun i h1 h2=>by omega⟩
 ·rintro s ⟨h1,h0,h2⟩;refine zan (fun h=>?_) fun h=>zab (.inl ⟨rfl,?_⟩)
  ·have h:0<s:=by simpa using h
   obtain⟨k,rfl⟩:∃k:Nat,s=((k+1:Nat):Int):=⟨(s-1).toNat,by omega⟩
   have e:i64.wrap (((k+1:Nat):Int)-1)=(k:Int):=ceq (by omega) (by omega);refine zaK (by omega) ?_;rw[e];refine zaK (by omega) (zac (cl _ _) (zan (fun h=>zab (.inr ⟨rfl,?_⟩)) fun h=>zab ⟨⟨by omega,by omega,fun i hi h3=>?_⟩,by omega⟩))
   ·unfold zlZ;rw[decide_eq_false_iff_not,List.pairwise_iff_getElem];intro hp;have:=hp k (k+1) (by omega) (by omega) (by omega);simp at h;omega
   rcases Nat.lt_or_ge k i with h4|h4
   ·exact h2 i hi (by omega)
   have:i=k:=by omega
   subst this;simpa using h
  have h:¬0<s:=by simpa using h
  unfold zlZ;rw[decide_eq_true_eq];exact zxt (R:=(·≤ ·)) (fun a b c h1 h2=>Int.le_trans h1 h2) fun i hi=>h2 i hi (by omega)
 rintro x (⟨rfl,h⟩|⟨rfl,h⟩)<;>exact zab h.symm
open Classical in
theorem zsS(l:List Int):l.Pairwise (· < ·)↔(zlZ l&&zjM l)=true:=by
 unfold zlZ zjM;simp only[Bool.and_eq_true,decide_eq_true_eq,List.nodup_iff_pairwise_ne];rw[←List.pairwise_and_iff];constructor<;>intro h<;>exact h.imp fun h=>by omega
theorem zBx(hl:l.length≤1048576)(a b:Int):zgh l a b=some (l.all (inB a b)&&(zlZ l&&zjM l)):=by
 unfold zgh;rw[zkC (fun k=>(l[k]?).any (inB a b)&&(decide (k=0)||decide (l.getD (k-1) 0<l.getD k 0))) false true]
 ·congr 1;rw[Bool.eq_iff_iff,Bool.and_eq_true (l.all (inB a b)),←zsS];simp only[Bool.if_false_right,Bool.and_true,Bool.if_true_left,Bool.or_false,Bool.decide_eq_true,decide_eq_true_eq,List.all_eq_true,List.mem_range,Bool.and_eq_true,Bool.or_eq_true];constructor
  ·refine fun h=>⟨fun x hx=>?_,zxt (R:=(· < ·)) (fun a b c h1 h2=>Int.lt_trans h1 h2) fun i hi=>?_⟩
   ·obtain⟨k,hk,rfl⟩:=List.mem_iff_getElem.1 hx;have:=(h k hk).1
    rwa [List.getElem?_eq_getElem hk]at this
   have:=(h (i+1) hi).2;have h1:i<l.length:=by omega
   simp[hi,h1]at this;exact this
  refine fun h k hk=>⟨?_,?_⟩
  ·rw[List.getElem?_eq_getElem hk];exact h.1 _ (List.getElem_mem hk)
  rcases Nat.eq_zero_or_pos k with h0|h0
  ·exact .inl h0
  right;have h1:k-1<l.length:=by omega
  simp[hk,h1];exact List.pairwise_iff_getElem.1 h.2 _ _ _ _ (by omega)
 intro k hk;rw[zbB hk,Option.bind_some,ziL,Option.bind_some,List.getElem?_eq_getElem hk,Option.any_some];show((if(!inB a b l[k])=true then _ else _:Option Bool).bind _)=_;cases h:inB a b l[k]with
 |false=>simp
 |true=>
  rcases Nat.eq_zero_or_pos k with h0|h0
  ·subst h0;simp
  ·have e:i64.wrap ((k:Int)-1)=((k-1:Nat):Int):=ceq (by omega) (by omega);have h1:k-1<l.length:=by omega
   have h2:¬k=0:=by omega
   rw[e,zbB h1];by_cases h3:l[k]≤l[k-1]
   ·have:¬l[k-1]<l[k]:=by omega
    simp[h0,hk,h1,h2,h3,this]
   ·have:l[k-1]<l[k]:=by omega
    simp[h0,hk,h1,h2,h3,this]
theorem zkp(a b:Bool):(if a=true then some b else some false)=some (a&&b):=by cases a<;>rfl
theorem zfq(a b:Bool):(if a=true then some true else some b)=some (a||b):=by cases a<;>rfl
theorem zDq(l:List Int)(a b:Int):zes l a b=some (l.all (inB a b)):=zuD l a b
theorem zvm(x a b:Int):zbc x a b=some (inB a b x):=ziL x a b
theorem zsV(x a b:Int):zaD x a b=some (inB a b x):=zdV x a b
theorem zA0(hl:l.length≤1000000000000):zgu l=some (zjM l):=zs9 zuG l hl
theorem zuN:∀{l:List Int}{c:Int},l.all (inB 0 c)=true→0≤l.sum∧l.sum≤l.length*c
 |[],_,_=>by simp
 |x::l,c,h=>by
  rw[List.all_cons,Bool.and_eq_true]at h;have h1:=zbe.1 h.1;have h2:=zuN h.2;rw[List.sum_cons,List.length_cons]
  push_cast
  rw[Int.add_mul];omega
theorem zyT{α:Type}{l:List α}{p:α→Bool}(h:l.all p=true)(k:Nat):(l.take k).all p=true:=by
 rw[List.all_eq_true]at h⊢;exact fun x hx=>h x (List.mem_of_mem_take hx)
theorem zyN(h:k<l.length):(l.take (k+1)).sum=(l.take k).sum+l[k]:=by
 rw[List.take_succ_eq_append_getElem h,List.sum_append];simp
theorem zsp{β:Type}(hv:v.all (inB 0 5)=true)(hl:v.length≤1000)(stop:Int→β):zar (fun i s=>(ix v i).bind fun x=>some (.go (i64.wrap (s+x)))) stop v.length 0 0=some (stop v.sum):=by
 refine zaj (za3 (fun k s=>s=(v.take k).sum) (by simp) ?_ ?_)
 ·rintro k s hk rfl;refine zaK hk (zab ?_);have h:=zuN (zyT hv (k+1));have h2:(v.take (k+1)).length≤1000:=by simp;omega
  show i64.wrap _=(v.take (k+1)).sum;rw[←zyN hk,zah (by omega) (by omega)]
 rintro s rfl;simp
noncomputable def zc6(ct:Contest)(v:List Int):Bool:=
 if ct.Kind=1 then v.all (inB 0 (ct.Options-1))&&(zlZ v&&zjM v)&&inB ct.Least ct.Most v.length
 else if ct.Kind=2 then decide ((v.length:Int)=ct.Options)&&(v.all (inB 0 ct.Points)&&inB ct.Least ct.Most v.sum)
 else if ct.Kind=3 then v.all (inB 0 (ct.Options-1))&&(zjM v&&inB ct.Least ct.Most v.length)
 else v.all (inB 1 26)&&inB ct.Least ct.Most v.length
theorem zdd{a' b':Int}(ha:a'≤a)(hb:b≤b')(h:l.all (inB a b)=true):l.all (inB a' b')=true:=by
 rw[List.all_eq_true]at h⊢;intro x hx;have:=zbe.1 (h x hx);exact zbe.2 (by omega)
theorem zz7(k:OkC ct)(hl:v.length≤1048576):zhw ct v=some (zc6 ct v):=by
 have w1:i64.wrap (ct.Options-1)=ct.Options-1:=by rcases k.k with h|h|h<;>exact zah (by omega) (by omega)
 unfold zhw zc6;simp only[zBx hl,zvm,zDq,zA0 (l:=v) (by omega),w1,Option.bind_some,zkp];by_cases k1:ct.Kind=1
 ·simp[k1]
 by_cases k2:ct.Kind=2
 ·simp only[k2];by_cases hn:(v.length:Int)=ct.Options
  ·cases ha:v.all (inB 0 ct.Points)with
   |false=>simp[hn]
   |true=>
    have hp:ct.Points≤5∧ct.Options≤8:=by rcases k.k with h|h|h<;>omega
    have e:zgU v=some v.sum:=by
     unfold zgU;rw[zsp (zdd (by omega) hp.1 ha) (by omega) (fun s=>s)];rfl
    simp[hn,e]
  simp[hn]
 by_cases k3:ct.Kind=3
 ·simp[k3]
 simp[k1,k2,k3]
theorem zoC(k:OkC ct)(hl:v.length≤1048576):zbX ct v=some (zc6 ct v):=by
 have w1:i64.wrap (ct.Options-1)=ct.Options-1:=by rcases k.k with h|h|h<;>exact zah (by omega) (by omega)
 unfold zbX zc6;simp only[zvR hl,zsV,zAf,zz5,zCM v (by omega),w1,Option.bind_some,zkp,zfq];by_cases k2:ct.Kind=2
 ·have k1:¬ct.Kind=1:=by omega
  have k3:¬ct.Kind=3:=by omega
  simp only[k2];by_cases hn:(v.length:Int)=ct.Options
  ·cases ha:v.all (inB 0 ct.Points)with
   |false=>simp[hn]
   |true=>
    have hp:ct.Points≤5∧ct.Options≤8:=by rcases k.k with h|h|h<;>omega
    have e:=zsp (zdd (by omega) hp.1 ha) (by omega) (fun s=>(Sum.inl (s,0,ct.Points):(Int×Int×Int) ⊕ Bool));simp only[hn,bne_self_eq_false,Bool.not_true,Bool.or_false,Bool.false_eq_true,if_false,beq_self_eq_true,if_true,e,Option.bind_some,Sum.elim_inl,ha];cases inB ct.Least ct.Most v.sum<;>simp
  have:((v.length:Int) !=ct.Options)=true:=by simpa using hn
  simp[this,hn]
 by_cases k1:ct.Kind=1
 ·simp[k1,-List.all_eq_true,-List.all_eq_false];cases inB ct.Least ct.Most v.length<;>cases v.all (inB 0 (ct.Options-1))<;>simp
 by_cases k3:ct.Kind=3
 ·simp[k3,-List.all_eq_true,-List.all_eq_false];cases inB ct.Least ct.Most v.length<;>cases v.all (inB 0 (ct.Options-1))<;>simp
 have k4:ct.Kind=4:=by rcases k.k with h|h|h<;>omega
 simp[k4,-List.all_eq_true,-List.all_eq_false];cases inB ct.Least ct.Most v.length<;>cases v.all (inB 1 26)<;>simp
def num(b:Int):List Int→Int
 |[]=>0
 |d::l=>num b l*b+d
theorem zwU{b:Int}(hb:0≤b∧b≤40):∀{l:List Int},l.all (inB 0 40)=true→0≤num b l∧num b l≤64^(l.length+1)
 |[],_=>by simp[num]
 |d::l,h=>by
  rw[List.all_cons,Bool.and_eq_true]at h;have h1:=zbe.1 h.1;have h2:=zwU hb h.2;have h3:num b l*b≤64^(l.length+1)*40:=Int.mul_le_mul h2.2 hb.2 hb.1 (by omega);have h4:=Int.mul_nonneg h2.1 hb.1;have h5:(1:Int)≤64^(l.length+1):=Int.pow_pos (by omega);simp only[num,List.length_cons];rw[Int.pow_succ (64:Int) (l.length+1)];omega
theorem zub(hb:0≤b∧b≤40)(hl:l.length≤8)(h:l.all (inB 0 40)=true):0≤num b l∧num b l≤18014398509481984:=by
 have:=zwU hb h;have h2:(64:Nat)^(l.length+1)≤64^9:=Nat.pow_le_pow_right (by omega) (by omega);have h3:((64^(l.length+1):Nat):Int)=(64:Int)^(l.length+1):=Int.natCast_pow 64 _;omega
theorem zsy(hb:0≤b∧b≤40)(hl:l.length≤8)(h:(l.map (· +m)).all (inB 0 40)=true){step:Int×Int→Option (Stp (Int×Int) Int)}
(hs:∀(k:Nat) (h:k<l.length) (a:Int),0≤a→a≤18014398509481984→step (a,(k:Int))=some (.go (a*b+(l[k]+m),(k:Int)-1)))(he:∀a,step (a,-1)=some (.out a)):
 zaH step (0,(l.length:Int)-1)=some (num b (l.map (· +m))):=by
 refine zaj (zfo l.length (fun j p=>p=(num b ((l.drop (l.length-j)).map (· +m)),((l.length-j:Nat):Int)-1)∧j≤l.length) ⟨by simp[num],by omega⟩ ?_ ?_)
 ·rintro j p hj ⟨rfl,_⟩;obtain⟨k,hk,e1,e2⟩:∃k:Nat,k<l.length∧l.length-j=k+1∧l.length-(j+1)=k:=⟨l.length-j-1,by omega,by omega,by omega⟩
  rw[e1]
  have hd:((l.drop (k+1)).map (· +m)).all (inB 0 40)=true:=by
   rw[List.all_eq_true]at h⊢;intro x hx;obtain⟨y,hy,rfl⟩:=List.mem_map.1 hx;exact h _ (List.mem_map.2 ⟨y,List.mem_of_mem_drop hy,rfl⟩)
  have bd:=zub hb (by simp;omega) hd;refine⟨.go (num b ((l.drop (k+1)).map (· +m))*b+(l[k]+m),(k:Int)-1),by rw[show((k+1:Nat):Int)-1=(k:Int)by omega];exact hs k hk _ bd.1 bd.2,?_,hj⟩;rw[e2,List.drop_eq_getElem_cons hk];rfl
 rintro p ⟨rfl,_⟩;refine⟨.out (num b (l.map (· +m))),?_,rfl⟩;rw[Nat.sub_self,List.drop_zero];exact he _
theorem zwZ(h:(l.map (· +m)).all (inB a b)=true)(hk:k<l.length):a≤l[k]+m∧l[k]+m≤b:=by
 rw[List.all_eq_true]at h;exact zbe.1 (h _ (List.mem_map.2 ⟨l[k],List.getElem_mem hk,rfl⟩))
theorem zeD(hb:0≤b∧b≤40)(hm:0≤m∧m≤1)(hl:l.length≤8)(h:(l.map (· +m)).all (inB 0 40)=true):zed l b m=some (num b (l.map (· +m))):=by
 unfold zed;rw[zah (n:=(l.length:Int)-1) (by omega) (by omega),zsy hb hl h,Option.bind_some]
 ·intro k hk a h0 h1;have h2:a*b≤18014398509481984*40:=Int.mul_le_mul h1 hb.2 hb.1 (by omega);have h3:=Int.mul_nonneg h0 hb.1;have h4:=zwZ h hk;rw[if_pos (by simp),zbB hk,Option.bind_some,zah (n:=a*b) (by omega) (by omega),zah (n:=a*b+l[k]) (by omega) (by omega),zah (n:=a*b+l[k]+m) (by omega) (by omega),zah (n:=(k:Int)-1) (by omega) (by omega),Int.add_assoc]
 intro a;rfl
theorem zkw(hb:0≤b∧b≤40)(hl:l.length≤8)(h:l.all (inB 0 40)=true):zf0 l b=some (num b l):=by
 have e:l.map (· +0)=l:=by simp
 unfold zf0;rw[zah (n:=(l.length:Int)-1) (by omega) (by omega),zsy (m:=0) hb hl (by rw[e];exact h),Option.bind_some,e]
 ·intro k hk a h0 h1;have h2:a*b≤18014398509481984*40:=Int.mul_le_mul h1 hb.2 hb.1 (by omega);have h3:=Int.mul_nonneg h0 hb.1;have h4:=zwZ (m:=0) (by rw[e];exact h) hk;rw[if_pos (by simp),zbB hk,Option.bind_some,zah (n:=a*b) (by omega) (by omega),zah (n:=a*b+l[k]) (by omega) (by omega),zah (n:=(k:Int)-1) (by omega) (by omega),Int.add_zero]
 intro a;rfl
def zdS(n:Nat)(v:List Int):List Int:=(List.range n).map fun(i:Nat)=>if v.contains (i:Int)=true then 1 else 0
theorem zf7(n:Nat)(v:List Int):(zdS n v).length=n:=by simp[zdS]
theorem zkR(ho:0≤ct.Options∧ct.Options≤8)(h:v.all (inB 0 (ct.Options-1))=true):zfg ct v=some (zdS ct.Options.toNat v):=by
 unfold zfg;refine zaj (zak (by omega) (zac rfl (zae (ψ:=fun b=>b=_) (za3 (fun k s=>s=zdS ct.Options.toNat (v.take k)) ?_ ?_ ?_) fun b hb=>zab hb)))
 ·simp[zdS,List.map_const']
 ·rintro k s hk rfl;have hv:=zbe.1 (List.all_eq_true.1 h _ (List.getElem_mem hk));obtain⟨x,hx⟩:∃x:Nat,v[k]=(x:Int):=⟨v[k].toNat,by omega⟩
  refine zaK hk ?_;rw[hx];refine zaK (by rw[zf7];omega) (zab ?_);show(zdS _ (v.take k)).set x 1=zdS _ (v.take (k+1));rw[List.take_succ_eq_append_getElem hk];apply List.ext_getElem (by simp[zf7]);intro i hi hi2;rw[List.getElem_set];simp only[zdS,List.getElem_map,List.getElem_range,List.contains_eq_mem,List.mem_append,List.mem_singleton,decide_eq_true_eq];by_cases e:x=i
  ·subst e;simp[hx]
  have:¬(i:Int)=v[k]:=by omega
  simp[e,this]
 rintro s rfl;rw[List.take_length]
theorem zvB(ct:Contest)(v:List Int):ze6 ct v=zfg ct v:=rfl
def rng(a:Int)(n:Nat):List Int:=(List.range n).map fun(i:Nat)=>a+(i:Int)
theorem znY(a:Int)(n:Nat):(rng a n).length=n:=by simp[rng]
theorem zyy(a:Int)(n:Nat):rng a (n+1)=rng a n++[a+(n:Int)]:=by simp[rng,List.range_succ]
theorem zp7{n:Nat}:x∈rng a n↔a≤x∧x<a+n:=by
 simp only[rng,List.mem_map,List.mem_range];constructor
 ·rintro⟨i,hi,rfl⟩;omega
 exact fun h=>⟨(x-a).toNat,by omega,by omega⟩
theorem zlK{n:Nat}(h1:b≤a)(h2:a+n-1≤c):(rng a n).all (inB b c)=true:=by
 rw[List.all_eq_true];intro x hx;have:=zp7.1 hx;exact zbe.2 (by omega)
theorem zlY{β:Type}{step:List Int×Int→Option (Stp (List Int×Int) β)}{f:Nat→Int}{out:List Int→β}(n:Nat)(hs:∀(k:Nat) (s:List Int),k<n→s.length=k→step (s,a+(k:Int))=some (.go (s++[f k],a+(k:Int)+1)))(he:∀s,step (s,a+(n:Int))=some (.out (out s))):
 zaH step ([],a)=some (out ((List.range n).map f)):=by
 refine zaj (zfo n (fun k p=>p=((List.range k).map f,a+(k:Int))) (by simp) ?_ ?_)
 ·rintro k p hk rfl;refine⟨_,hs k _ hk (by simp),?_⟩;show(_,_)=_;rw[List.range_succ,List.map_append];have e:a+(k:Int)+1=a+((k+1:Nat):Int):=by omega
  rw[e];rfl
 rintro p rfl;exact⟨_,he _,rfl⟩
theorem zC8{step:List Int×Int×Int→Option (Stp (List Int×Int×Int) (List Int))}{n:Nat}(hn:n≤8)(p:Int)(hp:0≤p∧p≤5)(hm:0≤m)
(hs:∀(k:Nat) (s:List Int) (r:Int),k<n→s.length=n→0≤r→r≤m→step (s,r,(k:Int))=some (.go (s.set k (if p<r then p else r),r-(if p<r then p else r),(k:Int)-1)))(he:∀s r,step (s,r,-1)=some (.out s)):
 ∃l,zaH step (List.replicate n 0,m,(n:Int)-1)=some l∧l.length=n∧l.all (inB 0 5)=true:=by
 refine zfo n (fun j x=>x.1.length=n∧x.1.all (inB 0 5)=true∧(0≤x.2.1∧x.2.1≤m)∧x.2.2=((n-j:Nat):Int)-1∧j≤n) ⟨by simp,?_,⟨hm,Int.le_refl _⟩,by simp,by omega⟩ ?_ ?_
 ·rw[List.all_eq_true];intro x hx;have:x=0:=(List.mem_replicate.1 hx).2;subst this;rfl
 ·rintro j ⟨s,r,c⟩ hj ⟨h1,h2,h3,h4,_⟩;simp only at h1 h2 h3 h4;obtain⟨k,hk,e1,e2⟩:∃k:Nat,k<n∧n-j=k+1∧n-(j+1)=k:=⟨n-j-1,by omega,by omega,by omega⟩
  have:c=(k:Int):=by omega
  subst this;have b:0≤(if p<r then p else r)∧(if p<r then p else r)≤5∧(if p<r then p else r)≤r:=by split<;>omega
  refine⟨.go (s.set k (if p<r then p else r),r-(if p<r then p else r),(k:Int)-1),hs k s r hk h1 h3.1 h3.2,by simpa using h1,?_,⟨by dsimp only;omega,by dsimp only;omega⟩,by dsimp only;omega,hj⟩;rw[List.all_eq_true]at h2⊢;intro x hx;rcases List.mem_or_eq_of_mem_set hx with h|rfl
  ·exact h2 x h
  exact zbe.2 ⟨b.1,b.2.1⟩
 rintro⟨s,r,c⟩ ⟨h1,h2,h3,h4,_⟩;simp only at h1 h2 h3 h4;have:c=-1:=by omega
 subst this;exact⟨_,he s r,h1,h2⟩
theorem zpG(k:OkC ct):∃n,zdb ct=some n∧zcx ct=some n:=by
 have lo:=k.lo;unfold zdb zcx;rcases k.k with⟨k13,ho,hm,hp⟩|⟨k2,ho,hp,hm⟩|⟨k4,ho,hm,hp⟩
 ·obtain⟨o,eo⟩:∃o:Nat,ct.Options=(o:Int):=⟨ct.Options.toNat,by omega⟩
  obtain⟨m,em⟩:∃m:Nat,ct.Most=(m:Int):=⟨ct.Most.toNat,by omega⟩
  have w:i64.wrap (ct.Options-ct.Most)=ct.Options-ct.Most:=zah (by omega) (by omega)
  have e1:∀{β:Type}(out:List Int→β),zaH (fun s5:List Int×Int=>if decide (s5.2<ct.Options)=true then(gd ((s5.1.length+1)*8≤140737488355328∧s5.1.length+1≤4611686018427387904)<|some (.go (s5.1++[s5.2],i64.wrap (s5.2+1))))else(some (.out (out s5.1)))) ([],ct.Options-ct.Most)=some (out (rng (ct.Options-ct.Most) m)):=fun{β} out=>by
   refine zlY m ?_ ?_
   ·intro c s hc hs;rw[if_pos (by simp;omega),zcB (by rw[hs];omega),zah (by dsimp only;omega) (by dsimp only;omega)]
   ·intro s;rw[if_neg (by simp;omega)]
  have hall:(rng (ct.Options-ct.Most) m).all (inB 0 (ct.Options-1))=true:=zlK (by omega) (by omega);rcases k13 with k1|k3
  ·rw[k1];simp only[show((1:Int)==1)=true from rfl,if_true,w]
   have e2:zaH (σ:=List Int×Int) (β:=List Int) (fun s5=>if decide (s5.2<ct.Options)=true then(((if decide (ct.Options-ct.Most≤s5.2)=true then(some 1)else(some 0):Option Int).bind fun x13=>
    gd ((s5.1.length+1)*8≤140737488355328∧s5.1.length+1≤4611686018427387904)<|some (.go (s5.1++[x13],i64.wrap (s5.2+1)))))else(some (.out s5.1))) ([],0)=some ((List.range o).map fun(i:Nat)=>if decide (ct.Options-ct.Most≤(i:Int))=true then 1 else 0):=by
    refine zlY (out:=fun s=>s) (a:=0) o ?_ ?_
    ·intro c s hc hs
     have hg:∀x:Int,gd ((s.length+1)*8≤140737488355328∧s.length+1≤4611686018427387904) (some (Stp.go (β:=List Int) (s++[x],i64.wrap (0+(c:Int)+1))))=some (.go (s++[x],0+(c:Int)+1)):=fun x=>by
      rw[zcB (by rw[hs];omega),zah (by omega) (by omega)]
     rw[if_pos (by simp;omega)];dsimp only;by_cases h:ct.Options-ct.Most≤(c:Int)
     ·rw[if_pos (by simpa using h),Option.bind_some,hg,if_pos (by simpa using h)]
     ·rw[if_neg (by simpa using h),Option.bind_some,hg,if_neg (by simpa using h)]
    ·intro s;rw[if_neg (by simp;omega)]
   have em2:zdS ct.Options.toNat (rng (ct.Options-ct.Most) m)=(List.range o).map fun(i:Nat)=>if decide (ct.Options-ct.Most≤(i:Int))=true then 1 else 0:=by
    have:ct.Options.toNat=o:=by omega
    rw[this];unfold zdS;refine List.map_congr_left fun i hi=>?_
    have hi:=List.mem_range.1 hi;congr 1;rw[List.contains_eq_mem,decide_eq_true_eq,decide_eq_true_eq,zp7];exact propext ⟨fun h=>h.1,fun h=>⟨h,by omega⟩⟩
   have ha:((List.range o).map fun(i:Nat)=>if decide (ct.Options-ct.Most≤(i:Int))=true then(1:Int)else 0).all (inB 0 40)=true:=by
    rw[List.all_map,List.all_eq_true];intro i _;show inB 0 40 (if _ then _ else _)=true;split<;>rfl
   have hb:zay ct=some 2:=by unfold zay;rw[k1];rfl
   refine⟨?_,?_,?_⟩
   rotate_left 2
   ·rw[e2,Option.bind_some,hb,Option.bind_some,zkw (by omega) (by simp;omega) ha];rfl
   rw[e1 (fun s=>s),Option.bind_some];unfold zbS;rw[k1,if_pos (show((1:Int)==1)=true from rfl),zkR (by omega) hall,Option.bind_some,em2,zeD (by omega) (by omega) (by simp;omega) (by simpa using ha)];simp;rfl
  rw[k3];simp only[show((3:Int)==1)=false from rfl,show((3:Int)==2)=false from rfl,show((3:Int)==3)=true from rfl,Bool.false_eq_true,if_false,if_true,w]
  have ee:(rng (ct.Options-ct.Most) m).map (· +1)=rng (ct.Options-ct.Most+1) m:=by
   simp only[rng,List.map_map];refine List.map_congr_left fun i hi=>?_
   show ct.Options-ct.Most+(i:Int)+1=ct.Options-ct.Most+1+(i:Int);omega
  have e2:zaH (σ:=List Int×Int) (β:=List Int) (fun s40=>if decide (s40.2<ct.Most)=true then(gd ((s40.1.length+1)*8≤140737488355328∧s40.1.length+1≤4611686018427387904)<|
   some (.go (s40.1++[i64.wrap ((i64.wrap (ct.Options-ct.Most+1))+s40.2)],i64.wrap (s40.2+1))))else(some (.out s40.1))) ([],0)=some (rng (ct.Options-ct.Most+1) m):=by
   refine zlY (out:=fun s=>s) (a:=0) (f:=fun i=>ct.Options-ct.Most+1+(i:Int)) m ?_ ?_
   ·intro c s hc hs;rw[if_pos (by simp;omega),zcB (by rw[hs];omega),zah (n:=ct.Options-ct.Most+1) (by omega) (by omega),zah (n:=0+(c:Int)+1) (by omega) (by omega),zah (by dsimp only;omega) (by dsimp only;omega),Int.zero_add]
   ·intro s;rw[if_neg (by simp;omega)]
  have ha:(rng (ct.Options-ct.Most+1) m).all (inB 0 40)=true:=zlK (by omega) (by omega);have hb:zay ct=some (ct.Options+1):=by unfold zay;rw[k3,zah (n:=ct.Options+1) (by omega) (by omega)];rfl
  refine⟨?_,?_,?_⟩
  rotate_left 2
  ·rw[e2,Option.bind_some,hb,Option.bind_some,zkw (by omega) (by rw[znY];omega) ha];rfl
  rw[e1 (fun s=>s),Option.bind_some];unfold zbS;rw[k3,zah (n:=ct.Options+1) (by omega) (by omega)];simp only[show((3:Int)==1)=false from rfl,show((3:Int)==2)=false from rfl,show((3:Int)==3)=true from rfl,Bool.false_eq_true,if_false,if_true];rw[zeD (by omega) (by omega) (by rw[znY];omega) (by rw[ee];exact ha),ee];rfl
 ·obtain⟨o,eo⟩:∃o:Nat,ct.Options=(o:Int):=⟨ct.Options.toNat,by omega⟩
  have mb:=zrW ho hp;rw[k2];simp only[show((2:Int)==1)=false from rfl,show((2:Int)==2)=true from rfl,Bool.false_eq_true,if_false,if_true];rw[zcB (by omega),zcB (by omega),Option.bind_some,Option.bind_some,zah (n:=ct.Options-1) (by omega) (by omega)];have hl:∀a b:Int,zbN a b=some (if a<b then a else b):=fun a b=>by unfold zbN;by_cases h:a<b<;>simp[h]
  have hmin:∀a b:Int,(if b<a then b else a)=(if a<b then a else b):=fun a b=>by split<;>split<;>omega
  have eS:=zC8 (step:=fun s26:List Int×Int×Int=>
   if decide (0≤s26.2.2)=true then(
   (zbN s26.2.1 ct.Points).bind fun z32=>
   (ix s26.1 s26.2.2).bind fun x33=>
   (ix (s26.1.set s26.2.2.toNat z32) s26.2.2).bind fun x34=>
   some (.go (s26.1.set s26.2.2.toNat z32,i64.wrap (s26.2.1-x34),i64.wrap (s26.2.2-1))))else(
   some (.out s26.1))) (n:=o) (m:=ct.Most) (by omega) ct.Points (by omega) (by omega) ?_ (fun s r=>rfl)
  ·obtain⟨l,h1,h2,h3⟩:=eS
   have e:(fun s26:List Int×Int×Int=>
    if decide (0≤s26.2.2)=true then(
    (zbN s26.2.1 ct.Points).bind fun z32=>
    (ix s26.1 s26.2.2).bind fun x33=>
    (ix (s26.1.set s26.2.2.toNat z32) s26.2.2).bind fun x34=>
    some (.go (s26.1.set s26.2.2.toNat z32,i64.wrap (s26.2.1-x34),i64.wrap (s26.2.2-1))))else(
    some (.out s26.1)))=(fun s29:List Int×Int×Int=>
    if decide (0≤s29.2.2)=true then(
    (ix s29.1 s29.2.2).bind fun x35=>
    (ix (s29.1.set s29.2.2.toNat (if ct.Points<s29.2.1 then ct.Points else s29.2.1)) s29.2.2).bind fun x36=>
    some (Stp.go (s29.1.set s29.2.2.toNat (if ct.Points<s29.2.1 then ct.Points else s29.2.1),i64.wrap (s29.2.1-x36),i64.wrap (s29.2.2-1))))else(
    some (.out s29.1))):=by
    funext s;simp only[hl,hmin,Option.bind_some]
   rw[←e];have:ct.Options.toNat=o:=by omega
   rw[this,eo,h1,Option.bind_some,Option.bind_some];have hb:zay ct=some (ct.Points+1):=by unfold zay;rw[k2,zah (by omega) (by omega)];rfl
   have ha:=zdd (a:=0) (a':=0) (b:=5) (b':=40) (by omega) (by omega) h3;refine⟨?_,?_,?_⟩
   rotate_left 2
   ·rw[hb,Option.bind_some,zkw (by omega) (by omega) ha];rfl
   unfold zbS;rw[k2,zah (n:=ct.Points+1) (by omega) (by omega)];simp only[show((2:Int)==1)=false from rfl,show((2:Int)==2)=true from rfl,Bool.false_eq_true,if_false,if_true];rw[zeD (by omega) (by omega) (by omega) (by simpa using ha)];simp
  intro c s r hc hs h0 h1;have hc2:c<(s.set c (if ct.Points<r then ct.Points else r)).length:=by simp;omega
  dsimp only;rw[if_pos (by simp),hl,Option.bind_some,zbB (by omega),Option.bind_some,←hmin,Int.toNat_natCast,zbB hc2,Option.bind_some];have b:0≤(if ct.Points<r then ct.Points else r)∧(if ct.Points<r then ct.Points else r)≤r:=by split<;>omega
  rw[List.getElem_set_self,zah (by omega) (by omega),zah (by omega) (by omega)]
 obtain⟨m,em⟩:∃m:Nat,ct.Most=(m:Int):=⟨ct.Most.toNat,by omega⟩
 rw[k4];simp only[show((4:Int)==1)=false from rfl,show((4:Int)==2)=false from rfl,show((4:Int)==3)=false from rfl,Bool.false_eq_true,if_false,if_true]
 have e1:zaH (σ:=List Int×Int) (β:=List Int) (fun s46=>if decide (s46.2<ct.Most)=true then(gd ((s46.1.length+1)*8≤140737488355328∧s46.1.length+1≤4611686018427387904)<|
  some (.go (s46.1++[26],i64.wrap (s46.2+1))))else(some (.out s46.1))) ([],0)=some ((List.range m).map fun _=>26):=by
  refine zlY (out:=fun s=>s) (a:=0) m ?_ ?_
  ·intro c s hc hs;rw[if_pos (by simp;omega),zcB (by rw[hs];omega),zah (by dsimp only;omega) (by dsimp only;omega)]
  ·intro s;rw[if_neg (by simp;omega)]
 have ha:((List.range m).map fun _=>(26:Int)).all (inB 0 40)=true:=by
  rw[List.all_map,List.all_eq_true];intro i _;rfl
 have hb:zay ct=some 27:=by unfold zay;rw[k4];rfl
 rw[e1,Option.bind_some,Option.bind_some];refine⟨?_,?_,?_⟩
 rotate_left 2
 ·rw[hb,Option.bind_some,zkw (by omega) (by simp;omega) ha];rfl
 unfold zbS;rw[k4];simp only[show((4:Int)==1)=false from rfl,show((4:Int)==2)=false from rfl,show((4:Int)==3)=false from rfl,Bool.false_eq_true,if_false,if_true];rw[zeD (by omega) (by omega) (by simp;omega) (by simpa using ha)];simp;rfl
theorem zjh(ct:Contest):zbi ct=some (ct.Kind==1||ct.Kind==2):=by
 unfold zbi;rw[zfq];rfl
theorem zif(ct:Contest):zeq ct=some (ct.Kind==1||ct.Kind==2):=by
 unfold zeq;rw[zfq];rfl
theorem zj8(gr:Group)(ct:Contest):∃b,zb4 gr ct=some b∧zdv gr ct=some b∧(b=true→OkG gr∧OkC ct):=by
 unfold zb4 zdv;rw[zks,zo5];simp only[ziP,zkI,zif,zjh,Option.bind_some];cases hg:okG gr with
 |false=>exact⟨false,rfl,rfl,fun h=>by cases h⟩
 |true=>
  cases hc:okC ct with
  |false=>exact⟨false,rfl,rfl,fun h=>by cases h⟩
  |true=>
   obtain⟨n,h1,h2⟩:=zpG (zl5.1 hc);simp only[h1,h2,Bool.not_true,Bool.false_eq_true,if_false,Option.bind_some];have k:=And.intro (zjV.1 hg) (zl5.1 hc);simp only[zfq,zkp,Option.bind_some];cases decide (100000<n)||decide (gr.Q≤n)with
   |true=>exact⟨false,rfl,rfl,fun h=>by cases h⟩
   |false=>exact⟨_,rfl,rfl,fun _=>k⟩
theorem zlS(h:l.length≤1048576):ze9 l=some l:=zcB (by omega)
theorem ziw{α:Type}{L:List (List α)}(h:i<L.length):(L.take (i+1)).flatten=(L.take i).flatten++L[i]:=by
 rw[List.take_succ_eq_append_getElem h,List.flatten_append];simp
theorem zo3{α:Type}(L:List (List α))(i:Nat):(L.take i).flatten.length≤L.flatten.length:=by
 have e:L.flatten=(L.take i).flatten++(L.drop i).flatten:=by rw[←List.flatten_append,List.take_append_drop]
 rw[e,List.length_append];omega
theorem zjE(L:List (List Int))(h:L.flatten.length≤1000000000000):zbn L=some L.flatten:=by
 unfold zbn;refine zaj (zae (ψ:=fun n=>n=(L.flatten.length:Int)) (za3 (fun i s=>s=((L.take i).flatten.length:Int)) rfl ?_ ?_) ?_)
 ·rintro i s hi rfl;have e:=congrArg List.length (ziw hi);rw[List.length_append]at e;have hl:=zo3 L (i+1);refine zaK hi ?_;rw[zah (by omega) (by omega)];refine zaB (by simp only[decide_eq_false_iff_not];omega) (zab ?_);show _=_;omega
 ·rintro s rfl;rw[List.take_length]
 rintro n rfl;refine zak (by omega) (zae (ψ:=fun r=>r=L.flatten) (za3 (fun i s=>s=(L.take i).flatten) rfl ?_ ?_) fun r hr=>zab hr)
 ·rintro i s hi rfl;have e:=congrArg List.length (ziw hi);rw[List.length_append]at e;have hl:=zo3 L (i+1);refine zaK hi (zak (by omega) (zab ?_));show _=_;rw[ziw hi]
 rintro s rfl;rw[List.take_length]
def chG(gr:Group)(s:ByteArray)(l:List Int):Int:=zvb s ([gr.P,gr.Q,gr.G]++l)%gr.Q
theorem zpx(k:OkG gr)(s:ByteArray)(l:List Int):0≤chG gr s l∧chG gr s l<gr.Q:=by
 have:=k.q;exact⟨Int.emod_nonneg _ (by omega),Int.emod_lt_of_pos _ (by omega)⟩
theorem zug(k:OkG gr) :([gr.P,gr.Q,gr.G]++l).all zbE=l.all zbE:=by
 have hp:=k.p;have hq:=k.q;have hg:=k.g;rw[List.all_append]
 have:[gr.P,gr.Q,gr.G].all zbE=true:=by
  simp only[List.all_cons,List.all_nil,Bool.and_true,Bool.and_eq_true];exact⟨zd9.2 (by omega),zd9.2 (by omega),zd9.2 (by omega)⟩
 rw[this,Bool.true_and]
theorem zm6(k:OkG gr)(hs:s.size≤1000000)(hl:l.length≤10000000000)(hd:l.all zbE=true):zbY gr s l=some (chG gr s l):=by
 have hq:=k.q;have hb:=zd9.1 (zoE s ([gr.P,gr.Q,gr.G]++l));unfold zbY;rw[zcB (by simp only[List.length_cons,List.length_nil];omega),zot hs (by simp only[List.length_append,List.length_cons,List.length_nil];omega) (by rw[zug k];exact hd),Option.bind_some,zcB (by omega),Int.tmod_eq_emod_of_nonneg hb.1];rfl
theorem zs8(k:OkG gr)(s:ByteArray)(hl:l.length≤10000000000):zbu gr s l=some (if zkT s ([gr.P,gr.Q,gr.G]++l)=true then(chG gr s l,true)else(0,false)):=by
 have hq:=k.q;have hb:=zd9.1 (zoE s ([gr.P,gr.Q,gr.G]++l));unfold zbu;rw[zcB (by simp only[List.length_cons,List.length_nil];omega),zqh,Option.bind_some];cases zkT s ([gr.P,gr.Q,gr.G]++l)with
 |false=>rfl
 |true=>
  simp only[if_true,Bool.not_true,Bool.false_eq_true,if_false];rw[zcB (by omega),Int.tmod_eq_emod_of_nonneg hb.1];rfl
theorem zuX(k:OkG gr)(hs:s.size≤40)(hl:4+s.size+l.length≤400)(hd:l.all zbE=true):zkT s ([gr.P,gr.Q,gr.G]++l)=true:=by
 unfold zkT;rw[zug k,hd,Bool.and_true,Bool.and_eq_true,decide_eq_true_eq,decide_eq_true_eq];simp only[List.length_append,List.length_cons,List.length_nil];omega
theorem zlz(k:OkG gr)(h:l.all (zaq gr)=true):l.all zbE=true:=by
 have hp:=k.p;rw[List.all_eq_true]at h⊢;intro x hx;have:=ziN (h x hx);exact zd9.2 (by omega)
def zfO(gr:Group):List Int→List Int→Int→Int
 |x::l,e::m,o=>zfO gr l m (o*zao gr x e%gr.P)
 |_,_,o=>o
theorem znB(gr:Group):∀(l m:List Int) (x e o:Int),l.length=m.length→zfO gr (l++[x]) (m++[e]) o=zfO gr l m o*zao gr x e%gr.P
 |[],[],x,e,o,_=>rfl
 |y::l,f::m,x,e,o,h=>znB gr l m x e _ (by simpa using h)
theorem zoz(gr:Group):∀(l m:List Int) (o:Int),zfO gr l (m.take l.length) o=zfO gr l m o
 |[],m,o=>by cases m<;>rfl
 |y::l,[],o=>rfl
 |y::l,f::m,o=>zoz gr l m _
theorem zqu{gr:Group}(h:0<gr.P):∀(l m:List Int) (o:Int),0≤o∧o<gr.P→0≤zfO gr l m o∧zfO gr l m o<gr.P
 |x::l,e::m,o,_=>zqu h l m _ ⟨Int.emod_nonneg _ (by omega),Int.emod_lt_of_pos _ h⟩
 |[],_,o,ho=>ho
 |_::_,[],o,ho=>ho
theorem zuQ(k:OkG gr)(hx:0≤x∧x<gr.P)(hy:0≤y):zcW gr [x,y]=x*y%gr.P:=by
 have hp:=k.p;simp only[zcW,List.foldl_cons,List.foldl_nil,Int.one_mul];rw[Int.emod_eq_of_lt hx.1 hx.2]
theorem zAx(k:OkG gr){m:List Int}(hl:∀x∈l,0≤x∧x≤2000000000)(hm:l.length≤m.length):zei gr l m=some (zfO gr l m 1):=by
 have hp:=k.p;unfold zei;refine zaj (zae (ψ:=fun b=>b=zfO gr l m 1) (za3 (fun i s=>s=zfO gr (l.take i) (m.take i) 1) rfl ?_ ?_) fun b hb=>zab hb)
 ·rintro i s hi rfl;have bd:=zqu (gr:=gr) (by omega) (l.take i) (m.take i) 1 (by omega);have hx:=hl l[i] (List.getElem_mem hi);have pb:=zfd k l[i] (m[i]'(by omega));refine zaK hi (zaK (show i<m.length by omega) (zac (zxA k hx.1 hx.2 _) (zak (by omega) (zab ?_))));show _=zfO gr (l.take (i+1)) (m.take (i+1)) 1;rw[List.take_succ_eq_append_getElem hi,List.take_succ_eq_append_getElem (show i<m.length by omega),znB _ _ _ _ _ _ (by simp;omega)];have b1:=Int.mul_nonneg bd.1 pb.1;have b2:zfO gr (l.take i) (m.take i) 1*zao gr l[i] (m[i]'(by omega))≤2000000000*2000000000:=Int.mul_le_mul (by omega) (by omega) pb.1 (by omega);rw[zah (by omega) (by omega),Int.tmod_eq_emod_of_nonneg b1]
 rintro s rfl;rw[List.take_length,zoz]
theorem zw7(k:OkG gr){m:List Int}(hl:∀x∈l,0≤x∧x≤2000000000)(hm:l.length≤m.length):zeK gr l m=some (zfO gr l m 1):=by
 have hp:=k.p;unfold zeK;refine zaj (zae (ψ:=fun b=>b=zfO gr l m 1) (za3 (fun i s=>s=zfO gr (l.take i) (m.take i) 1) rfl ?_ ?_) fun b hb=>zab hb)
 ·rintro i s hi rfl;have bd:=zqu (gr:=gr) (by omega) (l.take i) (m.take i) 1 (by omega);have hx:=hl l[i] (List.getElem_mem hi);have pb:=zfd k l[i] (m[i]'(by omega));refine zaK hi (zaK (show i<m.length by omega) (zac (zk2 k hx.1 hx.2 _).1 (zac (znN k ?_) (zab ?_))))
  ·intro y hy;simp only[List.mem_cons,List.not_mem_nil,or_false]at hy;rcases hy with rfl|rfl<;>omega
  show _=zfO gr (l.take (i+1)) (m.take (i+1)) 1;rw[List.take_succ_eq_append_getElem hi,List.take_succ_eq_append_getElem (show i<m.length by omega),znB _ _ _ _ _ _ (by simp;omega),zuQ k bd pb.1]
 rintro s rfl;rw[List.take_length,zoz]
structure LinS (gr:Group) (bs:List (List Int)):Prop where
 n:1≤bs.length∧bs.length≤8
 m:1≤(bs.headD []).length∧(bs.headD []).length≤8
 r:∀r∈bs,r.length=(bs.headD []).length∧r.all (zaq gr)=true
theorem zqS:∀{bs:List (List Int)}{c:Nat},(∀r∈bs,r.length≤c)→bs.flatten.length≤bs.length*c
 |[],_,_=>by simp
 |r::bs,c,h=>by
  have h1:=h r (List.mem_cons_self ..);have h2:=zqS fun x hx=>h x (List.mem_cons_of_mem r hx)
  rw[List.flatten_cons,List.length_append,List.length_cons,Nat.add_mul];omega
theorem LinS.flat(h:LinS gr bs):bs.flatten.length≤64:=by
 have:=zqS (bs:=bs) (c:=8) fun r hr=>by rw[(h.r r hr).1];exact h.m.2
 have:=h.n;omega
theorem LinS.dig(k:OkG gr)(h:LinS gr bs):bs.flatten.all zbE=true:=by
 rw[List.all_eq_true];intro x hx;obtain⟨r,hr,hx⟩:=List.mem_flatten.1 hx;exact List.all_eq_true.1 (zlz k (h.r r hr).2) x hx
theorem LinS.hd(h:LinS gr bs):ix bs 0=some (bs.headD []):=by
 cases bs with
 |nil=>have:=h.n;simp at this
 |cons r l=>rfl
theorem zig(k:OkG gr)(h:l.all (zaq gr)=true):∀x∈l,0≤x∧x≤2000000000:=fun x hx=>by
 have hp:=k.p;have:=ziN (List.all_eq_true.1 h x hx);omega
theorem zwu{cs:List Int}(h1:bs.flatten.length≤1000000)(h2:im.length≤1048576)(h3:cs.length≤1048576):zey bs im cs=some (bs.flatten++im++cs):=by
 unfold zey;refine zaj (zae (ψ:=fun r=>r=bs.flatten) (za3 (fun i s=>s=(bs.take i).flatten) rfl ?_ ?_) ?_)
 ·rintro i s hi rfl;have e:=congrArg List.length (ziw hi);rw[List.length_append]at e;have hl:=zo3 bs (i+1);refine zaK hi (zak (by omega) (zab ?_));show _=_;rw[ziw hi]
 ·rintro s rfl;rw[List.take_length]
 rintro r rfl;exact zak (by omega) (zak (by rw[List.length_append];omega) (zab rfl))
theorem zoQ(k:OkG gr){es:List Int}(hb:LinS gr bs)(he:es.length=(bs.headD []).length):zcN gr bs es=some (bs.map fun r=>zfO gr r es 1):=by
 unfold zcN;have hn:=hb.n;rw[zw8 (f:=fun r=>zfO gr r es 1) []]
 ·rfl
 intro i hi s hs;have hr:=hb.r _ (List.getElem_mem hi);rw[zbB hi,Option.bind_some,zw7 k (zig k hr.2) (by omega),Option.bind_some,zcB (by simp at hs;omega)]
def zmd(gr:Group)(s:ByteArray)(bs:List (List Int))(im:List Int)(p:Proof):Bool:=
 !(((p.Commits.length:Int) !=(bs.length:Int))||(((p.Challenges.length:Int) !=1)||(((p.Responses.length:Int) !=((bs.headD []).length:Int))||(!p.Commits.all (zaq gr)|| !p.Responses.all (zdU gr)))))&&
 (!(p.Challenges.headD 0 !=chG gr s (bs.flatten++im++p.Commits))&&
 (List.range bs.length).all fun i=> !(zfO gr (bs.getD i []) p.Responses 1 !=zcW gr [p.Commits.getD i 0,zao gr (im.getD i 0) (p.Challenges.headD 0)]))
theorem zxD(k:OkG gr)(hs:s.size≤40){p:Proof}(hb:LinS gr bs)(hi:im.length=bs.length)(hd:im.all (zaq gr)=true)(hc:p.Commits.length≤1048576):
 zgw gr s bs im p=some (zmd gr s bs im p):=by
 have hp:=k.p;have hq:=k.q;unfold zgw zmd;simp only[hb.hd,zrz k,zn9 (gr:=gr) (by omega) (by omega),Option.bind_some,zfq];cases hg:(((p.Commits.length:Int) !=(bs.length:Int))||(((p.Challenges.length:Int) !=1)||(((p.Responses.length:Int) !=((bs.headD []).length:Int))||(!p.Commits.all (zaq gr)|| !p.Responses.all (zdU gr)))))with
 |true=>rfl
 |false=>
  simp only[Bool.or_eq_false_iff,bne_eq_false_iff_eq,Bool.not_eq_false']at hg;obtain⟨g1,g2,g3,g4,g5⟩:=hg;have hf:=hb.flat;have hn:=hb.n
  obtain⟨c,hce⟩:∃c,p.Challenges=[c]:=by
   match h:p.Challenges,g2 with
   |[c],_=>exact⟨c,rfl⟩
  have hdig:(bs.flatten++im++p.Commits).all zbE=true:=by
   rw[List.all_append,List.all_append,hb.dig k,zlz k hd,zlz k g4];rfl
  simp only[Bool.false_eq_true,if_false,hce,show ix [c] 0=some c from rfl,Option.bind_some,zwu (bs:=bs) (im:=im) (cs:=p.Commits) (by omega) (by omega) hc];rw[zm6 k (by omega) (by simp only[List.length_append];omega) hdig,Option.bind_some];show _=some (!false&&(!(c !=_)&&_));by_cases hcc:c=chG gr s (bs.flatten++im++p.Commits)
  ·have e1:(c !=chG gr s (bs.flatten++im++p.Commits))=false:=by simpa using hcc
   rw[e1];simp only[Bool.false_eq_true,if_false,Bool.not_false,Bool.true_and];rw[zkC (fun i=> !(zfO gr (bs.getD i []) p.Responses 1 !=zcW gr [p.Commits.getD i 0,zao gr (im.getD i 0) c])) false true]
   ·simp only[Bool.if_true_left,Bool.if_false_right,Bool.and_true,Bool.decide_eq_true,Bool.or_false];rfl
   ·intro i hi;have hr:=hb.r _ (List.getElem_mem hi);have h1:i<p.Commits.length:=by omega
    have h2:i<im.length:=by omega
    have ic:=zig k g4 _ (List.getElem_mem h1);have ii:=zig k hd _ (List.getElem_mem h2);have pb:=zfd k im[i] c;rw[zbB hi,Option.bind_some,zbB h1,Option.bind_some,zbB h2,Option.bind_some,zAx k (zig k hr.2) (by omega),Option.bind_some,zxA k ii.1 ii.2,Option.bind_some,zsi k ?_,Option.bind_some]
    ·simp only[List.getD_eq_getElem?_getD,List.getElem?_eq_getElem hi,List.getElem?_eq_getElem h1,List.getElem?_eq_getElem h2,Option.getD_some];exact zl8 _ _ _
    ·intro y hy;simp only[List.mem_cons,List.not_mem_nil,or_false]at hy;rcases hy with rfl|rfl<;>omega
  ·have e1:(c !=chG gr s (bs.flatten++im++p.Commits))=true:=by simpa using hcc
   rw[e1];rfl
theorem zxg(k:OkG gr)(hs:s.size≤40){p:Proof}(hb:LinS gr bs)(hi:im.length=bs.length)(hd:im.all (zaq gr)=true)(hc:p.Commits.length≤1048576):
 zcT gr s bs im p=some (zmd gr s bs im p):=by
 have hp:=k.p;have hq:=k.q;unfold zcT zmd;simp only[hb.hd,zmg k,zju (gr:=gr) (by omega) (by omega),Option.bind_some,zfq];cases hg:(((p.Commits.length:Int) !=(bs.length:Int))||(((p.Challenges.length:Int) !=1)||(((p.Responses.length:Int) !=((bs.headD []).length:Int))||(!p.Commits.all (zaq gr)|| !p.Responses.all (zdU gr)))))with
 |true=>rfl
 |false=>
  simp only[Bool.or_eq_false_iff,bne_eq_false_iff_eq,Bool.not_eq_false']at hg;obtain⟨g1,g2,g3,g4,g5⟩:=hg;have hf:=hb.flat;have hn:=hb.n
  obtain⟨c,hce⟩:∃c,p.Challenges=[c]:=by
   match h:p.Challenges,g2 with
   |[c],_=>exact⟨c,rfl⟩
  have hdig:(bs.flatten++im++p.Commits).all zbE=true:=by
   rw[List.all_append,List.all_append,hb.dig k,zlz k hd,zlz k g4];rfl
  have hfl:[bs.flatten,im,p.Commits].flatten=bs.flatten++im++p.Commits:=by simp
  have hl:(bs.flatten++im++p.Commits).length≤80:=by simp only[List.length_append];omega
  simp only[Bool.false_eq_true,if_false,hce,show ix [c] 0=some c from rfl,Option.bind_some,zjE bs (by omega),zjE [bs.flatten,im,p.Commits] (by rw[hfl];omega),hfl];rw[zs8 k s (by omega),if_pos (zuX k hs (by omega) hdig),Option.bind_some];simp only[Bool.not_true,Bool.false_eq_true,if_false,Option.bind_some];show _=some (!false&&(!(c !=_)&&_));by_cases hcc:c=chG gr s (bs.flatten++im++p.Commits)
  ·have e1:(c !=chG gr s (bs.flatten++im++p.Commits))=false:=by simpa using hcc
   rw[e1,←hcc];simp only[Bool.false_eq_true,if_false,Bool.not_false,Bool.true_and];rw[zoQ k hb (by omega),Option.bind_some,zkC (fun i=> !(zfO gr (bs.getD i []) p.Responses 1 !=zcW gr [p.Commits.getD i 0,zao gr (im.getD i 0) c])) false true]
   ·simp only[Bool.if_true_left,Bool.if_false_right,Bool.and_true,Bool.decide_eq_true,Bool.or_false,List.length_map];rfl
   ·intro i hi;have hi':i<bs.length:=by simpa using hi
    have h1:i<p.Commits.length:=by omega
    have h2:i<im.length:=by omega
    have ic:=zig k g4 _ (List.getElem_mem h1);have ii:=zig k hd _ (List.getElem_mem h2);have pb:=zfd k im[i] c;rw[zbB hi,Option.bind_some,zbB h1,Option.bind_some,zbB h2,Option.bind_some,(zk2 k ii.1 ii.2 _).1,Option.bind_some,znN k ?_,Option.bind_some]
    ·simp only[List.getElem_map,List.getD_eq_getElem?_getD,List.getElem?_eq_getElem hi',List.getElem?_eq_getElem h1,List.getElem?_eq_getElem h2,Option.getD_some];exact zl8 _ _ _
    ·intro y hy;simp only[List.mem_cons,List.not_mem_nil,or_false]at hy;rcases hy with rfl|rfl<;>omega
  ·have e1:(c !=chG gr s (bs.flatten++im++p.Commits))=true:=by simpa using hcc
   rw[e1];rfl
theorem zfc(k:OkG gr):zaq gr gr.G=true:=by
 have hg:=k.g;simp only[zaq,Bool.and_eq_true,decide_eq_true_eq];exact⟨by omega,k.o⟩
theorem zoY(h:zaq gr x=true):LinS gr [[x]]:=⟨by simp,by simp,fun r hr=>by
 rw[List.mem_singleton.1 hr]
 simp[h]⟩
def zyj(gr:Group)(s:ByteArray)(key:Int)(p:Proof):Bool:=zmd gr s [[gr.G]] [key] p
def zbs(l:List Int):List Int:=(l.length:Int)::l
def zfG(p:Proof):List Int:=zbs p.Commits++zbs p.Challenges++zbs p.Responses
theorem zpn(h:l.length≤10000000):zdk l=some (zbs l):=by
 unfold zdk;rw[zcB (by simp;omega)];rfl
def zi5(l:List Int):Bool:=decide ((l.length:Int)≤400)&&l.all zbE
theorem zj6(l:List Int):zdE l=some (zi5 l):=by
 unfold zdE
 have h1:zbO l=some (l.all zbE):=ziR (f:=zbd) fun x _=>by
  unfold zbd;rw[zpc];rfl
 rw[h1,Option.bind_some,zkp];rfl
theorem zmo(l:List Int):zdQ l=some (if zi5 l=true then(l,true)else([],false)):=by
 unfold zdQ;rw[zj6];cases zi5 l<;>rfl
theorem zrf{p:Proof}(h1:p.Commits.length≤1048576)(h2:p.Challenges.length≤1048576)(h3:p.Responses.length≤1048576):zd3 p=some (if zi5 (zfG p)=true then(zfG p,true)else([],false)):=by
 have e:[zbs p.Commits,zbs p.Challenges,zbs p.Responses].flatten=zfG p:=by simp[zfG]
 unfold zd3;rw[zpn (by omega),Option.bind_some,zpn (by omega),Option.bind_some,zpn (by omega),Option.bind_some,zjE _ (by rw[e];simp[zfG,zbs];omega),Option.bind_some,e,zmo];cases zi5 (zfG p)<;>rfl
theorem zAM{β:Type}{f:Nat→Option β}{n:Nat}{b:β}(h:f n=some b)(mono:∀n b,f n=some b→f (n+1)=some b):zqd f=some b:=by
 obtain⟨b',m,h1,h2⟩:=zAQ h
 have up:∀k n b,f n=some b→f (n+k)=some b:=by
  intro k;induction k with
  |zero=>intro n b h;exact h
  |succ k ih=>intro n b h;exact mono _ _ (ih n b h)
 have a:=up m n b h;have c:=up n m b' h2;rw[Nat.add_comm m n,a]at c;cases c;exact h1
theorem zu8{α:Type}{l:List α}{i:Int}(h0:0≤i)(h:i<l.length):ix l i=some (l[i.toNat]'(by omega)):=by
 obtain⟨k,rfl⟩:=Int.eq_ofNat_of_zero_le h0;exact zbB (by omega)
def zE0{α:Type}(f:α→Int)(L:List α)(T:Nat):List α:=(List.range T).flatMap fun i=>L.filter fun e=>f e==((i+1:Nat):Int)
theorem zkP(k:OkG gr)(ha:0≤a):zao gr gr.G a=((gr.G.toNat^a.toNat%gr.P.toNat:Nat):Int):=by
 have hq:=k.q;obtain⟨n,rfl⟩:=Int.eq_ofNat_of_zero_le ha;obtain⟨q,hQ⟩:=Int.eq_ofNat_of_zero_le (show 0≤gr.Q by omega);unfold zao;have ho:=k.o;rw[hQ]at ho⊢;rw[Int.toNat_natCast]at ho;rw[←Int.natCast_emod,Int.toNat_natCast,Int.toNat_natCast,zlD ho]
theorem zst(k:OkG gr)(ha:0≤a)(hb:0≤b):zcW gr [zao gr gr.G a,zao gr gr.G b]=zao gr gr.G (a+b):=by
 have hp:=k.p;obtain⟨P,hP⟩:=Int.eq_ofNat_of_zero_le (show 0≤gr.P by omega);have hx:=zfd k gr.G a;rw[zuQ k (by omega) (zfd k gr.G b).1,zkP k ha,zkP k hb,zkP k (by omega),hP];rw[←Int.natCast_mul,←Int.natCast_emod,Int.toNat_natCast,←Nat.mul_mod,←Nat.pow_add,Int.toNat_add ha hb]
theorem zxK(k:OkG gr):zao gr gr.G 0=1:=by
 have hp:=k.p;rw[zkP k (Int.le_refl 0)];show((1%gr.P.toNat:Nat):Int)=1;rw[Nat.mod_eq_of_lt (by omega)];rfl
theorem zzX(x:Int)(h:a%gr.Q=b%gr.Q):zao gr x a=zao gr x b:=by
 unfold zao;rw[h]
theorem zAN(k:OkG gr)(hc:0≤c):zaq gr (zao gr gr.G c)=true:=by
 have hb:=zfd k gr.G c;have hp:=k.p;have hq:=k.q
 have h3:(zao gr gr.G c).toNat^gr.Q.toNat%gr.P.toNat=1:=by
  rw[zkP k hc,Int.toNat_natCast,←Nat.pow_mod,←Nat.pow_mul,Nat.mul_comm,Nat.pow_mul,Nat.pow_mod,k.o,Nat.one_pow,Nat.mod_eq_of_lt (by omega)]
 have h1:1≤zao gr gr.G c:=by
  by_cases h0:zao gr gr.G c=0
  ·rw[h0,show(0:Int).toNat=0 from rfl,Nat.zero_pow (by omega),Nat.zero_mod]at h3;omega
  ·omega
 simp only[zaq,Bool.and_eq_true,decide_eq_true_eq];exact⟨⟨h1,hb.2⟩,h3⟩
theorem zz2(a b:Int):zbN a b=some (if a<b then a else b):=by unfold zbN;by_cases h:a<b<;>simp[h]
theorem zqZ(hb:Bt code)(h:Cu code n (c0,at_,seed))(hn:n≤5000000000000000):Rn (zci c0 at_ seed) (fun z=>Cu code (n+12) z.2):=by
 unfold zci;refine zae (zdr hb h (by omega)) fun z1 ⟨_,_,_,_,y1⟩=>?_
 refine zae (zdr hb y1 (by omega)) fun z2 ⟨_,_,_,_,y2⟩=>?_
 refine zae (znP hb y2 (by omega)) fun z3 y3=>?_
 refine zae (ψ:=fun _=>True) (zan (fun _=>zab trivial) fun _=>zab trivial) fun x6 _=>?_
 refine zae (ψ:=fun x=>Cu code (n+8) x.1) (zan (fun _=>zae (zdr hb y3 (by omega)) fun z ⟨_,_,_,_,y⟩=>zab (y.mono (by omega))) fun _=>zan (fun _=>zab (y3.mono (by omega))) fun _=>zab (y3.mono (by omega))) fun x10 w=>?_
 refine zac (zz2 _ _) ?_;refine zae (zdr hb w (by omega)) fun z4 ⟨_,_,_,_,y4⟩=>?_
 refine zae (zdr hb y4 (by omega)) fun z5 ⟨_,_,_,_,y5⟩=>?_
 exact zab (y5.mono (by omega))
theorem zsd(hb:Bt code)(h:Cu code n (c0,at_,seed))(hn:n≤4000000000000000):Rn (zcp c0 at_ seed) (fun z=>Cu code (n+16) z.2):=by
 unfold zcp;refine zae (zqZ hb h (by omega)) fun z1 y1=>?_
 refine zae (zdr hb y1 (by omega)) fun z2 ⟨_,_,_,_,y2⟩=>?_
 have am:∀l:List Int,l≠[]→Rn (zal z2.2.1 z2.2.2.1 z2.2.2.2 l) (fun z=>Cu code (n+16) z.2):=fun l hl=>by
  obtain⟨v,v1,v2⟩:=zfk (l:=l) hb y2 (by omega) hl;exact⟨v,v1,v2.2.mono (by omega)⟩
 refine zae (ψ:=fun x=>Cu code (n+16) x.1) ?_ fun x hx=>zab hx
 refine zan (fun _=>zae (am _ (by simp)) fun z hz=>zab hz) fun _=>?_
 refine zan (fun _=>zae (am _ (by simp)) fun z hz=>zab hz) fun _=>?_
 refine zan (fun _=>zae (am _ (by simp)) fun z hz=>zab hz) fun _=>?_
 refine zan (fun _=>zae (am _ (by simp)) fun z hz=>zab hz) fun _=>?_
 refine zan (fun _=>zae (am _ (by simp)) fun z hz=>zab hz) fun _=>?_
 exact zab (y2.mono (by omega))
theorem zuo(k:OkG gr)(x e:Int):zfO gr [x] [e] 1=zao gr x e:=by
 have hb:=zfd k x e;show 1*zao gr x e%gr.P=_;rw[Int.one_mul,Int.emod_eq_of_lt hb.1 (by omega)]
def zgm(gr:Group)(s:ByteArray)(x w:Int):Int:=chG gr s ([[gr.G]].flatten++[zao gr gr.G x]++[zao gr gr.G w])
def zhR(gr:Group)(s:ByteArray)(x w:Int):Proof:=⟨[zao gr gr.G w],[zgm gr s x w],[(w+zgm gr s x w*x)%gr.Q]⟩
theorem zCH(k:OkG gr)(s:ByteArray){w:Int}(hx:0≤x)(hw:0≤w):zyj gr s (zao gr gr.G x) (zhR gr s x w)=true:=by
 have hq:=k.q;have he:0≤zgm gr s x w∧zgm gr s x w<gr.Q:=zpx k s _;have hE:chG gr s [gr.G,zao gr gr.G x,zao gr gr.G w]=zgm gr s x w:=rfl
 have h1:zdU gr ((w+zgm gr s x w*x)%gr.Q)=true:=by
  have a:=Int.emod_nonneg (w+zgm gr s x w*x) (show gr.Q≠0 by omega);have b:=Int.emod_lt_of_pos (w+zgm gr s x w*x) (show 0<gr.Q by omega);simp only[zdU,Bool.and_eq_true,decide_eq_true_eq];omega
 have h2:zfO gr [gr.G] [(w+zgm gr s x w*x)%gr.Q] 1=zcW gr [zao gr gr.G w,zao gr (zao gr gr.G x) (zgm gr s x w)]:=by
  rw[zuo k,zrV k (zfc k) hx he.1,zst k hw (Int.mul_nonneg hx he.1)];refine zzX _ ?_;rw[zBS,Int.mul_comm x]
 unfold zyj zmd zhR;generalize zgm gr s x w=c at he hE h1 h2⊢;simp only[List.length_cons,List.length_nil,List.headD_cons,List.all_cons,List.all_nil,zAN k hw,h1,Bool.and_true,Bool.not_true,Bool.or_false];simp[h2,List.range_succ,hE]
structure Gb (gr:Group):Prop where
 p:1≤gr.P∧gr.P≤2000000000
 q:1≤gr.Q∧gr.Q≤2000000000
 g:0≤gr.G∧gr.G≤2000000000
theorem OkG.gb(k:OkG gr):Gb gr:=by
 have hp:=k.p;have hq:=k.q;have hg:=k.g;exact⟨by omega,by omega,by omega⟩
theorem zrT(k:Gb gr)(x e:Int):0≤zao gr x e∧zao gr x e≤gr.P-1:=by
 have hp:=k.p;unfold zao;have:=Nat.mod_lt (x.toNat^(e%gr.Q).toNat) (show 0<gr.P.toNat by omega);omega
theorem zAj(k:Gb gr)(h0:0≤x)(h1:x≤2000000000)(e:Int):zau gr x e=some (zao gr x e):=by
 have hp:=k.p;have hq:=k.q;have b1:=Int.emod_nonneg e (show gr.Q≠0 by omega);have b2:=Int.emod_lt_of_pos e (show 0<gr.Q by omega);unfold zau;rw[znw (by omega) hq.2,Option.bind_some,(zh2 h0 h1 hp.1 hp.2 b1 (by omega)).2];rfl
theorem zyx(k:Gb gr)(w:Int):zei gr [gr.G] [w]=some (zao gr gr.G w):=by
 have hp:=k.p;have hg:=k.g;have hb:=zrT k gr.G w;unfold zei;refine zaj (zae (ψ:=fun s=>s=zao gr gr.G w) (za3 (fun i s=>s=if i=0 then 1 else zao gr gr.G w) rfl ?_ fun s h=>h) fun s h=>zab h);rintro i s hi rfl;have hi:i<1:=hi;obtain rfl:i=0:=by omega
 refine zaK (l:=[gr.G]) (by simp) (zaK (l:=[w]) (by simp) (zac (zAj k hg.1 hg.2 _) (zak (by omega) (zab ?_))));show(i64.wrap (1*zao gr gr.G w)).tmod gr.P=zao gr gr.G w;rw[Int.one_mul,zah (by omega) (by omega),Int.tmod_eq_emod_of_nonneg hb.1,Int.emod_eq_of_lt hb.1 (by omega)]
theorem zqQ(k:Gb gr)(w:Int):zfE gr [[gr.G]] [w]=some [zao gr gr.G w]:=by
 unfold zfE;rw[zw8 (l:=[[gr.G]]) (f:=fun _=>zao gr gr.G w) []]
 ·rfl
 intro i hi s hs;have hi:i<1:=hi;obtain rfl:i=0:=by omega
 rw[zbB (l:=[[gr.G]]) (k:=0) (by simp),Option.bind_some];show(zei gr [gr.G] [w]).bind _=_;rw[zyx k,Option.bind_some,zcB (by have:=hs;simp only[List.length_nil]at this;omega)]
theorem zzD(k:Gb gr)(x w:Int):([gr.P,gr.Q,gr.G]++([[gr.G]].flatten++[zao gr gr.G x]++[zao gr gr.G w])).all zbE=true:=by
 have hp:=k.p;have hq:=k.q;have hg:=k.g;have b1:=zrT k gr.G x;have b2:=zrT k gr.G w;simp[zbE];omega
theorem zqD(k:Gb gr)(s:ByteArray)(x w:Int):0≤zgm gr s x w∧zgm gr s x w<gr.Q:=by
 have hq:=k.q;exact⟨Int.emod_nonneg _ (by omega),Int.emod_lt_of_pos _ (by omega)⟩
theorem zAo(k:OkG gr):zdi gr [[gr.G]]=some true:=by
 have h1:zaQ [[gr.G]] [[gr.G]] gr.P gr.Q gr.G=some (-1):=by
  unfold zaQ;refine zaj (zae (ψ:=fun v=>v=.inl ()) (za3 (fun _ _=>True) trivial ?_ fun s _=>rfl) ?_)
  ·rintro i s hi _;have hi:i<1:=hi;obtain rfl:i=0:=by omega
   refine zaK (l:=[[gr.G]]) (by simp) ?_
   have e:zdq [gr.G] [[gr.G]] gr.P gr.Q gr.G=some false:=by
    unfold zdq
    have hh:zbV ⟨gr.P,gr.Q,gr.G⟩ [gr.G]=some true:=by
     rw[show(⟨gr.P,gr.Q,gr.G⟩:Group)=gr from rfl,zmg k];simp[zfc k]
    simp[ix,hh]
   exact zac e (zaB rfl (zab trivial))
  ·rintro _ rfl;exact zab rfl
 unfold zdi za4;rw[zsV,show ix [[gr.G]] 0=some [gr.G]from rfl,h1];rfl
theorem zzi(gr:Group)(hs:s.size≤40)(x w:Int):zc1 gr s gr.G x w=some (if(okG gr&&(zdU gr x&&zdU gr w))=true then(zhR gr s x w,true)else(⟨[],[],[]⟩,false)):=by
 unfold zc1 zcG zd1;rw[zo5];cases hg:okG gr with
 |false=>rfl
 |true=>
  have k:=zjV.1 hg;have hq:=k.q;have hp:=k.p
  have ha:∀y,zaM gr [y]=some (zdU gr y):=fun y=>by
   rw[zju (gr:=gr) (by omega) (by omega)];simp
  have e:decide ((s.size:Int)≤40)=true:=decide_eq_true (by omega);rw[zAo k,ha,ha,e,show ix [[gr.G]] 0=some [gr.G]from rfl];cases h1:zdU gr x with
  |false=>rfl
  |true=>
   cases h2:zdU gr w with
   |false=>rfl
   |true=>
    simp only[zdU,Bool.and_eq_true,decide_eq_true_eq]at h1 h2;have hb:=zoY (zfc k);have b1:=zfd k gr.G x;have b2:=zfd k gr.G w
    have hc:zbu gr s ([[gr.G]].flatten++[zao gr gr.G x]++[zao gr gr.G w])=some (zgm gr s x w,true):=by
     rw[zs8 k s (by simp),if_pos (zuX k hs (by simp;omega) ?_)]
     ·rfl
     ·have:=zzD k.gb x w;rw[List.all_append]at this;exact(Bool.and_eq_true_iff.1 this).2
    have he:=zqD k.gb s x w;simp only[Option.bind_some,Bool.not_true,Bool.false_eq_true,if_false,Bool.and_self,if_true,List.length_cons,List.length_nil,bne_self_eq_false];rw[show zhR gr s x w=⟨[zao gr gr.G w],[zgm gr s x w],[(w+zgm gr s x w*x)%gr.Q]⟩from rfl];unfold zc9;rw[zoQ k (es:=[w]) hb rfl,zoQ k (es:=[x]) hb rfl,zjE _ (by simp)];simp only[List.map_cons,List.map_nil,zuo k,Option.bind_some];rw[zjE _ (by simp)];simp only[Option.bind_some];rw[show[[[gr.G]].flatten,[zao gr gr.G x],[zao gr gr.G w]].flatten=[[gr.G]].flatten++[zao gr gr.G x]++[zao gr gr.G w]from rfl,hc];simp only[Option.bind_some,Bool.not_true,Bool.false_eq_true,if_false];generalize zgm gr s x w=c at he hc;have hm:0≤c*x:=Int.mul_nonneg he.1 h1.1;have hm2:c*x≤2000000000*2100000000:=Int.mul_le_mul (by omega) (by omega) h1.1 (by omega)
    have hl:zar (σ:=List Int×List Int×List Int) (β:=List Int×List Int×List Int) (fun i21 s20=>(ix [w] i21).bind fun x27=>(ix [x] i21).bind fun x28=>(zbF gr (i64.wrap (x27+(i64.wrap (c*x28))))).bind fun z29=>gd ((s20.2.2.length+1)*8≤140737488355328∧s20.2.2.length+1≤4611686018427387904)<|
     some (.go (s20.1,s20.2.1,s20.2.2++[z29]))) (fun s20=>(s20.1,s20.2.1,s20.2.2)) ([w].length) 0 ([zao gr gr.G w],[c],[])=some ([zao gr gr.G w],[c],[(w+c*x)%gr.Q]):=by
     refine zaj (za3 (fun i s=>s=if i=0 then([zao gr gr.G w],[c],[])else([zao gr gr.G w],[c],[(w+c*x)%gr.Q])) rfl ?_ fun s h=>h);rintro i s hi rfl;have hi:i<1:=hi;obtain rfl:i=0:=by omega
     refine zaK (l:=[w]) (by simp) (zaK (l:=[x]) (by simp) ?_);show Rn ((zbF gr (i64.wrap (w+i64.wrap (c*x)))).bind _) _;unfold zbF;rw[zah (n:=c*x) (by omega) (by omega),zah (n:=w+c*x) (by omega) (by omega),zwe (by omega) (by omega)];exact zak (by simp) (zab rfl)
    rw[hl];rfl
def SmP(p:Proof):Prop:=p.Commits.length≤1001∧p.Challenges.length≤1001∧p.Responses.length≤1001
theorem zqL{p:Proof}(hb:Bt code)(h:Cu code n (c0,at_,seed))(hn:n≤3000000000000000)(k:Gw gr)(hp:p.Commits.length≤1000∧p.Challenges.length≤1000∧p.Responses.length≤1000):
 Rn (zbI c0 at_ seed gr p) (fun z=>SmP z.1∧Cu code (n+12) z.2):=by
 unfold zbI;rw[zlS (l:=p.Commits) (by omega),zlS (l:=p.Challenges) (by omega),zlS (l:=p.Responses) (by omega)];simp only[Option.bind_some];refine zae (zdr hb h (by omega)) fun z1 ⟨_,_,_,_,y1⟩=>?_
 have sp:SmP p:=⟨by omega,by omega,by omega⟩
 have pk:∀l:List Int,0<l.length→Rn (zag z1.2.1 z1.2.2.1 z1.2.2.2 (l.length:Int)) (fun z=>(∃i:Nat,z.1=(i:Int)∧i<l.length)∧Cu code (n+4) z.2):=fun l hl=>by
  obtain⟨v,v1,w0,w1,w2,_,w3⟩:=zdr (m:=(l.length:Int)) hb y1 (by omega);obtain⟨i,hi⟩:=Int.eq_ofNat_of_zero_le w0;refine⟨v,v1,⟨i,hi,?_⟩,w3.mono (by omega)⟩;rcases Int.lt_or_le 1 (l.length:Int)with g|g
  ·have:=w2 g;omega
  ·have:=w1 g;omega
 refine zae (ψ:=fun x=>match x with| .inl v=>SmP ⟨v.2.1,v.2.2.1,v.2.2.2⟩∧Cu code (n+12) v.1| .inr v=>SmP v.1∧Cu code (n+12) v.2) ?_ ?_
 ·refine zan (fun _=>zan (fun g=>?_) fun _=>zab ⟨sp,y1.mono (by omega)⟩) fun _=>?_
  ·have g:0<p.Responses.length:=by simpa using g
   refine zae (pk _ g) fun z2 ⟨⟨i,e,hi⟩,y2⟩=>?_
   refine zae (zq6 hb y2 (by omega) k) fun z3 ⟨_,_,y3⟩=>?_
   rw[e];exact zaK hi (zab ⟨⟨by show p.Commits.length≤1001;omega,by show p.Challenges.length≤1001;omega,by show(p.Responses.set _ _).length≤1001;simp;omega⟩,y3.mono (by omega)⟩)
  refine zan (fun _=>zan (fun g=>?_) fun _=>zab ⟨sp,y1.mono (by omega)⟩) fun _=>?_
  ·have g:0<p.Commits.length:=by simpa using g
   refine zae (pk _ g) fun z2 ⟨⟨i,e,hi⟩,y2⟩=>?_
   refine zae (ziS hb y2 (by omega) k) fun z3 ⟨_,_,y3⟩=>?_
   rw[e];exact zaK hi (zab ⟨⟨by show(p.Commits.set _ _).length≤1001;simp;omega,by show p.Challenges.length≤1001;omega,by show p.Responses.length≤1001;omega⟩,y3.mono (by omega)⟩)
  refine zan (fun _=>zan (fun g=>?_) fun _=>zab ⟨sp,y1.mono (by omega)⟩) fun _=>?_
  ·have g:0<p.Challenges.length:=by simpa using g
   refine zae (pk _ g) fun z2 ⟨⟨i,e,hi⟩,y2⟩=>?_
   refine zae (zq6 hb y2 (by omega) k) fun z3 ⟨_,_,y3⟩=>?_
   rw[e];exact zaK hi (zab ⟨⟨by show p.Commits.length≤1001;omega,by show(p.Challenges.set _ _).length≤1001;simp;omega,by show p.Responses.length≤1001;omega⟩,y3.mono (by omega)⟩)
  refine zan (fun _=>zak (by omega) (zab ⟨⟨by show p.Commits.length≤1001;omega,by show p.Challenges.length≤1001;omega,by show(p.Responses++[0]).length≤1001;simp;omega⟩,y1.mono (by omega)⟩)) fun _=>?_
  exact zan (fun _=>zab ⟨⟨by simp,by simp,by simp⟩,y1.mono (by omega)⟩) fun _=>zab ⟨sp,y1.mono (by omega)⟩
 intro x hx;cases x with
 |inl v=>exact zab hx
 |inr v=>exact zab hx
theorem zmr :zdC l l=some true:=by
 unfold zdC;refine zaj (zaB (by simp) (zae (ψ:=fun v=>v=.inl ()) (za3 (fun _ _=>True) trivial ?_ fun s _=>rfl) ?_))
 ·rintro k s hk _;exact zaK hk (zaK hk (zaB (by simp) (zab trivial)))
 rintro _ rfl;exact zab rfl
theorem zzK(p:Proof):zex p p=some true:=by
 unfold zex;rw[zmr,zmr,zmr];rfl
theorem Gb.w(k:Gb gr):Gw gr:=by
 have a:=k.p;have b:=k.q;have c:=k.g;exact⟨by omega,by omega,by omega⟩
theorem zuv:∀{l r:List Int},l.Pairwise (· < ·)→r.Pairwise (· < ·)→(∀x,x∈l↔x∈r)→l=r
 |[],[],_,_,_=>rfl
 |[],b::r,_,_,h=>by have:=(h b).2 (by simp);simp at this
 |a::l,[],_,_,h=>by have:=(h a).1 (by simp);simp at this
 |a::l,b::r,hl,hr,h=>by
  obtain⟨l1,l2⟩:=List.pairwise_cons.1 hl;obtain⟨r1,r2⟩:=List.pairwise_cons.1 hr
  have e:a=b:=by
   rcases List.mem_cons.1 ((h a).1 (by simp))with e|e
   ·exact e
   ·rcases List.mem_cons.1 ((h b).2 (by simp))with e'|e'
    ·exact e'.symm
    ·have:=r1 a e;have:=l1 b e';omega
  subst e;rw[zuv l2 r2 fun x=>?_];constructor
  ·intro hx;rcases List.mem_cons.1 ((h x).1 (List.mem_cons_of_mem _ hx))with e|e
   ·have:=l1 x hx;omega
   ·exact e
  ·intro hx;rcases List.mem_cons.1 ((h x).2 (List.mem_cons_of_mem _ hx))with e|e
   ·have:=r1 x hx;omega
   exact e
theorem zuk(hb:1≤b){m n:Nat}(h:m≤n):b^m≤b^n:=by
 obtain⟨k,rfl⟩:=Nat.exists_eq_add_of_le h;have h1:(0:Int)<b^m:=Int.pow_pos (by omega);have h2:(0:Int)<b^k:=Int.pow_pos (by omega);rw[Int.pow_add];have:=Int.mul_le_mul_of_nonneg_left (show(1:Int)≤b^k by omega) (show 0≤b^m by omega);omega
theorem zn2(b x:Int):∀l:List Int,num b (l++[x])=num b l+x*b^l.length
 |[]=>by simp[num]
 |d::l=>by
  show num b (l++[x])*b+d=num b l*b+d+x*b^(l.length+1);rw[zn2 b x l,Int.pow_succ];grind
theorem zjq{b:Int}(hb:1≤b):∀{l:List Int},l.all (inB 0 (b-1))=true→0≤num b l∧num b l<b^l.length
 |[],_=>by simp[num]
 |d::l,h=>by
  rw[List.all_cons,Bool.and_eq_true,zbe]at h;obtain⟨h1,h2⟩:=zjq hb h.2;have h3:num b l*b≤(b^l.length-1)*b:=Int.mul_le_mul_of_nonneg_right (by omega) (by omega);have h4:=Int.mul_nonneg h1 (show 0≤b by omega);have h5:(b^l.length-1)*b=b^(l.length+1)-b:=by rw[Int.pow_succ];grind
  show 0≤num b l*b+d∧num b l*b+d<b^(l.length+1);omega
theorem zuJ{t:List Int}(hb:1≤b)(hl:l.all (inB 0 (b-1))=true)(ht:t.all (inB 0 (b-1))=true)(hlen:l.length≤t.length)(hx:0≤x)(h:x<y∨(x=y∧num b l≤num b t)):num b (l++[x])≤num b (t++[y]):=by
 rw[zn2,zn2];obtain⟨l1,l2⟩:=zjq hb hl;obtain⟨t1,t2⟩:=zjq hb ht;have hp:b^l.length≤b^t.length:=zuk hb hlen;have hp0:(0:Int)<b^l.length:=Int.pow_pos (by omega);rcases h with h|⟨rfl,h⟩
 ·have h1:(x+1)*b^l.length≤y*b^t.length:=Int.mul_le_mul (by omega) hp (by omega) (by omega);have h2:(x+1)*b^l.length=x*b^l.length+b^l.length:=by grind
  omega
 have:=Int.mul_le_mul_of_nonneg_left hp hx;omega
theorem zt1(h:(l++[x]).all (inB a b)=true):l.all (inB a b)=true∧a≤x∧x≤b:=by
 rw[List.all_append,Bool.and_eq_true]at h;exact⟨h.1,zbe.1 (by simpa using h.2)⟩
theorem zqn{b:Int}:∀{l:List Int},l.all (inB 0 b)=true→0≤l.sum
 |[],_=>by simp
 |x::l,h=>by
  rw[List.all_cons,Bool.and_eq_true,zbe]at h;have:=zqn h.2;rw[List.sum_cons];omega
def gre(p:Int):Nat→Int→List Int
 |0,_=>[]
 |n+1,m=>gre p n (m-(if p<m then p else m))++[if p<m then p else m]
theorem znO(p:Int):∀(n:Nat) (m:Int),(gre p n m).length=n
 |0,_=>rfl
 |n+1,m=>by simp[gre,znO p n]
theorem znU{p:Int}(hp:0≤p):∀(n:Nat) {m:Int},0≤m→(gre p n m).all (inB 0 p)=true
 |0,_,_=>rfl
 |n+1,m,hm=>by
  rw[gre,List.all_append,znU hp n (by split<;>omega)];simp only[List.all_cons,List.all_nil,Bool.and_true,Bool.true_and,zbe];split<;>omega
theorem zqw{p:Int}(hp:0≤p):∀{n:Nat}{m:Int}{l:List Int},l.length=n→l.all (inB 0 p)=true→l.sum≤m→num (p+1) l≤num (p+1) (gre p n m)
 |0,m,l,hl,_,_=>by
  rw[List.length_eq_zero_iff.1 hl];exact Int.le_refl _
 |n+1,m,l,hl,ha,hs=>by
  rcases List.eq_nil_or_concat l with rfl|⟨l,x,rfl⟩
  ·simp at hl
  ·rw[List.concat_eq_append]at*;rw[List.length_append]at hl;have hl:l.length=n:=by simpa using hl
   obtain⟨a1,a2,a3⟩:=zt1 ha;have hs0:=zqn a1;rw[List.sum_append]at hs;have hs:l.sum+x≤m:=by simpa using hs
   rw[gre];have hm:0≤m:=by omega
   refine zuJ (by omega) (zdd (Int.le_refl 0) (by omega) a1) (zdd (Int.le_refl 0) (by omega) (znU hp n (by split<;>omega))) (by rw[znO];omega) a2 ?_;by_cases c:x=(if p<m then p else m)
   ·refine .inr ⟨c,zqw hp hl a1 (by omega)⟩
   ·refine .inl ?_;split at c<;>split<;>omega
theorem zuT:∀(o:Nat) (m:Int),0≤m→m≤o→gre 1 o m=(List.range o).map fun(i:Nat)=>if decide ((o:Int)-m≤(i:Int))=true then(1:Int)else 0
 |0,_,_,_=>rfl
 |o+1,m,h0,h1=>by
  rw[gre,zuT o _ (by split<;>omega) (by split<;>omega),List.range_succ,List.map_append];congr 1
  ·refine List.map_congr_left fun i hi=>?_
   have hi:=List.mem_range.1 hi;by_cases c:((o+1:Nat):Int)-m≤(i:Int)
   ·rw[decide_eq_true c,decide_eq_true (by split<;>omega)]
   ·rw[decide_eq_false c,decide_eq_false (by split<;>omega)]
  ·by_cases c:m<1
   ·obtain rfl:m=0:=by omega
    rw[if_neg (by omega),List.map_cons,List.map_nil,decide_eq_false (by omega)];simp
   ·rw[show(if 1<m then 1 else m)=1 by split<;>omega,List.map_cons,List.map_nil,decide_eq_true (by omega)];simp
theorem zni:∀{l v:List Int},l.Nodup→(∀x∈l,x∈v)→l.length≤v.length
 |[],v,_,_=>by simp
 |x::l,v,hn,hs=>by
  obtain⟨h1,h2⟩:=List.nodup_cons.1 hn;have hx:=hs x (by simp);have:=zni (l:=l) (v:=v.erase x) h2 fun y hy=>(List.mem_erase_of_ne (show y≠x from fun e=>h1 (e▸hy))).2 (hs y (List.mem_cons_of_mem _ hy))
  rw[List.length_erase_of_mem hx]at this;have:=List.length_pos_of_mem hx;rw[List.length_cons];omega
theorem zxz(n:Nat)(p:Nat→Bool):(((List.range n).filter p).map fun(i:Nat)=>(i:Int)).Nodup:=by
 rw[List.Nodup,List.pairwise_map];exact((List.nodup_range (n:=n)).filter p).imp fun h=>by omega
theorem zqK(n:Nat)(v:List Int):(zdS n v).sum≤v.length:=by
 have e:∀l:List Nat,(l.map fun(i:Nat)=>if v.contains (i:Int)=true then(1:Int)else 0).sum=((List.filter (fun(i:Nat)=>v.contains (i:Int)) l).length:Int):=by
  intro l;induction l with
  |nil=>rfl
  |cons i l ih=>
   rw[List.map_cons,List.sum_cons,ih,List.filter_cons];cases v.contains (i:Int)<;>simp<;>omega
 unfold zdS;rw[e]
 have:=zni (v:=v) (zxz n fun i=>v.contains (i:Int)) fun x hx=>by
  obtain⟨i,hi,rfl⟩:=List.mem_map.1 hx;simpa using(List.mem_filter.1 hi).2
 rw[List.length_map]at this;omega
theorem zlc(n:Nat)(v:List Int):(zdS n v).all (inB 0 1)=true:=by
 unfold zdS;rw[List.all_map,List.all_eq_true];intro i _;show inB 0 1 (if _ then _ else _)=true;split<;>rfl
theorem zwx{b:Int}:∀{m:Nat}{o:Int}{l:List Int},(m:Int)≤o→o+1≤b→l.Nodup→l.all (inB 1 o)=true→l.length≤m→num b l≤num b (rng (o-m+1) m)
 |0,o,l,_,_,_,_,hl=>by
  rw[List.length_eq_zero_iff.1 (show l.length=0 by omega)];exact Int.le_refl _
 |m+1,o,l,hm,hb,hn,ha,hl=>by
  have ht:(rng (o-((m+1:Nat):Int)+1) m).all (inB 0 (b-1))=true:=zlK (by omega) (by omega);rw[zyy];rcases List.eq_nil_or_concat l with rfl|⟨l,x,rfl⟩
  ·have:(rng (o-((m+1:Nat):Int)+1) m++[o-((m+1:Nat):Int)+1+(m:Int)]).all (inB 0 (b-1))=true:=by
    rw[List.all_append,ht];simp only[List.all_cons,List.all_nil,Bool.and_true,Bool.true_and,zbe];omega
   exact(zjq (by omega) this).1
  ·rw[List.concat_eq_append]at*;rw[List.length_append]at hl;have hl:l.length≤m:=by simpa using hl
   obtain⟨a1,a2,a3⟩:=zt1 ha;have hn2:=List.nodup_append.1 hn;refine zuJ (by omega) (zdd (by omega) (by omega) a1) ht (by rw[znY];omega) (by omega) ?_;by_cases c:x=o
   ·refine .inr ⟨by omega,?_⟩
    have a4:l.all (inB 1 (o-1))=true:=by
     rw[List.all_eq_true]at a1⊢;intro y hy;have h1:=zbe.1 (a1 y hy);have h2:y≠x:=hn2.2.2 y hy x (by simp);exact zbe.2 (by omega)
    have:=zwx (b:=b) (m:=m) (o:=o-1) (by omega) (by omega) hn2.1 a4 hl;rw[show o-((m+1:Nat):Int)+1=o-1-(m:Int)+1 by omega];exact this
   ·exact .inl (by omega)
theorem zxW:∀m:Nat,num 27 ((List.range m).map fun _=>(26:Int))=27^m-1
 |0=>rfl
 |m+1=>by
  rw[List.range_succ,List.map_append,List.map_cons,List.map_nil,zn2,zxW m,List.length_map,List.length_range,Int.pow_succ];grind
theorem zCp{m:Nat}(ha:l.all (inB 1 26)=true)(hl:l.length≤m):num 27 l≤num 27 ((List.range m).map fun _=>(26:Int)):=by
 rw[zxW];have h1:=(zjq (b:=27) (by omega) (zdd (a':=0) (by omega) (by omega) ha)).2;have h2:(27:Int)^l.length≤27^m:=zuk (by omega) hl;omega
theorem zBu{step:List Int×Int×Int→Option (Stp (List Int×Int×Int) (List Int))}{n:Nat}{p:Int}(hp:0≤p)(hm:0≤m)
(hs:∀(k:Nat) (s:List Int) (r:Int),k<n→s.length=n→0≤r→r≤m→step (s,r,(k:Int))=some (.go (s.set k (if p<r then p else r),r-(if p<r then p else r),(k:Int)-1)))(he:∀s r,step (s,r,-1)=some (.out s)):
 zaH step (List.replicate n 0,m,(n:Int)-1)=some (gre p n m):=by
 refine zaj (zfo n (fun j x=>∃t,x.1=List.replicate (n-j) 0++t∧gre p n m=gre p (n-j) x.2.1++t∧(0≤x.2.1∧x.2.1≤m)∧x.2.2=((n-j:Nat):Int)-1∧j≤n∧t.length=j) ⟨[],by simp,by simp,⟨hm,Int.le_refl _⟩,by simp,by omega,rfl⟩ ?_ ?_)
 ·rintro j ⟨s,r,c⟩ hj ⟨t,h1,h2,h3,h4,_,h6⟩;simp only at h1 h2 h3 h4;obtain⟨k,hk,e1,e2⟩:∃k:Nat,k<n∧n-j=k+1∧n-(j+1)=k:=⟨n-j-1,by omega,by omega,by omega⟩
  obtain rfl:c=(k:Int):=by omega
  have b:0≤(if p<r then p else r)∧(if p<r then p else r)≤r:=by split<;>omega
  rw[e1]at h1 h2;refine⟨_,hs k s r hk (by rw[h1];simp;omega) h3.1 h3.2,(if p<r then p else r)::t,?_,?_,⟨by dsimp only;omega,by dsimp only;omega⟩,by dsimp only;omega,hj,by simp[h6]⟩
  ·show s.set k _=_;rw[h1,e2,List.replicate_succ',List.append_assoc,List.set_append_right _ _ (by simp)];simp
  rw[h2,e2,gre];simp
 rintro⟨s,r,c⟩ ⟨t,h1,h2,h3,h4,_,_⟩;simp only at h1 h2 h3 h4;have:c=-1:=by omega
 subst this;refine⟨_,he s r,?_⟩;show s=_;rw[h1,h2,Nat.sub_self];rfl
def zfX(ct:Contest):Int:=if ct.Kind=1 then 2 else if ct.Kind=2 then ct.Points+1 else if ct.Kind=3 then ct.Options+1 else 27
def zck(ct:Contest)(v:List Int):List Int:=if ct.Kind=1 then zdS ct.Options.toNat v else if ct.Kind=3 then v.map (· +1)else v
def zfm(ct:Contest)(v:List Int):Int:=num (zfX ct) (zck ct v)
theorem zlO(k:OkC ct)(hv:zc6 ct v=true):zbS ct v=some (zfm ct v)∧(zck ct v).all (inB 0 (zfX ct-1))=true∧(zck ct v).length≤8:=by
 unfold zbS zfm zfX zck;unfold zc6 at hv;rcases k.k with⟨k1|k3,ho,hm,hp⟩|⟨k2,ho,hp,hm⟩|⟨k4,ho,hm,hp⟩
 ·simp only[k1,if_true,Bool.and_eq_true]at hv⊢;have hl:=zbe.1 hv.2;refine⟨?_,zlc _ _,by rw[zf7];omega⟩;rw[if_pos (show((1:Int)==1)=true from rfl),zkR (by omega) hv.1.1,Option.bind_some,zeD (by omega) (by omega) (by rw[zf7];omega) (by simpa using zdd (Int.le_refl 0) (by omega) (zlc _ _))];simp
 ·simp only[k3,show¬(3:Int)=1 by omega,show¬(3:Int)=2 by omega,if_false,if_true,Bool.and_eq_true]at hv⊢;have hl:=zbe.1 hv.2.2
  have ha:(v.map (· +1)).all (inB 0 (ct.Options+1-1))=true:=by
   rw[List.all_map,List.all_eq_true];intro x hx;have:=zbe.1 (List.all_eq_true.1 hv.1 x hx);exact zbe.2 (show 0≤x+1∧x+1≤ct.Options+1-1 by omega)
  refine⟨?_,ha,by simp;omega⟩;rw[zah (n:=ct.Options+1) (by omega) (by omega)];simp only[show((3:Int)==1)=false from rfl,show((3:Int)==2)=false from rfl,show((3:Int)==3)=true from rfl,Bool.false_eq_true,if_false,if_true];rw[zeD (by omega) (by omega) (by omega) (zdd (Int.le_refl 0) (by omega) ha)];rfl
 ·simp only[k2,show¬(2:Int)=1 by omega,show¬(2:Int)=3 by omega,if_false,if_true,Bool.and_eq_true,decide_eq_true_eq]at hv⊢;refine⟨?_,zdd (Int.le_refl 0) (by omega) hv.2.1,by omega⟩;rw[zah (n:=ct.Points+1) (by omega) (by omega)];simp only[show((2:Int)==1)=false from rfl,show((2:Int)==2)=true from rfl,Bool.false_eq_true,if_false,if_true];rw[zeD (by omega) (by omega) (by omega) (by simpa using zdd (Int.le_refl 0) (by omega) hv.2.1)];simp
 simp only[k4,show¬(4:Int)=1 by omega,show¬(4:Int)=2 by omega,show¬(4:Int)=3 by omega,if_false,Bool.and_eq_true]at hv⊢;have hl:=zbe.1 hv.2;refine⟨?_,zdd (by omega) (by omega) hv.1,by omega⟩;simp only[show((4:Int)==1)=false from rfl,show((4:Int)==2)=false from rfl,show((4:Int)==3)=false from rfl,Bool.false_eq_true,if_false];rw[zeD (by omega) (by omega) (by omega) (by simpa using zdd (by omega) (by omega) hv.1)];simp
theorem zz9(k:OkC ct):∃n,zdb ct=some n∧∀v,zc6 ct v=true→0≤zfm ct v∧zfm ct v≤n:=by
 have lo:=k.lo
 have nn:∀v,zc6 ct v=true→0≤zfm ct v:=fun v hv=>by
  have h1:1≤zfX ct:=by
   unfold zfX;rcases k.k with⟨_,ho,hm,hp⟩|⟨_,ho,hp,hm⟩|⟨_,ho,hm,hp⟩<;>(repeat' split)<;>omega
  exact(zjq h1 (zlO k hv).2.1).1
 unfold zdb;rcases k.k with⟨k13,ho,hm,hp⟩|⟨k2,ho,hp,hm⟩|⟨k4,ho,hm,hp⟩
 ·obtain⟨o,eo⟩:∃o:Nat,ct.Options=(o:Int):=⟨ct.Options.toNat,by omega⟩
  obtain⟨m,em⟩:∃m:Nat,ct.Most=(m:Int):=⟨ct.Most.toNat,by omega⟩
  have w:i64.wrap (ct.Options-ct.Most)=ct.Options-ct.Most:=zah (by omega) (by omega)
  have e1:zaH (fun s5:List Int×Int=>if decide (s5.2<ct.Options)=true then(gd ((s5.1.length+1)*8≤140737488355328∧s5.1.length+1≤4611686018427387904)<|some (.go (s5.1++[s5.2],i64.wrap (s5.2+1))))else(some (.out s5.1))) ([],ct.Options-ct.Most)=some (rng (ct.Options-ct.Most) m):=by
   refine zlY (out:=fun s=>s) m ?_ ?_
   ·intro c s hc hs;rw[if_pos (by simp;omega),zcB (by rw[hs];omega),zah (by dsimp only;omega) (by dsimp only;omega)]
   ·intro s;rw[if_neg (by simp;omega)]
  have hall:(rng (ct.Options-ct.Most) m).all (inB 0 (ct.Options-1))=true:=zlK (by omega) (by omega);rcases k13 with k1|k3
  ·rw[k1];simp only[show((1:Int)==1)=true from rfl,if_true,w]
   have em2:zdS ct.Options.toNat (rng (ct.Options-ct.Most) m)=gre 1 o ct.Most:=by
    rw[show ct.Options.toNat=o by omega,zuT o _ (by omega) (by omega)];unfold zdS;refine List.map_congr_left fun i hi=>?_
    have hi:=List.mem_range.1 hi;congr 1;rw[List.contains_eq_mem,decide_eq_true_eq,decide_eq_true_eq,zp7];exact propext ⟨fun h=>by omega,fun h=>by omega⟩
   refine⟨num 2 (gre 1 o ct.Most),?_,fun v hv=>⟨nn v hv,?_⟩⟩
   ·rw[e1,Option.bind_some];unfold zbS;rw[k1,if_pos (show((1:Int)==1)=true from rfl),zkR (by omega) hall,Option.bind_some,em2,zeD (by omega) (by omega) (by rw[znO];omega) (by simpa using zdd (Int.le_refl 0) (by omega) (znU (by omega) o (by omega)))];simp
   unfold zc6 at hv;simp only[k1,if_true,Bool.and_eq_true]at hv;have hl:=zbe.1 hv.2;have hs:=zqK ct.Options.toNat v;unfold zfm zfX zck;rw[if_pos k1,if_pos k1,show(2:Int)=1+1 from rfl];exact zqw (by omega) (by rw[zf7];omega) (zlc _ _) (by omega)
  rw[k3];simp only[show((3:Int)==1)=false from rfl,show((3:Int)==2)=false from rfl,show((3:Int)==3)=true from rfl,Bool.false_eq_true,if_false,if_true,w]
  have ee:(rng (ct.Options-ct.Most) m).map (· +1)=rng (ct.Options-ct.Most+1) m:=by
   simp only[rng,List.map_map];refine List.map_congr_left fun i hi=>?_
   show ct.Options-ct.Most+(i:Int)+1=ct.Options-ct.Most+1+(i:Int);omega
  have ha:(rng (ct.Options-ct.Most+1) m).all (inB 0 40)=true:=zlK (by omega) (by omega);refine⟨num (ct.Options+1) (rng (ct.Options-ct.Most+1) m),?_,fun v hv=>⟨nn v hv,?_⟩⟩
  ·rw[e1,Option.bind_some];unfold zbS;rw[k3,zah (n:=ct.Options+1) (by omega) (by omega)];simp only[show((3:Int)==1)=false from rfl,show((3:Int)==2)=false from rfl,show((3:Int)==3)=true from rfl,Bool.false_eq_true,if_false,if_true];rw[zeD (by omega) (by omega) (by rw[znY];omega) (by rw[ee];exact ha),ee];rfl
  unfold zc6 at hv;simp only[k3,show¬(3:Int)=1 by omega,show¬(3:Int)=2 by omega,if_false,if_true,Bool.and_eq_true]at hv;have hl:=zbe.1 hv.2.2;unfold zfm zfX zck;rw[if_neg (by omega),if_neg (by omega),if_pos k3,if_neg (by omega),if_pos k3,em];refine zwx (by omega) (Int.le_refl _) ?_ ?_ (by simp;omega)
  ·have:=of_decide_eq_true (show decide v.Nodup=true from hv.2.1);rw[List.Nodup,List.pairwise_map];exact this.imp fun h=>by omega
  rw[List.all_map,List.all_eq_true];intro x hx;have:=zbe.1 (List.all_eq_true.1 hv.1 x hx);exact zbe.2 (show 1≤x+1∧x+1≤ct.Options by omega)
 ·obtain⟨o,eo⟩:∃o:Nat,ct.Options=(o:Int):=⟨ct.Options.toNat,by omega⟩
  have mb:=zrW ho hp;rw[k2];simp only[show((2:Int)==1)=false from rfl,show((2:Int)==2)=true from rfl,Bool.false_eq_true,if_false,if_true];rw[zcB (by omega),Option.bind_some,zah (n:=ct.Options-1) (by omega) (by omega)];have hl:∀a b:Int,zbN a b=some (if a<b then a else b):=fun a b=>by unfold zbN;by_cases h:a<b<;>simp[h]
  have hmin:∀a b:Int,(if a<b then a else b)=(if b<a then b else a):=fun a b=>by split<;>split<;>omega
  have eS:=zBu (step:=fun s26:List Int×Int×Int=>
   if decide (0≤s26.2.2)=true then(
   (zbN s26.2.1 ct.Points).bind fun z32=>
   (ix s26.1 s26.2.2).bind fun x33=>
   (ix (s26.1.set s26.2.2.toNat z32) s26.2.2).bind fun x34=>
   some (.go (s26.1.set s26.2.2.toNat z32,i64.wrap (s26.2.1-x34),i64.wrap (s26.2.2-1))))else(
   some (.out s26.1))) (n:=o) (m:=ct.Most) (p:=ct.Points) (by omega) (by omega) ?_ (fun s r=>rfl)
  ·have ha:=zdd (a':=0) (b':=40) (Int.le_refl 0) (by omega) (znU (p:=ct.Points) (by omega) o (m:=ct.Most) (by omega));have:ct.Options.toNat=o:=by omega
   refine⟨num (ct.Points+1) (gre ct.Points o ct.Most),?_,fun v hv=>⟨nn v hv,?_⟩⟩
   ·rw[this,eo,eS,Option.bind_some];unfold zbS;rw[k2,zah (n:=ct.Points+1) (by omega) (by omega)];simp only[show((2:Int)==1)=false from rfl,show((2:Int)==2)=true from rfl,Bool.false_eq_true,if_false,if_true];rw[zeD (by omega) (by omega) (by rw[znO];omega) (by simpa using ha)];simp
   unfold zc6 at hv;simp only[k2,show¬(2:Int)=1 by omega,if_false,if_true,Bool.and_eq_true,decide_eq_true_eq]at hv;have hs:=zbe.1 hv.2.2;unfold zfm zfX zck;rw[if_neg (by omega),if_pos k2,if_neg (by omega),if_neg (by omega)];exact zqw (by omega) (by omega) hv.2.1 (by omega)
  intro c s r hc hs h0 h1;have hc2:c<(s.set c (if ct.Points<r then ct.Points else r)).length:=by simp;omega
  dsimp only;rw[if_pos (by simp),hl,Option.bind_some,zbB (by omega),Option.bind_some,hmin,Int.toNat_natCast,zbB hc2,Option.bind_some];have b:0≤(if ct.Points<r then ct.Points else r)∧(if ct.Points<r then ct.Points else r)≤r:=by split<;>omega
  rw[List.getElem_set_self,zah (by omega) (by omega),zah (by omega) (by omega)]
 obtain⟨m,em⟩:∃m:Nat,ct.Most=(m:Int):=⟨ct.Most.toNat,by omega⟩
 rw[k4];simp only[show((4:Int)==1)=false from rfl,show((4:Int)==2)=false from rfl,show((4:Int)==3)=false from rfl,Bool.false_eq_true,if_false,if_true]
 have e1:zaH (σ:=List Int×Int) (β:=List Int) (fun s46=>if decide (s46.2<ct.Most)=true then(gd ((s46.1.length+1)*8≤140737488355328∧s46.1.length+1≤4611686018427387904)<|
  some (.go (s46.1++[26],i64.wrap (s46.2+1))))else(some (.out s46.1))) ([],0)=some ((List.range m).map fun _=>26):=by
  refine zlY (out:=fun s=>s) (a:=0) m ?_ ?_
  ·intro c s hc hs;rw[if_pos (by simp;omega),zcB (by rw[hs];omega),zah (by dsimp only;omega) (by dsimp only;omega)]
  ·intro s;rw[if_neg (by simp;omega)]
 have ha:((List.range m).map fun _=>(26:Int)).all (inB 0 40)=true:=by
  rw[List.all_map,List.all_eq_true];intro i _;rfl
 refine⟨num 27 ((List.range m).map fun _=>26),?_,fun v hv=>⟨nn v hv,?_⟩⟩
 ·rw[e1,Option.bind_some];unfold zbS;rw[k4];simp only[show((4:Int)==1)=false from rfl,show((4:Int)==2)=false from rfl,show((4:Int)==3)=false from rfl,Bool.false_eq_true,if_false,if_true];rw[zeD (by omega) (by omega) (by simp;omega) (by simpa using ha)];simp;rfl
 unfold zc6 at hv;simp only[k4,show¬(4:Int)=1 by omega,show¬(4:Int)=2 by omega,show¬(4:Int)=3 by omega,if_false,Bool.and_eq_true]at hv;have hl:=zbe.1 hv.2;unfold zfm zfX zck;rw[if_neg (by omega),if_neg (by omega),if_neg (by omega),if_neg (by omega),if_neg (by omega)];exact zCp hv.1 (by omega)
theorem zDk(x:Int)(hl:l.Pairwise (· < ·))(hn:l.length≤1000):Rn (zft l x) (fun r=>r.Pairwise (· < ·)∧(∀y,y∈r↔y∈l∨y=x)∧r.length≤l.length+1):=by
 unfold zft;refine zae (ψ:=fun v=>∃k:Nat,v=(k:Int)∧k≤l.length∧(∀j (h:j<l.length),j<k→l[j]<x)∧∀h:k<l.length,¬l[k]<x) (zej (fun s=>∃k:Nat,s=(k:Int)∧k≤l.length∧∀j (h:j<l.length),j<k→l[j]<x) (fun s=>l.length-s.toNat) ⟨0,rfl,by omega,fun j h hj=>by omega⟩ ?_) ?_
 ·rintro s ⟨k,rfl,h1,h2⟩;by_cases hk:k<l.length
  ·refine zae (ψ:=fun v=>v=decide (l[k]<x)) (zee (decide_eq_true (by omega)) (zaK hk (zab rfl))) ?_;rintro _ rfl;refine zan (fun g=>zab ⟨⟨k+1,?_,by omega,fun j h hj=>?_⟩,?_⟩) fun g=>zab ⟨k,rfl,h1,h2,fun _=>of_decide_eq_false g⟩
   ·rw[zah (by omega) (by omega)];rfl
   ·rcases Nat.lt_or_ge j k with c|c
    ·exact h2 j h c
    obtain rfl:j=k:=by omega
    exact of_decide_eq_true g
   rw[zah (by omega) (by omega)];omega
  refine zae (ψ:=fun v=>v=false) (zaB (decide_eq_false (by omega)) (zab rfl)) ?_;rintro _ rfl;exact zaB rfl (zab ⟨k,rfl,h1,h2,fun h=>absurd h hk⟩)
 rintro _ ⟨k,rfl,h1,h2,h3⟩;refine zae (ψ:=fun v=>(v=true→x∈l)∧(v=false→∀h:k<l.length,x<l[k])) ?_ fun v hv=>?_
 ·by_cases hk:k<l.length
  ·refine zee (decide_eq_true (by omega)) (zaK hk (zab ⟨fun g=>?_,fun g h=>?_⟩))
   ·rw[←eq_of_beq g];exact List.getElem_mem hk
   have:=ne_of_beq_false g;have:=h3 hk;omega
  exact zaB (decide_eq_false (by omega)) (zab ⟨fun g=>(by cases g),fun _ h=>absurd h hk⟩)
 refine zan (fun g=>zab ⟨hl,fun y=>⟨.inl,fun h=>?_⟩,by omega⟩) fun g=>?_
 ·rcases h with h|rfl
  ·exact h
  exact hv.1 g
 have hgt:=hv.2 g;rw[List.drop_zero,List.take_length,show(k:Int).toNat=k from rfl];refine zak (by omega) (zak (by omega) (zak (by simp;omega) (zak (by simp;omega) (zak (by omega) (zak (by omega) (zak (by simp;omega) (zab ⟨?_,fun y=>?_,by simp;omega⟩)))))))
 ·have ht:∀y∈l.take k,y<x:=fun y hy=>by
   obtain⟨j,hj,rfl⟩:=List.getElem_of_mem hy;rw[List.length_take]at hj;rw[List.getElem_take];exact h2 j (by omega) (by omega)
  have hd:∀y∈l.drop k,x<y:=fun y hy=>by
   obtain⟨j,hj,rfl⟩:=List.getElem_of_mem hy;rw[List.length_drop]at hj;rw[List.getElem_drop];have h0:=hgt (by omega);rcases Nat.eq_zero_or_pos j with rfl|c
   ·exact h0
   ·have:=List.pairwise_iff_getElem.1 hl k (k+j) (by omega) (by omega) (by omega);omega
  rw[List.pairwise_append,List.pairwise_append];refine⟨⟨hl.sublist (List.take_sublist _ _),by simp,fun a ha b hb=>?_⟩,hl.sublist (List.drop_sublist _ _),fun a ha b hb=>?_⟩
  ·rw[List.mem_singleton.1 hb];exact ht a ha
  rcases List.mem_append.1 ha with ha|ha
  ·have:=ht a ha;have:=hd b hb;omega
  rw[List.mem_singleton.1 ha];exact hd b hb
 rw[List.mem_append,List.mem_append,List.mem_singleton];constructor
 ·rintro((h|h)|h)
  ·exact .inl (List.mem_of_mem_take h)
  ·exact .inr h
  exact .inl (List.mem_of_mem_drop h)
 rintro(h|h)
 ·rw[←List.take_append_drop k l]at h;rcases List.mem_append.1 h with h|h
  ·exact .inl (.inl h)
  exact .inr h
 exact .inl (.inr h)
theorem zyl(h:l.Pairwise (· < ·)):l.Nodup:=h.imp fun h=>by omega
theorem zIV{n:Nat}(h:v.length<n):∃i:Nat,i<n∧¬(i:Int)∈v:=by
 refine Classical.byContradiction fun hc=>?_
 have hc:∀i:Nat,i<n→(i:Int)∈v:=fun i hi=>Classical.byContradiction fun hm=>hc ⟨i,hi,hm⟩
 have:=zni (v:=v) (zxz n fun _=>true) fun x hx=>by
  obtain⟨i,hi,rfl⟩:=List.mem_map.1 hx;exact hc i (List.mem_range.1 (List.mem_filter.1 hi).1)
 rw[List.length_map,List.filter_eq_self.2 (fun _ _=>rfl),List.length_range]at this;omega
theorem ztf{n:Nat}{p:Nat→Bool}{k0:Int}{step:Int→Option (Stp Int Int)}(h0:0≤k0∧k0<n)(hn:n≤1000)(hp:∃i,i<n∧p i=true)
(hs:∀k:Nat,k<n→step (k:Int)=some (if p k=true then .out (k:Int)else .go (((k:Int)+1).tmod n))):Rn (zaH step k0) (fun z=>∃k:Nat,z=(k:Int)∧k<n∧p k=true):=by
 obtain⟨i,hi,hpi⟩:=hp;refine zej (fun s=>0≤s∧s<n) (fun s=>if s.toNat≤i then i-s.toNat else i+n-s.toNat) h0 ?_;rintro s ⟨s0,s1⟩;obtain⟨k,rfl⟩:=Int.eq_ofNat_of_zero_le s0;have hk:k<n:=by omega
 refine⟨_,hs k hk,?_⟩;cases e:p k with
 |true=>exact⟨k,rfl,hk,e⟩
 |false=>
  have hne:k≠i:=fun e2=>by rw[e2,hpi]at e;cases e
  show(0≤((k:Int)+1).tmod n∧((k:Int)+1).tmod n<n)∧_<_
  have e1:((k:Int)+1).tmod n=(((k+1)%n:Nat):Int):=by
   rw[show(k:Int)+1=((k+1:Nat):Int)by omega];rfl
  rw[e1];have hm:(k+1)%n<n:=Nat.mod_lt _ (by omega);refine⟨by omega,?_⟩;rw[Int.toNat_natCast,Int.toNat_natCast];rcases Nat.lt_or_ge (k+1) n with c|c
  ·rw[Nat.mod_eq_of_lt c];split<;>split<;>omega
  ·have:k+1=n:=by omega
   rw[this,Nat.mod_self];split<;>split<;>omega
theorem zjk(hb:Bt code)(h:Cu code n (c0,at_,seed))(hn:n≤8000000000000000)(hm:1≤m):Rn (zag c0 at_ seed m) (fun z=>(0≤z.1∧z.1<m)∧Cu code (n+2) z.2):=by
 obtain⟨z,e,h0,h1,h2,_,h3⟩:=zdr (m:=m) hb h hn;refine⟨z,e,⟨h0,?_⟩,h3⟩;rcases Int.lt_or_le 1 m with g|g
 ·exact h2 g
 have:=h1 g;omega
theorem zt0:∀{l:List Int}{k:Nat}(x:Int) (h:k<l.length),(l.set k x).sum=l.sum-l[k]+x
 |a::l,0,x,_=>by simp;omega
 |a::l,k+1,x,h=>by
  rw[List.set_cons_succ,List.sum_cons,List.sum_cons,zt0 x (by simpa using h)];simp;omega
theorem zsf{p:Int}:∀{l:List Int},(∀x∈l,x=p)→l.sum=l.length*p
 |[],_=>by simp
 |a::l,h=>by
  rw[List.sum_cons,zsf fun x hx=>h x (List.mem_cons_of_mem _ hx),h a (by simp),List.length_cons]
  push_cast
  grind
theorem zCo(hb:Bt code)(h:Cu code n (c0,at_,seed))(hn:n≤1000000000000000)(k:OkC ct):Rn (zdN c0 at_ seed ct) (fun z=>z.1.length≤40∧Cu code (n+200) z.2):=by
 have lo:=k.lo
 have hM:ct.Most≤40:=by
  rcases k.k with⟨_,ho,hm,hp⟩|⟨_,ho,hp,hm⟩|⟨_,ho,hm,hp⟩
  ·omega
  ·have:=zrW ho hp;omega
  ·omega
 unfold zdN;rw[zah (n:=ct.Most-ct.Least) (by omega) (by omega),zah (n:=ct.Most-ct.Least+1) (by omega) (by omega)];refine zae (zjk hb h (by omega) (by omega)) fun z1 ⟨⟨p0,p1⟩,y1⟩=>?_
 rw[zah (n:=ct.Least+z1.1) (by omega) (by omega)];generalize hN:ct.Least+z1.1=N;have hN0:0≤N∧N≤ct.Most:=by omega
 rcases k.k with⟨k13,ho,hm,hp⟩|⟨k2,ho,hp,hm⟩|⟨k4,ho,hm,hp⟩
 ·obtain⟨o,eo⟩:∃o:Nat,ct.Options=(o:Int):=⟨ct.Options.toNat,by omega⟩
  have n2:(ct.Kind==2)=false:=by rcases k13 with e|e<;>rw[e]<;>rfl
  have n4:(ct.Kind==4)=false:=by rcases k13 with e|e<;>rw[e]<;>rfl
  refine zaB n2 (zaB n4 (zae (ψ:=fun v=>v.2.length≤40∧Cu code (n+200) v.1) (zej (fun s=>(s.2.length:Int)≤N∧(ct.Kind=1→s.2.Pairwise (· < ·))∧Cu code (n+2+4*s.2.length) s.1) (fun s=>(N-s.2.length).toNat) ⟨by simp;omega,fun _=>by simp,y1.mono (by simp)⟩ ?_) fun v hv=>zab hv));rintro s ⟨s1,s2,s3⟩;refine zan (fun g=>?_) fun _=>zab ⟨by show s.2.length≤40;omega,s3.mono (by omega)⟩
  have g:=of_decide_eq_true g;refine zae (zjk hb s3 (by omega) (by omega)) fun z2 ⟨q1,y2⟩=>?_
  have hmi:∃i,i<o∧(!s.2.contains (i:Int))=true:=by
   obtain⟨i,i1,i2⟩:=zIV (v:=s.2) (n:=o) (by omega);exact⟨i,i1,by simpa using i2⟩
  refine zae (ztf (n:=o) (p:=fun i=> !s.2.contains (i:Int)) (by rw[←eo];exact q1) (by omega) hmi fun i hi=>?_) fun x ⟨i,e,hi,hpi⟩=>?_
  ·rw[zuG,Option.bind_some,zah (n:=(i:Int)+1) (by omega) (by omega),zcB (by omega),eo];cases s.2.contains (i:Int)<;>rfl
  subst e;have hni:¬(i:Int)∈s.2:=by simpa using hpi
  refine zan (fun g3=>zak (by omega) (zab ⟨⟨?_,fun e=>?_,?_⟩,?_⟩)) fun g3=>?_
  ·show((s.2++[(i:Int)]).length:Int)≤N;rw[List.length_append];simp;omega
  ·rw[e]at g3;cases g3
  ·refine y2.mono ?_;show _≤n+2+4*((s.2++[(i:Int)]).length:Int);rw[List.length_append];simp;omega
  ·show(N-((s.2++[(i:Int)]).length:Int)).toNat<(N-(s.2.length:Int)).toNat;rw[List.length_append];simp;omega
  have hk1:ct.Kind=1:=by
   rcases k13 with e|e
   ·exact e
   ·rw[e]at g3;cases g3
  refine zae (zDk (i:Int) (s2 hk1) (by omega)) fun r ⟨r1,r2,r3⟩=>?_
  have r4:=zni (l:=(i:Int)::s.2) (v:=r) (List.nodup_cons.2 ⟨hni,zyl (s2 hk1)⟩) fun y hy=>(r2 y).2 (by
   rcases List.mem_cons.1 hy with e|e
   ·exact .inr e
   ·exact .inl e)
  rw[List.length_cons]at r4;exact zab ⟨⟨by show(r.length:Int)≤N;omega,fun _=>r1,y2.mono (by show _≤n+2+4*(r.length:Int);omega)⟩,by show(N-(r.length:Int)).toNat<(N-(s.2.length:Int)).toNat;omega⟩
 ·obtain⟨o,eo⟩:∃o:Nat,ct.Options=(o:Int):=⟨ct.Options.toNat,by omega⟩
  have mb:=zrW ho hp;refine zee (by rw[k2];rfl) (zak (by omega) ?_);rw[Option.bind_some,show ct.Options.toNat=o by omega];refine zae (ψ:=fun v=>v.2.length≤40∧Cu code (n+200) v.1) (zej (fun s=>(0≤s.2.1∧s.2.2.sum+s.2.1=N)∧(s.2.2.length=o∧s.2.2.all (inB 0 ct.Points)=true)∧Cu code (n+2+4*s.2.2.sum) s.1) (fun s=>s.2.1.toNat) ⟨⟨hN0.1,by simp⟩,⟨by simp,?_⟩,y1.mono (by simp)⟩ ?_) fun v hv=>zab hv
  ·rw[List.all_eq_true];intro x hx;rw[List.eq_of_mem_replicate hx];exact zbe.2 (by omega)
  rintro s ⟨⟨s1,s2⟩,⟨s3,s4⟩,s5⟩;have hs0:=zqn s4;refine zan (fun g=>?_) fun _=>zab ⟨by show s.2.2.length≤40;omega,s5.mono (by omega)⟩
  have g:0<s.2.1:=of_decide_eq_true g;refine zae (zjk hb s5 (by omega) (by omega)) fun z2 ⟨q1,y2⟩=>?_
  have hmi:∃i,i<o∧(!(s.2.2.getD i 0==ct.Points))=true:=by
   refine Classical.byContradiction fun hc=>?_
   have:∀x∈s.2.2,x=ct.Points:=fun x hx=>by
    obtain⟨i,hi,rfl⟩:=List.getElem_of_mem hx;refine Classical.byContradiction fun hne=>hc ⟨i,by omega,?_⟩
    rw[show s.2.2.getD i 0=s.2.2[i]by simp[hi]];simpa using hne
   have:=zsf this;rw[s3,←eo]at this;omega
  refine zae (ztf (n:=o) (p:=fun i=> !(s.2.2.getD i 0==ct.Points)) (by rw[←eo];exact q1) (by omega) hmi fun i hi=>?_) fun x ⟨i,e,hi,hpi⟩=>?_
  ·have hi2:i<s.2.2.length:=by omega
   rw[zbB hi2,Option.bind_some,zah (n:=(i:Int)+1) (by omega) (by omega),zcB (by omega),eo,show s.2.2.getD i 0=s.2.2[i]by simp[hi2]];cases s.2.2[i]==ct.Points<;>rfl
  subst e;have hi2:i<s.2.2.length:=by omega
  rw[show s.2.2.getD i 0=s.2.2[i]by simp[hi2]]at hpi;have hne:s.2.2[i]≠ct.Points:=by simpa using hpi
  have hb2:=zbe.1 (List.all_eq_true.1 s4 _ (List.getElem_mem hi2));refine zaK hi2 (zab ?_);rw[zah (n:=s.2.1-1) (by omega) (by omega),zah (n:=s.2.2[i]+1) (by omega) (by omega),Int.toNat_natCast];have hss:=zt0 (s.2.2[i]+1) hi2;refine⟨⟨⟨by show 0≤s.2.1-1;omega,?_⟩,⟨?_,?_⟩,y2.mono ?_⟩,by show(s.2.1-1).toNat<s.2.1.toNat;omega⟩
  ·show(s.2.2.set i (s.2.2[i]+1)).sum+(s.2.1-1)=N;omega
  ·show(s.2.2.set i _).length=o;rw[List.length_set];exact s3
  ·show(s.2.2.set i (s.2.2[i]+1)).all (inB 0 ct.Points)=true;rw[List.all_eq_true];intro x hx;rcases List.mem_or_eq_of_mem_set hx with e|rfl
   ·exact List.all_eq_true.1 s4 x e
   exact zbe.2 (by omega)
  show _≤n+2+4*(s.2.2.set i (s.2.2[i]+1)).sum;omega
 refine zaB (by rw[k4];rfl) (zee (by rw[k4];rfl) (zae (ψ:=fun v=>v.2.length≤40∧Cu code (n+200) v.1) (zej (fun s=>(0≤s.2.1∧(s.2.2.length:Int)+s.2.1=N)∧Cu code (n+2+4*s.2.2.length) s.1) (fun s=>s.2.1.toNat) ⟨⟨hN0.1,by simp⟩,y1.mono (by simp)⟩ ?_) fun v hv=>zab hv));rintro s ⟨⟨s1,s2⟩,s5⟩;refine zan (fun g=>?_) fun _=>zab ⟨by show s.2.2.length≤40;omega,s5.mono (by omega)⟩
 have g:0<s.2.1:=of_decide_eq_true g;refine zae (zjk hb s5 (by omega) (by omega)) fun z2 ⟨q1,y2⟩=>zak (by omega) (zab ?_)
 rw[zah (n:=s.2.1-1) (by omega) (by omega)];exact⟨⟨⟨by show 0≤s.2.1-1;omega,by show((s.2.2++[_]).length:Int)+(s.2.1-1)=N;rw[List.length_append];simp;omega⟩,y2.mono (by show _≤n+2+4*((s.2.2++[_]).length:Int);rw[List.length_append];simp;omega)⟩,by show(s.2.1-1).toNat<s.2.1.toNat;omega⟩
theorem zxq(hb:Bt code)(h:Cu code n (c0,at_,seed))(hn:n≤100000000000000):Rn (zcP c0 at_ seed ct) (fun z=>z.1.length≤41∧Cu code (n+210) z.2):=by
 unfold zcP;refine zac (ziP ct) (zan (fun _=>zab ⟨by simp,h.mono (by omega)⟩) fun g=>?_);have k:OkC ct:=zl5.1 (by simpa using g);refine zae (zCo hb h (by omega) k) fun z1 ⟨a1,y1⟩=>zac (zlS (by omega)) ?_
 generalize z1.1=v at a1⊢;refine zae (zdr hb y1 (by omega)) fun z2 ⟨_,_,_,_,y2⟩=>?_
 refine zae (ψ:=fun x=>x.2.length≤41∧Cu code (n+210) x.1) ?_ fun x hx=>zab hx
 have same:∀{w:List Int},w.length≤41→v.length≤41:=fun _=>by omega
 refine zan (fun _=>?_) fun _=>zan (fun _=>?_) fun _=>zan (fun _=>?_) fun _=>zab ⟨by show v.length≤41;omega,y2.mono (by omega)⟩
 ·refine zae (zdr hb y2 (by omega)) fun z3 ⟨_,_,_,_,y3⟩=>zak (by omega) (zab ⟨by show(v++[_]).length≤41;rw[List.length_append];simp;omega,y3.mono (by omega)⟩)
 ·refine zan (fun g=>?_) fun _=>zab ⟨by show v.length≤41;omega,y2.mono (by omega)⟩
  have g:(0:Int)<(v.length:Int):=of_decide_eq_true g;refine zae (zjk hb y2 (by omega) (by omega)) fun z3 ⟨q,y3⟩=>zae (zfk hb y3 (by omega) (by simp)) fun z4 ⟨_,y4⟩=>zac (zu8 q.1 q.2) (zab ⟨by show(v.set _ _).length≤41;rw[List.length_set];omega,y4.mono (by omega)⟩)
 refine zan (fun g=>?_) fun _=>zab ⟨by show v.length≤41;omega,y2.mono (by omega)⟩
 have g:(0:Int)<(v.length:Int):=of_decide_eq_true g;exact zak (by omega) (zab ⟨by show((v.take v.length).drop 1).length≤41;rw[List.length_drop,List.length_take];omega,y2.mono (by omega)⟩)
def zcA(ct:Contest):Int:=if ct.Kind=1 then 1 else ct.Points
def zbG(ct:Contest):Bool:=ct.Kind==1||ct.Kind==2
def zma(ct:Contest):Int:=if zbG ct=true then ct.Options*(2*zcA ct+2)+2*(ct.Most-ct.Least)+1 else 2
theorem zss(ct:Contest):zgn ct=some (zcA ct):=by
 unfold zgn zcA;by_cases h:ct.Kind=1
 ·rw[if_pos h,h];rfl
 rw[if_neg h,if_neg (by simpa using h)]
theorem zii(k:OkC ct)(h:zbG ct=true):(1≤ct.Options∧ct.Options≤8)∧(1≤zcA ct∧zcA ct≤5)∧ct.Most≤ct.Options*zcA ct∧(0≤ct.Least∧ct.Least≤ct.Most):=by
 have lo:=k.lo;unfold zbG at h;unfold zcA;rcases k.k with⟨k1|k3,ho,hm,hp⟩|⟨k2,ho,hp,hm⟩|⟨k4,ho,hm,hp⟩
 ·rw[if_pos k1];omega
 ·rw[k3]at h;cases h
 ·rw[if_neg (by omega)];omega
 rw[k4]at h;cases h
theorem zsM(k:OkC ct):zf4 ct=some (zma ct)∧0≤zma ct∧zma ct≤300:=by
 unfold zf4 zma;rw[zif,show(ct.Kind==1||ct.Kind==2)=zbG ct from rfl];cases h:zbG ct with
 |false=>exact⟨rfl,by simp,by simp⟩
 |true=>
  obtain⟨h1,h2,h3,h4⟩:=zii k h;have e1:ct.Options*(2*zcA ct+2)≤8*12:=Int.mul_le_mul h1.2 (by omega) (by omega) (by omega);have e2:0≤ct.Options*(2*zcA ct+2):=Int.mul_nonneg (by omega) (by omega);have e3:ct.Options*zcA ct≤8*5:=Int.mul_le_mul h1.2 h2.2 (by omega) (by omega);rw[zss];simp only[Option.bind_some,Bool.not_true,Bool.false_eq_true,if_false,if_true];rw[zah (n:=2*zcA ct) (by omega) (by omega),zah (n:=2*zcA ct+2) (by omega) (by omega),zah (n:=ct.Options*(2*zcA ct+2)) (by omega) (by omega),zah (n:=ct.Most-ct.Least) (by omega) (by omega),zah (n:=2*(ct.Most-ct.Least)) (by omega) (by omega),zah (n:=ct.Options*(2*zcA ct+2)+2*(ct.Most-ct.Least)) (by omega) (by omega),zah (by omega) (by omega)];exact⟨rfl,by omega,by omega⟩
theorem zrF:∀(n:Nat) (a:Int) (b:ByteArray),zbP n a=some b→zbP (n+1) a=some b
 |0,_,_,h=>by cases h
 |n+1,a,b,h=>by
  rw[zbP]at h⊢;by_cases c:decide (a<10)=true
  ·rw[if_pos c]at h⊢;exact h
  ·rw[if_neg c]at h⊢;cases e:zbP n (i64.wrap (a.tdiv 10))with
   |none=>rw[e]at h;cases h
   |some z=>
    rw[e]at h;rw[zrF n _ _ e];exact h
def zfx(ct:Contest)(v:List Int):List Int:=if zbG ct=true then zck ct v else[zfm ct v]
theorem zvh{n:Nat}(hn:v.Nodup)(hv:v.all (inB 0 ((n:Int)-1))=true):(zdS n v).sum=v.length:=by
 have h1:=zqK n v
 have e:∀l:List Nat,(l.map fun(i:Nat)=>if v.contains (i:Int)=true then(1:Int)else 0).sum=((List.filter (fun(i:Nat)=>v.contains (i:Int)) l).length:Int):=by
  intro l;induction l with
  |nil=>rfl
  |cons i l ih=>
   rw[List.map_cons,List.sum_cons,ih,List.filter_cons];cases v.contains (i:Int)<;>simp<;>omega
 have h2:=zni (v:=(List.filter (fun(i:Nat)=>v.contains (i:Int)) (List.range n)).map fun(i:Nat)=>(i:Int)) hn fun x hx=>by
  have hb:=zbe.1 (List.all_eq_true.1 hv x hx);refine List.mem_map.2 ⟨x.toNat,List.mem_filter.2 ⟨List.mem_range.2 (by omega),?_⟩,by omega⟩;rw[show((x.toNat:Nat):Int)=x by omega];simpa using hx
 rw[List.length_map]at h2;unfold zdS at h1⊢;rw[e]at h1⊢;omega
theorem zAh(k:OkC ct)(hv:zc6 ct v=true):zgx ct v=some (zfx ct v):=by
 have hc:=(zlO k hv).1;unfold zgx zfx zbG;unfold zc6 at hv;rcases k.k with⟨k1|k3,ho,hm,hp⟩|⟨k2,ho,hp,hm⟩|⟨k4,ho,hm,hp⟩
 ·simp only[k1,if_true,Bool.and_eq_true]at hv⊢;rw[if_pos (show((1:Int)==1)=true from rfl),zkR (by omega) hv.1.1];show some (zdS ct.Options.toNat v)=some (zck ct v);unfold zck;rw[if_pos k1]
 ·rw[hc,k3];rfl
 ·simp only[k2,show¬(2:Int)=1 by omega,if_false,if_true,Bool.and_eq_true,decide_eq_true_eq]at hv;rw[k2];unfold zck;rw[if_neg (show¬ct.Kind=1 by omega),if_neg (show¬ct.Kind=3 by omega)];simp only[show((2:Int)==1)=false from rfl,show((2:Int)==2)=true from rfl,Bool.false_eq_true,if_false,if_true,zlS (l:=v) (by omega)];rfl
 rw[hc,k4];rfl
theorem zsj(k:OkC ct)(hf:zbG ct=true)(hv:zc6 ct v=true):((zck ct v).length:Int)=ct.Options∧(zck ct v).all (inB 0 (zcA ct))=true∧(ct.Least≤(zck ct v).sum∧(zck ct v).sum≤ct.Most)∧zfX ct=zcA ct+1:=by
 unfold zbG at hf;unfold zc6 at hv;unfold zck zcA zfX;rcases k.k with⟨k1|k3,ho,hm,hp⟩|⟨k2,ho,hp,hm⟩|⟨k4,ho,hm,hp⟩
 ·rw[if_pos k1]at hv;simp only[Bool.and_eq_true]at hv;have hl:=zbe.1 hv.2;have hs:=zvh (n:=ct.Options.toNat) (v:=v) (of_decide_eq_true (show decide v.Nodup=true from hv.1.2.2)) (by rw[show((ct.Options.toNat:Nat):Int)-1=ct.Options-1 by omega];exact hv.1.1);rw[if_pos k1,if_pos k1,if_pos k1];exact⟨by rw[zf7];omega,zlc _ _,by omega,rfl⟩
 ·rw[k3]at hf;cases hf
 ·rw[if_neg (show¬ct.Kind=1 by omega),if_pos k2]at hv;simp only[Bool.and_eq_true,decide_eq_true_eq]at hv;have hl:=zbe.1 hv.2.2;rw[if_neg (show¬ct.Kind=1 by omega),if_neg (show¬ct.Kind=3 by omega),if_neg (show¬ct.Kind=1 by omega),if_neg (show¬ct.Kind=1 by omega),if_pos k2];exact⟨hv.1,hv.2.1,hl,rfl⟩
 rw[k4]at hf;cases hf
theorem zsZ(h:zbG ct=true∨ct.Kind≠2):zbD ct=some (if zbG ct=true then zcA ct else 1):=by
 unfold zbD zbG zcA;by_cases h2:ct.Kind=2
 ·rw[h2];rfl
 rw[if_neg (by simpa using h2)];by_cases h1:ct.Kind=1
 ·rw[h1];rfl
 have e1:(ct.Kind==1)=false:=beq_false_of_ne h1;have e2:(ct.Kind==2)=false:=beq_false_of_ne h2;rw[e1,e2];rfl
theorem zf5 :zdU gr x=true↔0≤x∧x<gr.Q:=by
 unfold zdU;simp only[Bool.and_eq_true,decide_eq_true_eq];omega
theorem zrU(k:OkG gr)(v:Int):zbF gr v=some (v%gr.Q):=by
 have hp:=k.p;have hq:=k.q;unfold zbF;rw[zwe (by omega) (by omega)];rfl
theorem zkj{α:Type}{l:List α}{d:α}(h:i<l.length):l.getD i d=l[i]:=by
 rw[List.getD_eq_getElem?_getD,List.getElem?_eq_getElem h];rfl
def R9(x:Int):Prop:=0≤x∧x≤2000000000
theorem zcr(k:OkG gr)(h:zaq gr x=true):R9 x:=by
 have:=ziN h;have:=k.p;exact⟨by omega,by omega⟩
theorem zc5(k:OkG gr)(x e:Int):R9 (zao gr x e):=by
 have:=zfd k x e;have:=k.p;exact⟨by omega,by omega⟩
theorem zvA(hx:R9 x)(hy:R9 y):∀z∈[x,y],0≤z∧z≤2000000000:=by
 intro z hz;simp only[List.mem_cons,List.not_mem_nil,or_false]at hz;rcases hz with rfl|rfl
 ·exact hx
 exact hy
theorem zFf(k:OkG gr)(h:∀x∈l,0≤x∧x≤2000000000):R9 (zcW gr l):=by
 have:=zzT k h;have:=k.p;exact⟨by omega,by omega⟩
theorem zCr(k:OkG gr)(hx:R9 x)(hy:R9 y):R9 (zcW gr [x,y]):=zFf k (zvA hx hy)
theorem znX(h:∀x∈l,R9 x):l.all zbE=true:=List.all_eq_true.2 fun x hx=>zd9.2 ⟨(h x hx).1,by have:=(h x hx).2;omega⟩
theorem m2I(k:OkG gr)(hx:R9 x)(hy:R9 y):zaP gr [x,y]=some (zcW gr [x,y]):=znN k (zvA hx hy)
theorem m2S(k:OkG gr)(hx:R9 x)(hy:R9 y):zbC gr [x,y]=some (zcW gr [x,y]):=zsi k (zvA hx hy)
theorem pwI(k:OkG gr)(hx:R9 x)(e:Int):zav gr x e=some (zao gr x e):=(zk2 k hx.1 hx.2 e).1
theorem pwS(k:OkG gr)(hx:R9 x)(e:Int):zau gr x e=some (zao gr x e):=(zk2 k hx.1 hx.2 e).2
theorem r_G(k:OkG gr):R9 gr.G:=zcr k (zfc k)
theorem zC9(k:OkG gr){n:Nat}(h0:n<gr.P.toNat)(h:n^gr.Q.toNat%gr.P.toNat=1):zaq gr (n:Int)=true:=by
 have hp:=k.p;have hq:=k.q
 have h1:1≤n:=by
  rcases Nat.eq_zero_or_pos n with h2|h2
  ·rw[h2,Nat.zero_pow (by omega),Nat.zero_mod]at h;omega
  ·exact h2
 simp only[zaq,Bool.and_eq_true,decide_eq_true_eq];exact⟨⟨by omega,by omega⟩,by rw[Int.toNat_natCast];exact h⟩
theorem zm0(k:OkG gr)(hx:zaq gr x=true)(e:Int):zaq gr (zao gr x e)=true:=by
 have hp:=k.p;refine zC9 k (Nat.mod_lt _ (by omega)) ?_;rw[←Nat.pow_mod,←Nat.pow_mul,Nat.mul_comm,Nat.pow_mul,Nat.pow_mod,(zn4 hx).2.2,Nat.one_pow,Nat.mod_eq_of_lt (by omega)]
def hN(gr:Group)(h:Int)(es ts:List Int):Nat→Int
 |0=>h
 |i+1=>zcW gr [zao gr gr.G (ts.getD i 0),zao gr (hN gr h es ts i) (es.getD i 0)]
def E9(q x:Int):Prop:=0≤x∧x<q
theorem zCe{z t:Int}(hq:q≤2000000000)(ha:E9 q a)(hz:E9 q z)(ht:E9 q t):i64.wrap (a+i64.wrap (z*t))=a+z*t∧(i64.wrap (a+i64.wrap (z*t))).tmod q=(a+z*t)%q:=by
 obtain⟨a1,a2⟩:=ha;obtain⟨z1,z2⟩:=hz;obtain⟨t1,t2⟩:=ht;have h1:0≤z*t:=Int.mul_nonneg z1 t1;have h2:z*t≤2000000000*2000000000:=Int.mul_le_mul (by omega) (by omega) t1 (by omega);rw[zah (n:=z*t) (by omega) (by omega),zah (n:=a+z*t) (by omega) (by omega)];exact⟨rfl,Int.tmod_eq_emod_of_nonneg (by omega)⟩
theorem zj3(hq:0<q)(x:Int):E9 q (x%q):=⟨Int.emod_nonneg _ (by omega),Int.emod_lt_of_pos _ hq⟩
theorem zx8{α:Type}{l:List α}{P:α→Prop}(h:∀x∈l,P x)(hi:i<l.length):P l[i]:=h _ (List.getElem_mem hi)
def smN(q:Int)(l:List Int):Nat→Int
 |0=>0
 |i+1=>(smN q l i+l.getD i 0)%q
theorem zmy(hq:0<q)(l:List Int):∀i,E9 q (smN q l i)
 |0=>⟨by show(0:Int)≤0;omega,hq⟩
 |i+1=>zj3 hq _
theorem zsP(hq:0<q∧q≤2000000000)(hl:∀x∈l,E9 q x):zhE l q=some (smN q l l.length)∧zhW l q=some (smN q l l.length):=by
 refine⟨?_,?_⟩
 ·unfold zhE;refine zaj (zae (ψ:=(· =smN q l l.length)) (za3 (fun i s=>s=smN q l i) rfl ?_ fun s h=>h) fun x hx=>zab hx);rintro i s hi rfl;have ha:=zmy hq.1 l i;have h1:=zx8 hl hi;refine zaK hi (zak (by omega) (zab ?_));show _=(smN q l i+l.getD i 0)%q;rw[zkj hi,zah (by have:=ha.1;have:=h1.1;omega) (by have:=ha.2;have:=h1.2;omega),Int.tmod_eq_emod_of_nonneg (by have:=ha.1;have:=h1.1;omega)]
 unfold zhW;refine zaj (zae (ψ:=(· =smN q l l.length)) (za3 (fun i s=>s=smN q l i) rfl ?_ fun s h=>h) fun x hx=>zab hx);rintro i s hi rfl;have ha:=zmy hq.1 l i;have h1:=zx8 hl hi;refine zaK hi (zak (by omega) (zab ?_));show _=(smN q l i+l.getD i 0)%q;rw[zkj hi,zah (by have:=ha.1;have:=h1.1;omega) (by have:=ha.2;have:=h1.2;omega),Int.tmod_eq_emod_of_nonneg (by have:=ha.1;have:=h1.1;omega)]
def smL(f:Nat→Int):Nat→Int
 |0=>0
 |n+1=>smL f n+f n
theorem zhX{P:Int→Prop}(h:∀x∈l,P x)(hi:i<l.length):P (l.getD i 0):=by
 rw[zkj hi];exact h _ (List.getElem_mem hi)
theorem zeH(hi:i<l.length):ix l (i:Int)=some (l.getD i 0):=by rw[zbB hi,zkj hi]
theorem zhc{σ γ:Type}{body:Int→σ→Option (Stp σ γ)}{stop:σ→γ}{n:Nat}{s0:σ}(S:Nat→σ)(h0:s0=S 0)(hs:∀i,i<n→Rn (body (i:Int) (S i)) (· =.go (S (i+1)))):zar body stop n 0 s0=some (stop (S n)):=by
 refine zaj (za3 (fun i y=>y=S i) h0 ?_ ?_)
 ·rintro i y hi rfl;obtain⟨v,h1,rfl⟩:=hs i hi;exact⟨_,h1,rfl⟩
 rintro y rfl;rfl
def pg(gr:Group)(a:Int):Int:=zao gr gr.G a
section
variable {gr:Group}
variable{a b:Int}
theorem zqq(h:a%gr.Q=b%gr.Q):pg gr a=pg gr b:=by unfold pg zao;rw[h]
theorem zJb(K:Int)(h:a=b+gr.Q*K):pg gr a=pg gr b:=zqq (by rw[h,Int.add_mul_emod_self_left])
theorem zJs{x:Int}(h:a%gr.Q=b%gr.Q):zao gr x a=zao gr x b:=by unfold zao;rw[h]
theorem zvt(a:Int):pg gr (a%gr.Q)=pg gr a:=zqq (Int.emod_emod _ _)
theorem mw(a q:Int):∃m,a%q=a-q*m:=⟨a/q,Int.emod_def a q⟩
theorem zdY(k:OkG gr)(a b:Int):zcW gr [pg gr a,pg gr b]=pg gr (a+b):=by
 have hq:=k.q;rw[←zvt a,←zvt b];unfold pg;rw[zst k (Int.emod_nonneg _ (by omega)) (Int.emod_nonneg _ (by omega))];exact zqq (Int.add_emod a b gr.Q).symm
theorem zge(k:OkG gr)(a e:Int):zao gr (pg gr a) e=pg gr (a*e):=by
 have hq:=k.q;rw[←zvt a,zJs (b:=e%gr.Q) (Int.emod_emod _ _).symm];unfold pg;rw[zrV k (zfc k) (Int.emod_nonneg _ (by omega)) (Int.emod_nonneg _ (by omega))];exact zqq (Int.mul_emod a e gr.Q).symm
theorem zrO(k:OkG gr):pg gr 0=1:=zxK k
theorem zhY(k:OkG gr)(a:Int):zaq gr (pg gr a)=true:=zm0 k (zfc k) a
theorem zMb(k:OkG gr):pg gr 1=gr.G:=by
 have hq:=k.q;have hp:=k.p;have hg:=k.g;unfold pg zao;rw[Int.emod_eq_of_lt (by omega) (by omega)];show((gr.G.toNat^1%gr.P.toNat:Nat):Int)=gr.G;rw[Nat.pow_one,Nat.mod_eq_of_lt (by omega)];omega
open Classical in
noncomputable def dl(gr:Group)(x:Int):Int:=if h:∃a,x=pg gr a then Classical.choose h else 0
theorem zi6(k:OkG gr){x:Int}(h:zaq gr x=true):x=pg gr (dl gr x):=by
 have hg:=k.g;have hq:=k.q
 have he:∃a,x=pg gr a:=by
  obtain⟨s,hs⟩:=zCa k (zfc k) (show gr.G≠1 by omega) h;have hx:=(zn4 h).1;refine⟨s,?_⟩;unfold pg zao;obtain⟨n,hn⟩:=Int.eq_ofNat_of_zero_le (show 0≤gr.Q by omega);have h3:=(zn4 (zfc k)).2.2;rw[hn]at h3⊢;rw[Int.toNat_natCast]at h3;rw[←Int.natCast_emod,Int.toNat_natCast,zlD h3,hs];omega
 unfold dl;rw[dif_pos he];exact Classical.choose_spec he
theorem zvN{q:Int}(hq:0<q)(l:List Int):∀n,smN q l n%q=smL (fun i=>l.getD i 0) n%q
 |0=>rfl
 |n+1=>by
  show(smN q l n+l.getD n 0)%q%q=(smL _ n+l.getD n 0)%q;rw[Int.emod_emod,Int.add_emod,zvN hq l n,←Int.add_emod]
end
section
variable {gr:Group}
theorem zo2{α:Type}{a b:List α}{i:Nat}{d:α}(h:i<a.length):(a++b).getD i d=a.getD i d:=by
 rw[List.getD_eq_getElem?_getD,List.getD_eq_getElem?_getD,List.getElem?_append_left h]
theorem zoO{α:Type}{a b:List α}{i j:Nat}{d:α}(h:i=a.length+j):(a++b).getD i d=b.getD j d:=by
 rw[List.getD_eq_getElem?_getD,List.getD_eq_getElem?_getD,List.getElem?_append_right (by omega),h,Nat.add_sub_cancel_left]
end
theorem apL{P:Int→Prop}{l m:List Int}(h1:∀x∈l,P x)(h2:∀x∈m,P x):∀x∈l++m,P x:=fun x hx=>(List.mem_append.1 hx).elim (h1 x) (h2 x)
theorem wrL{gr:Group}(k:OkG gr){z:Int}(hz:E9 gr.Q z):i64.wrap (0-z)=0-z:=by
 have h1:=hz.1;have h2:=hz.2;have hq:=k.q;have hp:=k.p;exact zah (by omega) (by omega)
theorem exL{gr:Group}{l:List Int}(h:∀z∈l,E9 gr.Q z):l.all (zdU gr)=true:=List.all_eq_true.2 fun z hz=>zf5.2 (h z hz)
theorem chL{gr:Group}(k:OkG gr){s:ByteArray}{L:List Int}(hs:s.size≤40)(hl:L.length≤300)(hd:L.all zbE=true):zbu gr s L=some (chG gr s L,true)∧zbY gr s L=some (chG gr s L):=by
 refine⟨?_,zm6 k (by omega) (by omega) hd⟩;rw[zs8 k _ (by omega),if_pos (zuX k hs (by omega) hd)]
theorem wNL{m:Nat}(h:m≤1000000){z:Int}(e:z=(m:Int)):i64.wrap z=(m:Int):=by rw[e];exact zah (by omega) (by omega)
def zqx(a:Int):ByteArray:=⟨(Lib.itoa a).toArray⟩
theorem zAy(u:Nat):Lib.itoa (u:Int)=Lib.decDigits u:=by unfold Lib.itoa;rw[if_neg (by omega)];simp
theorem zr1{d:Nat}(h:d<10):zff [u8.wrap (i64.wrap (48+(d:Int)))]=⟨#[UInt8.ofNat (48+d)]⟩:=by
 rw[zah (n:=48+(d:Int)) (by omega) (by omega)]
 have e:u8.wrap (48+(d:Int))=((48+d:Nat):Int):=by
  unfold IntKind.wrap;simp[IntKind.bits,IntKind.signed];omega
 rw[e];unfold zff;simp only[List.map_cons,List.map_nil,Int.toNat_natCast]
theorem zzp:∀(n:Nat) {u:Nat},n≤17→u<10^(n+1)→zbP (n+1) (u:Int)=some ⟨(Lib.decDigits u).toArray⟩∧(Lib.decDigits u).length≤n+1
 |0,u,_,h=>by
  have h:u<10:=by simpa using h
  rw[zbP,if_pos (by simp;omega),Lib.decDigits,dif_pos h,zr1 h];exact⟨rfl,by simp⟩
 |n+1,u,hn,h=>by
  by_cases h10:u<10
  ·rw[zbP,if_pos (by simp;omega),Lib.decDigits,dif_pos h10,zr1 h10];exact⟨rfl,by simp⟩
  ·have hp:10^(n+1+1)=10^(n+1)*10:=Nat.pow_succ ..
   have hp2:(10:Nat)^(n+1+1)≤10^18*10:=by
    have:(10:Nat)^(n+1)≤10^18:=Nat.pow_le_pow_right (by omega) (by omega);omega
   obtain⟨i1,i2⟩:=zzp n (u:=u/10) (by omega) (by omega)
   have e1:i64.wrap ((u:Int).tdiv 10)=((u/10:Nat):Int):=by
    rw[Int.tdiv_eq_ediv_of_nonneg (by omega)];by_cases hb:u<9223372036854775807
    ·rw[zah (by omega) (by omega)];rfl
    ·rw[zah (n:=(u:Int)/10) (by omega) (by omega)];rfl
   have e2:(u:Int).tmod 10=((u%10:Nat):Int):=by rw[Int.tmod_eq_emod_of_nonneg (by omega)];rfl
   have e3:Lib.decDigits u=Lib.decDigits (u/10)++[UInt8.ofNat (48+u%10)]:=by rw[Lib.decDigits,dif_neg h10]
   rw[zbP,if_neg (by simp;omega),e1,i1,e2,zr1 (Nat.mod_lt _ (by omega)),e3];have hs:(⟨(Lib.decDigits (u/10)).toArray⟩:ByteArray).size=(Lib.decDigits (u/10)).length:=by simp[ByteArray.size]
   have hs1:(⟨#[UInt8.ofNat (48+u%10)]⟩:ByteArray).size=1:=rfl;refine⟨?_,by simp;omega⟩;rw[Option.bind_some,zcB (by rw[hs,hs1];omega)];congr 1
def labP:ByteArray:=⟨#[98,97,108,108,111,116,32]⟩
def zcE(a:Int):ByteArray:=labP++zqx a
theorem zvi{a:Int}(h0:0≤a)(h1:a≤999999):zkE a=some (zqx a)∧(zqx a).size≤6:=by
 obtain⟨u,rfl⟩:=Int.eq_ofNat_of_zero_le h0;obtain⟨e,hs⟩:=zzp 5 (u:=u) (by omega) (by omega);have hd:zqx (u:Int)=⟨(Lib.decDigits u).toArray⟩:=by unfold zqx;rw[zAy]
 rw[hd];exact⟨zAM (f:=fun n_=>zbP n_ (u:Int)) e fun n b=>zrF n _ b,by simp[ByteArray.size];omega⟩
end Go.Pm
