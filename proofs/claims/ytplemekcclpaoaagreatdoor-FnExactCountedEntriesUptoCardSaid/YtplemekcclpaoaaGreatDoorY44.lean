/-
  FnExactCountedEntries: plain laws.
  No condition.
-/
import Derived.Test.YtplemekcclpaoaaGreatDoorM44b
import Derived.Test.YtplemekcclpaoaaGreatDoorPmZ
namespace Go.Pm
open Go.Am IntKind
set_option linter.unusedVariables false
set_option linter.unusedSimpArgs false
variable{a b c d i m q x y:Int}{bs:List (List Int)}{ct:Contest}{e:Entry}{gr:Group}{im l o:List Int}{k n p:Nat}{s:ByteArray}
theorem zyu{n:Int}(h0:0≤n)(h1:n≤1048576)(hl:l.length≤1048576):∃z,zcD l n=some z∧z≤1048576:=by
 unfold zcD;rw[zaj (by omega) (by omega)];by_cases h:n-(l.length:Int)<0
 ·exact⟨-1,by simp[h],by omega⟩
 exact⟨n-l.length,by simp[h],by omega⟩
theorem zyi{α:Type}{l r:List α}(hk:k<l.length)(hr:r.length=l.length)(h:r.take k=l.take k):(r.set k l[k]).take (k+1)=l.take (k+1):=by
 rw[List.take_succ_eq_append_getElem (by simpa[hr]using hk),List.take_succ_eq_append_getElem hk];simp[List.take_set_of_le,h]
theorem zjt(hl:l.length≤1048576):zdc l=some l:=by
 unfold zdc;rw[zbI (by omega),Option.bind_some]
 obtain⟨b,hb,hp⟩:=zih (β:=List Int) (σ:=List Int×Int) (step:=fun s42=>
  if decide (s42.2<(l.length:Int))=true then(
  (ix l s42.2).bind fun x53=>
  (ix s42.1 s42.2).bind fun x60=>
  some (.go (s42.1.set s42.2.toNat x53,i64.wrap (s42.2+1))))else(
  some (.out s42.1))) (s0:=(List.replicate l.length 0,0)) l.length (fun k s=>s.2=(k:Int)∧s.1.length=l.length∧s.1.take k=l.take k)
  (fun b=>b=l) ⟨rfl,by simp,by simp⟩
  (by
    rintro k ⟨a,b⟩ hk ⟨e,h2,h3⟩;simp only at e h2 h3;subst e;have hd:decide ((k:Int)<(l.length:Int))=true:=by simpa using hk
    refine .inl ⟨(a.set k l[k],(k:Int)+1),?_,by simp,by simp[h2],zyi hk h2 h3⟩;simp only[hd,if_true,zaY hk,Option.bind_some,zaY (l:=a) (k:=k) (by omega)];rw[zaj (by omega) (by omega)]
    simp)
  (by
    rintro⟨a,b⟩ ⟨e,h2,h3⟩;simp only at e h2 h3;subst e;refine⟨a,by simp,?_⟩;rw[List.take_of_length_le (by omega),List.take_of_length_le (Nat.le_refl _)]at h3
    exact h3)
 rw[hb,Option.bind_some,hp]
theorem ziD(hl:l.length≤1048576):zbE l l=some true:=by
 unfold zbE;simp only[bne_self_eq_false,Bool.false_eq_true,if_false]
 obtain⟨b,hb,hp⟩:=zih (β:=Unit ⊕ Bool) (σ:=Int) (step:=fun s52=>
  if decide (s52<(l.length:Int))=true then(
  (ix l s52).bind fun x63=>
  (ix l s52).bind fun x70=>
  if(x63 !=x70)=true then(
  some (.out (.inr false)))else(
  some (.go (i64.wrap (s52+1)))))else(
  some (.out (.inl ())))) (s0:=0) l.length (fun k s=>s=(k:Int)) (fun b=>b=.inl ()) rfl
  (by
    rintro k a hk e;subst e;have hd:decide ((k:Int)<(l.length:Int))=true:=by simpa using hk
    refine .inl ⟨(k:Int)+1,?_,by simp⟩;simp only[hd,if_true,zaY hk,Option.bind_some,bne_self_eq_false,Bool.false_eq_true,if_false]
    rw[zaj (by omega) (by omega)])
  (by
    rintro a e;subst e
    exact⟨_,by simp,rfl⟩)
 rw[hb,Option.bind_some,hp];rfl
theorem zw0{r:List Int}(h1:k<l.length)(h2:k<r.length)(h:l.take k=r.take k)(he:l[k]=r[k]):l.take (k+1)=r.take (k+1):=by
 rw[List.take_succ_eq_append_getElem h1,List.take_succ_eq_append_getElem h2,h,he]
theorem zjq(a b:List Int):zbL a b=some (decide (a=b)):=by
 unfold zbL;by_cases hl:a.length=b.length
 ·have e:((a.length:Int) !=(b.length:Int))=false:=by simp[hl]
  simp only[e,Bool.false_eq_true,if_false]
  obtain⟨r,hb,hp⟩:=zoH (σ:=Unit) (β:=Unit ⊕ Bool) (body:=fun i16 s15=>
   (ix a i16).bind fun x25=>
   (ix b i16).bind fun x32=>
   if(x25 !=x32)=true then(
   some (.out (.inr false)))else(
   some (.go ()))) (stop:=fun s15=>.inl ()) (m:=a.length) (i0:=0) (s0:=()) (fun k _=>a.take k=b.take k)
   (fun r=>Sum.elim (fun _=>a=b) (fun r=>r=false∧a≠b) r) (by simp)
   (by
     rintro k s hk hI;have hk2:k<b.length:=by omega
     rw[Int.zero_add];simp only[zaY hk,zaY hk2,Option.bind_some];by_cases he:a[k]=b[k]
     ·exact .inl ⟨(),by simp[he],zw0 hk hk2 hI he⟩
     ·exact .inr ⟨.inr false,by simp[he],rfl,fun h=>by subst h;exact he rfl⟩)
   (by
     rintro s hI;rw[List.take_length,hl,List.take_length]at hI
     exact hI)
  rw[hb,Option.bind_some];cases r with
  |inl u=>have hp:a=b:=hp;simp[hp]
  |inr r=>
   obtain⟨h1,h2⟩:r=false∧a≠b:=hp;simp[h1,h2]
 have e:((a.length:Int) !=(b.length:Int))=true:=by simp;omega
 have:a≠b:=fun h=>hl (by rw[h])
 simp[e,this]
def MI:List Int→Int→Prop
 |[],_=>True
 |x::l,k=>x=k∧MI l (k+1)
theorem zAL:∀{l:List Int}{k:Int}(i:Nat) (h:i<l.length),MI l k→l[i]=k+i:=by
 intro l;induction l with
 |nil=>intro k i h;simp at h
 |cons x l ih=>
  intro k i h hm;cases i with
  |zero=>simp[hm.1]
  |succ i=>
   have:=ih (k:=k+1) i (by simpa using h) hm.2;simp only[List.getElem_cons_succ,this]
   push_cast;omega
theorem zCG:∀{l:List Int}{k:Int},(∀(i:Nat) (h:i<l.length),l[i]=k+i)→MI l k:=by
 intro l;induction l with
 |nil=>intro k _;trivial
 |cons x l ih=>
  intro k h;refine⟨by have h1:x=k+((0:Nat):Int):=h 0 (by simp);rw[h1];simp,ih fun i hi=>?_⟩;have:=h (i+1) (by simpa using hi);simp only[List.getElem_cons_succ]at this;rw[this];push_cast;omega
theorem zjr(l:List Int)(k:Int)(h0:0≤k)(hk:k+l.length≤1152921504606846976)(hl:l.length≤1048576):∃r,zaL l k=some (k+l.length,r)∧r.length=l.length∧MI r k:=by
 unfold zaL
 obtain⟨x,e,r,rfl,h1,h2⟩:=zih (σ:=(List Int)×Int×Int) (β:=(List Int×Int)) (step:=fun s29=>
  if decide (s29.2.2<(s29.1.length:Int))=true then(
  (ix s29.1 s29.2.2).bind fun x40=>
  some (.go (s29.1.set s29.2.2.toNat s29.2.1,i64.wrap (s29.2.1+1),i64.wrap (s29.2.2+1))))else(
  some (.out (s29.1,s29.2.1)))) (s0:=(l,k,0)) l.length
  (fun i s=>∃r:List Int,s=(r,k+(i:Int),(i:Int))∧r.length=l.length∧∀(j:Nat) (h:j<r.length),j<i→r[j]=k+j)
  (fun x=>∃r:List Int,x=(r,k+l.length)∧r.length=l.length∧MI r k)
  ⟨l,by simp,rfl,fun j h1 h2=>by omega⟩
  (by
    rintro i s hi ⟨r,rfl,h1,h2⟩;have hd:decide ((i:Int)<(r.length:Int))=true:=by simp only[decide_eq_true_eq];omega
    refine .inl ⟨(r.set i (k+i),k+((i+1:Nat):Int),((i+1:Nat):Int)),?_,r.set i (k+i),rfl,by simp[h1],fun j hj hji=>?_⟩
    ·simp only[hd,if_true,zaY (l:=r) (k:=i) (by omega),Option.bind_some,Int.toNat_natCast];rw[zaj (n:=(i:Int)+1) (by omega) (by omega),zaj (by omega) (by omega)];have e1:k+(i:Int)+1=k+((i+1:Nat):Int):=by push_cast;omega
     have e2:(i:Int)+1=((i+1:Nat):Int):=by push_cast;rfl
     rw[e1,e2]
    ·rw[List.getElem_set];split
     ·rename_i e;subst e;rfl
     ·exact h2 j (by simpa using hj) (by omega))
  (by
    rintro s ⟨r,rfl,h1,h2⟩
    exact⟨(r,k+l.length),by simp[h1],r,rfl,h1,zCG fun i hi=>h2 i hi (by omega)⟩)
 rw[e,Option.bind_some];exact⟨r,rfl,h1,h2⟩
theorem zzG(l:List Int)(k:Int)(h0:0≤k)(hk:k+l.length≤1152921504606846976)(hl:l.length≤1048576)(hm:MI l k):zet l k=some (k+l.length):=by
 unfold zet
 obtain⟨x,e,rfl⟩:=zih (σ:=Int×Int) (β:=Int ⊕ Int) (step:=fun s7=>
  if decide (s7.2<(l.length:Int))=true then(
  (ix l s7.2).bind fun x18=>
  if(x18 !=s7.1)=true then(
  some (.out (.inr (-1))))else(
  some (.go (i64.wrap (s7.1+1),i64.wrap (s7.2+1)))))else(
  some (.out (.inl s7.1)))) (s0:=(k,0)) l.length (fun i s=>s=(k+(i:Int),(i:Int))) (fun x=>x=.inl (k+l.length)) (by simp)
  (by
    rintro i s hi rfl;have hd:decide ((i:Int)<(l.length:Int))=true:=by simpa using hi
    refine .inl ⟨(k+((i+1:Nat):Int),((i+1:Nat):Int)),?_,rfl⟩;simp only[hd,if_true,zaY hi,Option.bind_some,zAL i hi hm,bne_self_eq_false,Bool.false_eq_true,if_false];rw[zaj (n:=(i:Int)+1) (by omega) (by omega),zaj (by omega) (by omega)];have e1:k+(i:Int)+1=k+((i+1:Nat):Int):=by push_cast;omega
    have e2:(i:Int)+1=((i+1:Nat):Int):=by push_cast;rfl
    rw[e1,e2])
  (by
    rintro s rfl
    exact⟨_,by simp,rfl⟩)
 rw[e];rfl
theorem zd8(a b c:Int):zav a b c=some (decide (b≤a)&&decide (a≤c)):=by
 unfold zav;by_cases h:b≤a<;>simp[h]
theorem zhf(a b c:Int):zaV a b c=some (decide (b≤a)&&decide (a≤c)):=by
 unfold zaV;by_cases h:b≤a<;>simp[h]
theorem zne(a:Int):ze3 a=some (decide (2≤a)&&decide (a≤2000000000)):=by
 unfold ze3;rw[zd8];rfl
theorem zcT(a b:Nat):(a:Int).tmod (b:Int)=((a%b:Nat):Int):=by rw[Int.tmod_eq_emod_of_nonneg (by omega)];exact(Int.natCast_emod _ _).symm
theorem zwE(a b:Nat):(a:Int).tdiv (b:Int)=((a/b:Nat):Int):=by rw[Int.tdiv_eq_ediv_of_nonneg (by omega)];exact(Int.natCast_ediv _ _).symm
theorem zhw(a b:Nat):(a:Int)*(b:Int)=((a*b:Nat):Int):=(Int.natCast_mul _ _).symm
theorem zzM{e:Nat}(he:e≤9223372036854775807):i64.wrap (BitVec.ofInt IntKind.i64.bits (e:Int)&&&BitVec.ofInt IntKind.i64.bits 1).toNat=((e%2:Nat):Int):=by
 have h1:(BitVec.ofInt IntKind.i64.bits (e:Int)&&&BitVec.ofInt IntKind.i64.bits 1).toNat=e%2:=by
  rw[BitVec.toNat_and]
  have a1:(BitVec.ofInt IntKind.i64.bits (e:Int)).toNat=e:=by
   rw[BitVec.toNat_ofInt];have:IntKind.i64.bits=64:=rfl;rw[this];omega
  have a2:(BitVec.ofInt IntKind.i64.bits 1).toNat=1:=by decide
  rw[a1,a2,Nat.and_one_is_mod]
 rw[h1,zaj (by omega) (by omega)]
theorem zzn{a e m:Nat}(ha:a≤2000000000)(hm:1≤m)(hm2:m≤2000000000)(he:e≤9223372036854775807):zc9 (a:Int) (e:Int) (m:Int)=some ((a^e%m:Nat):Int):=by
 unfold zc9
 refine zal (zas (by omega) (zag (φ:=(· =((a^e%m:Nat):Int))) (zls (φ:=(· =((a^e%m:Nat):Int))) (fun s=>∃x y o:Nat,s=((x:Int),(y:Int),(o:Int))∧x≤2000000000∧y≤e∧o<m∧o*x^y%m=a^e%m) (fun s=>s.2.1.toNat)
  ⟨a,e,1%m,by rw[show(1:Int)=((1:Nat):Int)from rfl,zcT],ha,Nat.le_refl _,Nat.mod_lt _ (by omega),by rw[Nat.mod_mul_mod,Nat.one_mul]⟩ ?_) fun x hx=>zab hx))
 rintro s ⟨x,y,o,rfl,hx,hy,ho,hi⟩;refine zan (fun h0=>?_) fun h0=>?_
 ·have h0:0<y:=by simpa using h0
  have hox:o*x≤4000000000000000000:=Nat.le_trans (Nat.mul_le_mul (show o≤2000000000 by omega) hx) (by decide);have hxx:x*x≤4000000000000000000:=Nat.le_trans (Nat.mul_le_mul hx hx) (by decide);refine zag (ψ:=fun o'=>∃k:Nat,o'=(k:Int)∧k<m∧k*(x*x)^(y/2)%m=a^e%m) ?_ ?_
  ·simp only[zzM (show y≤9223372036854775807 by omega)];refine zan (fun h1=>zas (by omega) (zab ⟨o*x%m,?_,Nat.mod_lt _ (by omega),?_⟩)) fun h1=>zab ⟨o,rfl,ho,?_⟩
   ·rw[zhw,zaj (by omega) (by omega),zcT]
   ·have h1:y%2=1:=by
     have:((y%2:Nat):Int)=1:=by simpa using h1
     omega
    rw[Nat.mod_mul_mod,←hi,←Nat.pow_two,←Nat.pow_mul,Nat.mul_assoc,←Nat.pow_succ'];congr 3;omega
   have h1:y%2=0:=by
    have:¬((y%2:Nat):Int)=1:=by simpa using h1
    omega
   rw[←hi,←Nat.pow_two,←Nat.pow_mul];congr 3;omega
  rintro o' ⟨k,rfl,hk,hk2⟩;refine zas (by omega) (zab ⟨⟨x*x%m,y/2,k,?_,by have:=Nat.mod_lt (x*x) (show 0<m by omega);omega,by omega,hk,?_⟩,?_⟩)
  ·rw[zhw,zaj (by omega) (by omega),zcT];have e3:(y:Int).fdiv 2=((y/2:Nat):Int):=by rw[Int.fdiv_eq_ediv_of_nonneg _ (by omega)];rfl
   show(_,(y:Int).fdiv 2,_)=_;rw[e3]
  ·rw[Nat.mul_mod,←Nat.pow_mod,←Nat.mul_mod];exact hk2
  show((y:Int).fdiv 2).toNat<(y:Int).toNat;rw[Int.fdiv_eq_ediv_of_nonneg _ (by omega)];omega
 have h0:y=0:=by
  have:¬(0<y):=by simpa using h0
  omega
 subst h0;refine zab ?_;show(o:Int)=_;rw[Nat.pow_zero,Nat.mul_one,Nat.mod_eq_of_lt ho]at hi;rw[hi]
theorem zxA{a e m:Nat}(ha:a≤2000000000)(hm:1≤m)(hm2:m≤2000000000)(he:e≤9223372036854775807):zcC (a:Int) (e:Int) (m:Int)=some ((a^e%m:Nat):Int):=by
 unfold zcC
 refine zal (zas (by omega) (zag (φ:=(· =((a^e%m:Nat):Int))) (zls (φ:=(· =((a^e%m:Nat):Int))) (fun s=>∃x y o:Nat,s=((x:Int),(y:Int),(o:Int))∧x≤2000000000∧y≤e∧o<m∧o*x^y%m=a^e%m) (fun s=>s.2.1.toNat)
  ⟨a,e,1%m,by rw[show(1:Int)=((1:Nat):Int)from rfl,zcT],ha,Nat.le_refl _,Nat.mod_lt _ (by omega),by rw[Nat.mod_mul_mod,Nat.one_mul]⟩ ?_) fun x hx=>zab hx))
 rintro s ⟨x,y,o,rfl,hx,hy,ho,hi⟩;refine zan (fun h0=>?_) fun h0=>?_
 ·have h0:0<y:=by simpa using h0
  have hox:o*x≤4000000000000000000:=Nat.le_trans (Nat.mul_le_mul (show o≤2000000000 by omega) hx) (by decide);have hxx:x*x≤4000000000000000000:=Nat.le_trans (Nat.mul_le_mul hx hx) (by decide);have e2:(y:Int).tmod 2=((y%2:Nat):Int):=zcT y 2;refine zag (ψ:=fun o'=>∃k:Nat,o'=(k:Int)∧k<m∧k*(x*x)^(y/2)%m=a^e%m) ?_ ?_
  ·simp only[e2];refine zan (fun h1=>zas (by omega) (zab ⟨o*x%m,?_,Nat.mod_lt _ (by omega),?_⟩)) fun h1=>zab ⟨o,rfl,ho,?_⟩
   ·rw[zhw,zaj (by omega) (by omega),zcT]
   ·have h1:y%2=1:=by
     have:((y%2:Nat):Int)=1:=by simpa using h1
     omega
    rw[Nat.mod_mul_mod,←hi,←Nat.pow_two,←Nat.pow_mul,Nat.mul_assoc,←Nat.pow_succ'];congr 3;omega
   have h1:y%2=0:=by
    have:¬((y%2:Nat):Int)=1:=by simpa using h1
    omega
   rw[←hi,←Nat.pow_two,←Nat.pow_mul];congr 3;omega
  rintro o' ⟨k,rfl,hk,hk2⟩;have e3:(y:Int).tdiv 2=((y/2:Nat):Int):=zwE y 2;refine zas (by omega) (zab ⟨⟨x*x%m,y/2,k,?_,by have:=Nat.mod_lt (x*x) (show 0<m by omega);omega,by omega,hk,?_⟩,?_⟩)
  ·simp only[e3];rw[zhw,zaj (n:=((x*x:Nat):Int)) (by omega) (by omega),zcT,zaj (n:=((y/2:Nat):Int)) (by omega) (by omega)]
  ·rw[Nat.mul_mod,←Nat.pow_mod,←Nat.mul_mod];exact hk2
  show(i64.wrap ((y:Int).tdiv 2)).toNat<(y:Int).toNat;rw[e3,zaj (by omega) (by omega)];omega
 have h0:y=0:=by
  have:¬(0<y):=by simpa using h0
  omega
 subst h0;refine zab ?_;show(o:Int)=_;rw[Nat.pow_zero,Nat.mul_one,Nat.mod_eq_of_lt ho]at hi;rw[hi]
theorem zEt(h0:0<q)(h1:q≤2000000000):zh7 a q=some (a%q):=by
 unfold zh7;rw[zbI (by omega),zbI (by omega)];have b1:a.tmod q<q:=Int.tmod_lt_of_pos a h0
 have b2: -q<a.tmod q:=by
  have:=Int.lt_tmod_of_pos a h0;omega
 rw[zaj (by omega) (by omega),Int.tmod_eq_emod_of_nonneg (by omega)];congr 1;rw[Int.add_emod_right];rw[Int.tmod_def,Int.sub_emod,Int.mul_emod_right,Int.sub_zero,Int.emod_emod]
theorem zxb(h0:0<q)(h1:q≤2000000000):zhg a q=some (a%q):=by
 unfold zhg;rw[zbI (by omega),zbI (by omega)];have b1:a.tmod q<q:=Int.tmod_lt_of_pos a h0
 have b2: -q<a.tmod q:=by
  have:=Int.lt_tmod_of_pos a h0;omega
 rw[zaj (by omega) (by omega),Int.tmod_eq_emod_of_nonneg (by omega)];congr 1;rw[Int.add_emod_right];rw[Int.tmod_def,Int.sub_emod,Int.mul_emod_right,Int.sub_zero,Int.emod_emod]
def Pr(n:Nat):Prop:=2≤n∧∀d,2≤d→d*d≤n→n%d≠0
open Classical in
noncomputable def prB(n:Int):Bool:=decide (Pr n.toNat)
theorem ziG :prB (n:Int)=true↔Pr n:=by simp[prB]
theorem zsl(n:Int)(h:n≤2000000000):zfk n=some (prB n):=by
 unfold zfk;refine zal (zan (fun h0=>zab ?_) fun h0=>?_)
 ·have h0:n<2:=by simpa using h0
  symm;unfold prB;rw[decide_eq_false_iff_not];intro hp;have:=hp.1;omega
 have h0:¬n<2:=by simpa using h0
 obtain⟨n,rfl⟩:=Int.eq_ofNat_of_zero_le (show 0≤n by omega);refine zag (ψ:=fun b=>(b=.inl ()∧Pr n)∨(b=.inr false∧¬Pr n)) (zls (fun s=>∃d:Nat,s=(d:Int)∧2≤d∧d≤44723∧∀k,2≤k→k<d→k*k≤n→n%k≠0) (fun s=>50000-s.toNat) ⟨2,rfl,by omega,by omega,fun k h1 h2=>by omega⟩ ?_) ?_
 ·rintro s ⟨d,rfl,hd,hd2,hi⟩;have hdd:d*d≤2000146729:=Nat.le_trans (Nat.mul_le_mul hd2 hd2) (by decide);rw[zhw,zaj (by omega) (by omega)];refine zan (fun h1=>zas (by omega) (zan (fun h2=>zab (.inr ⟨rfl,?_⟩)) fun h2=>zab ?_)) fun h1=>zab (.inl ⟨rfl,by omega,fun k hk hkn=>?_⟩)
  ·have h1:d*d≤n:=by have:=of_decide_eq_true h1;omega
   rw[zcT]at h2
   have h2 : n % d = 0 := by have:((n%d:Nat):Int)=0:=by simpa using h2
                             omega
   exact fun hp=>hp.2 d hd h1 h2
  ·have h1:d*d≤n:=by have:=of_decide_eq_true h1;omega
   rw[zcT]at h2
   have h2 : n % d ≠ 0 := by have:¬((n%d:Nat):Int)=0:=by simpa using h2
                             omega
   have hd3:d≤44722:=by
    rcases Nat.lt_or_ge d 44723 with h|h
    ·omega
    ·have:44723*44723≤d*d:=Nat.mul_le_mul h h;omega
   rw[zaj (by omega) (by omega)];refine⟨⟨d+1,rfl,by omega,by omega,fun k h3 h4 h5=>?_⟩,by omega⟩;rcases Nat.lt_or_ge k d with h|h
   ·exact hi k h3 h h5
   have:k=d:=by omega
   subst this;exact h2
  have h1:n<d*d:=by have:=of_decide_eq_false h1;omega
  rcases Nat.lt_or_ge k d with h|h
  ·exact hi k hk h hkn
  have:=Nat.mul_le_mul h h;omega
 rintro b (⟨rfl,hp⟩|⟨rfl,hp⟩)
 ·exact zab (ziG.2 hp).symm
 refine zab ?_;symm;unfold prB;rw[decide_eq_false_iff_not];exact hp
theorem zp7(n:Int):zeY n=some (decide (n≤2000000000)&&prB n):=by
 unfold zeY;by_cases h:2≤n∧n≤2000000000
 ·obtain⟨n,rfl⟩:=Int.eq_ofNat_of_zero_le (show 0≤n by omega);have e2:((n:Int)).tmod 2=((n%2:Nat):Int):=zcT n 2;have em:(decide (2≤(n:Int))&&decide ((n:Int)≤2000000000))=true:=by simp only[Bool.and_eq_true,decide_eq_true_eq];exact h
  rw[show(decide ((n:Int)≤2000000000)&&prB (n:Int))=prB (n:Int)by simp[h.2]];refine zal (zag (ψ:=fun b=>b=decide (n%2=0∧n≠2)) (zae (zne _) ?_) ?_)
  ·rw[em];refine zbd rfl ?_;rw[e2];refine zan (fun h1=>zab ?_) fun h1=>zab ?_
   ·have h1 : n % 2 = 0 := by have:((n%2:Nat):Int)=0:=by simpa using h1
                              omega
    have:((n:Int) !=2)=decide (n≠2):=by
     by_cases hn:n=2
     ·subst hn;rfl
     ·have hn':¬(n:Int)=2:=by omega
      simp[hn,hn']
    rw[this];simp[h1]
   have h1 : n % 2 ≠ 0 := by have:¬((n%2:Nat):Int)=0:=by simpa using h1
                             omega
   simp[h1]
  rintro b rfl;refine zan (fun h1=>zab ?_) fun h1=>?_
  ·have h1:=of_decide_eq_true h1;symm;unfold prB;rw[decide_eq_false_iff_not];intro hp;have hn:4≤n:=by omega
   exact hp.2 2 (by omega) hn h1.1
  have h1:=of_decide_eq_false h1;refine zag (ψ:=fun b=>(b=.inl ()∧Pr n)∨(b=.inr false∧¬Pr n)) (zls (fun s=>∃d:Nat,s=(d:Int)∧3≤d∧d%2=1∧d≤44725∧∀k,2≤k→k<d→k*k≤n→n%k≠0) (fun s=>50000-s.toNat) ⟨3,rfl,by omega,by omega,by omega,fun k h2 h3 h4=>?_⟩ ?_) ?_
  ·have:k=2:=by omega
   subst this;intro h5;exact h1 ⟨h5,by omega⟩
  ·rintro s ⟨d,rfl,hd,hodd,hd2,hi⟩;have hdd:d*d≤2000325625:=Nat.le_trans (Nat.mul_le_mul hd2 hd2) (by decide);rw[zhw,zaj (by omega) (by omega)];refine zan (fun h1=>zas (by omega) (zan (fun h2=>zab (.inr ⟨rfl,?_⟩)) fun h2=>zab ?_)) fun h1=>zab (.inl ⟨rfl,by omega,fun k hk hkn=>?_⟩)
   ·have h1:d*d≤n:=by have:=of_decide_eq_true h1;omega
    rw[zcT]at h2
    have h2 : n % d = 0 := by have:((n%d:Nat):Int)=0:=by simpa using h2
                              omega
    exact fun hp=>hp.2 d (by omega) h1 h2
   ·have h3:d*d≤n:=by have:=of_decide_eq_true h1;omega
    rw[zcT]at h2
    have h2 : n % d ≠ 0 := by have:¬((n%d:Nat):Int)=0:=by simpa using h2
                              omega
    have hd3:d≤44722:=by
     rcases Nat.lt_or_ge d 44723 with h|h
     ·omega
     ·have:44723*44723≤d*d:=Nat.mul_le_mul h h;omega
    rw[zaj (by omega) (by omega)];refine⟨⟨d+2,rfl,by omega,by omega,by omega,fun k h4 h5 h6 h7=>?_⟩,by omega⟩;rcases Nat.lt_or_ge k d with h|h
    ·exact hi k h4 h h6 h7
    rcases(show k=d∨k=d+1 by omega)with e|e
    ·subst e;exact h2 h7
    have h8:n%2=0:=by
     have a1:k∣n:=Nat.dvd_of_mod_eq_zero h7;have a2:2∣k:=Nat.dvd_of_mod_eq_zero (by omega);exact Nat.mod_eq_zero_of_dvd (Nat.dvd_trans a2 a1)
    have h9:2*2≤n:=by
     have:=Nat.mul_le_mul h4 h4;omega
    exact hi 2 (by omega) (by omega) h9 h8
   have h1:n<d*d:=by have:=of_decide_eq_false h1;omega
   rcases Nat.lt_or_ge k d with h|h
   ·exact hi k hk h hkn
   have:=Nat.mul_le_mul h h;omega
  rintro b (⟨rfl,hp⟩|⟨rfl,hp⟩)
  ·exact zab (ziG.2 hp).symm
  refine zab ?_;symm;unfold prB;rw[decide_eq_false_iff_not];exact hp
 have em:(decide (2≤n)&&decide (n≤2000000000))=false:=by
  rw[Bool.and_eq_false_iff,decide_eq_false_iff_not,decide_eq_false_iff_not];omega
 rw[zne,em];simp only[Option.bind_some,Bool.not_false,if_true];congr 1;symm;rw[Bool.and_eq_false_iff,decide_eq_false_iff_not];by_cases hn:n≤2000000000
 ·right;unfold prB;rw[decide_eq_false_iff_not];intro hp;have:=hp.1;omega
 exact .inl hn
structure OkG (gr:Group):Prop where
 p:3≤gr.P∧gr.P≤2000000000
 q:2≤gr.Q∧gr.Q≤gr.P-1
 d:(gr.P.toNat-1)%gr.Q.toNat=0
 g:2≤gr.G∧gr.G≤gr.P-1
 pp:Pr gr.P.toNat
 pq:Pr gr.Q.toNat
 o:gr.G.toNat^gr.Q.toNat%gr.P.toNat=1
open Classical in
noncomputable def okG(gr:Group):Bool:=decide (OkG gr)
theorem zly :okG gr=true↔OkG gr:=by simp[okG]
theorem zgU(h:¬OkG gr):okG gr=false:=by simp[okG,h]
theorem zwe{b:Bool}(h1:b=true→OkG gr)(h2:OkG gr→b=true):b=okG gr:=by
 cases hb:b with
 |true=>exact(zly.2 (h1 hb)).symm
 |false=>exact(zgU fun h=>by rw[h2 h]at hb;cases hb).symm
theorem zd6(h:0≤a):a=((a.toNat:Nat):Int):=by omega
theorem zjx{e:Int}(ha:0≤a)(ha2:a≤2000000000)(hm:1≤m)(hm2:m≤2000000000)(he:0≤e)(he2:e≤9223372036854775807):zc9 a e m=some ((a.toNat^e.toNat%m.toNat:Nat):Int)∧zcC a e m=some ((a.toNat^e.toNat%m.toNat:Nat):Int):=by
 have h1:=zzn (a:=a.toNat) (e:=e.toNat) (m:=m.toNat) (by omega) (by omega) (by omega) (by omega);have h2:=zxA (a:=a.toNat) (e:=e.toNat) (m:=m.toNat) (by omega) (by omega) (by omega) (by omega);rw[←zd6 ha,←zd6 he,←zd6 (show 0≤m by omega)]at h1 h2;exact⟨h1,h2⟩
theorem zjV{a b:Bool}:(a&&b)=true↔a=true∧b=true:=by simp
theorem zro(gr:Group):zc1 gr=some (okG gr):=by
 unfold zc1;refine zal (zag (ψ:=fun b=>b=okG gr) ?_ fun b hb=>zab hb);refine zae (zd8 _ _ _) (zan (fun h=>?_) fun h=>?_)
 ·have hp:3≤gr.P∧gr.P≤2000000000:=by simpa using h
  rw[zaj (n:=gr.P-1) (by omega) (by omega)];refine zae (zd8 _ _ _) (zan (fun h=>?_) fun h=>?_)
  ·have hq:2≤gr.Q∧gr.Q≤gr.P-1:=by simpa using h
   have ed:(gr.P-1).tmod gr.Q=(((gr.P.toNat-1)%gr.Q.toNat:Nat):Int):=by
    rw[zd6 (show 0≤gr.P-1 by omega),zd6 (show 0≤gr.Q by omega),zcT];simp only[Int.toNat_natCast];congr 2;omega
   refine zas (by omega) ?_;rw[ed];refine zan (fun h=>?_) fun h=>?_
   ·have hd:(gr.P.toNat-1)%gr.Q.toNat=0:=by
     have:(((gr.P.toNat-1)%gr.Q.toNat:Nat):Int)=0:=by simpa using h
     omega
    refine zae (zd8 _ _ _) (zan (fun h=>?_) fun h=>?_)
    ·have hg:2≤gr.G∧gr.G≤gr.P-1:=by simpa using h
     refine zae (zp7 _) (zan (fun h=>?_) fun h=>?_)
     ·have hpp:Pr gr.P.toNat:=by
       rw[zjV,zd6 (show 0≤gr.P by omega),ziG]at h;exact h.2
      refine zae (zp7 _) (zan (fun h=>?_) fun h=>?_)
      ·have hpq:Pr gr.Q.toNat:=by
        rw[zjV,zd6 (show 0≤gr.Q by omega),ziG]at h;exact h.2
       refine zae (zjx (a:=gr.G) (e:=gr.Q) (m:=gr.P) (by omega) (by omega) (by omega) (by omega) (by omega) (by omega)).1 (zab (zwe (fun h=>⟨hp,hq,hd,hg,hpp,hpq,?_⟩) fun h=>?_))
       ·have:((gr.G.toNat^gr.Q.toNat%gr.P.toNat:Nat):Int)=1:=by simpa using h
        omega
       rw[h.o];rfl
      refine zab (zgU fun hk=>?_).symm
      have:(decide (gr.Q≤2000000000)&&prB gr.Q)=true:=by
       rw[zjV,zd6 (show 0≤gr.Q by omega),ziG];exact⟨by simp;omega,hk.pq⟩
      rw[this]at h;cases h
     refine zab (zgU fun hk=>?_).symm
     have:(decide (gr.P≤2000000000)&&prB gr.P)=true:=by
      rw[zjV,zd6 (show 0≤gr.P by omega),ziG];exact⟨by simp;omega,hk.pp⟩
     rw[this]at h;cases h
    refine zab (zgU fun hk=>?_).symm;have:=hk.g;simp at h;omega
   refine zab (zgU fun hk=>?_).symm;rw[hk.d]at h;cases h
  refine zab (zgU fun hk=>?_).symm;have:=hk.q;simp at h;omega
 refine zab (zgU fun hk=>?_).symm;have:=hk.p;simp at h;omega
theorem zgI(gr:Group):zdb gr=some (okG gr):=by
 unfold zdb;refine zal (zag (ψ:=fun b=>b=okG gr) ?_ fun b hb=>zab hb);refine zae (zhf _ _ _) (zan (fun h=>?_) fun h=>?_)
 ·have hp:3≤gr.P∧gr.P≤2000000000:=by simpa using h
  rw[zaj (n:=gr.P-1) (by omega) (by omega)];refine zae (zhf _ _ _) (zan (fun h=>?_) fun h=>?_)
  ·have hq:2≤gr.Q∧gr.Q≤gr.P-1:=by simpa using h
   have ed:(gr.P-1).tmod gr.Q=(((gr.P.toNat-1)%gr.Q.toNat:Nat):Int):=by
    rw[zd6 (show 0≤gr.P-1 by omega),zd6 (show 0≤gr.Q by omega),zcT];simp only[Int.toNat_natCast];congr 2;omega
   refine zas (by omega) ?_;rw[ed];refine zan (fun h=>?_) fun h=>?_
   ·have hd:(gr.P.toNat-1)%gr.Q.toNat=0:=by
     have:(((gr.P.toNat-1)%gr.Q.toNat:Nat):Int)=0:=by simpa using h
     omega
    refine zae (zhf _ _ _) (zan (fun h=>?_) fun h=>?_)
    ·have hg:2≤gr.G∧gr.G≤gr.P-1:=by simpa using h
     refine zae (zjx (a:=gr.G) (e:=gr.Q) (m:=gr.P) (by omega) (by omega) (by omega) (by omega) (by omega) (by omega)).2 (zan (fun h=>?_) fun h=>?_)
     ·have ho:gr.G.toNat^gr.Q.toNat%gr.P.toNat=1:=by
       have:((gr.G.toNat^gr.Q.toNat%gr.P.toNat:Nat):Int)=1:=by simpa using h
       omega
      refine zae (zsl _ (by omega)) (zan (fun h=>?_) fun h=>?_)
      ·have hpq:Pr gr.Q.toNat:=by
        rw[zd6 (show 0≤gr.Q by omega),ziG]at h;exact h
       refine zae (zsl _ (by omega)) (zab (zwe (fun h=>⟨hp,hq,hd,hg,?_,hpq,ho⟩) fun h=>?_))
       ·rw[zd6 (show 0≤gr.P by omega),ziG]at h;exact h
       rw[zd6 (show 0≤gr.P by omega),ziG];exact h.pp
      refine zab (zgU fun hk=>?_).symm
      have:prB gr.Q=true:=by
       rw[zd6 (show 0≤gr.Q by omega),ziG];exact hk.pq
      rw[this]at h;cases h
     refine zab (zgU fun hk=>?_).symm;rw[hk.o]at h;cases h
    refine zab (zgU fun hk=>?_).symm;have:=hk.g;simp at h;omega
   refine zab (zgU fun hk=>?_).symm;rw[hk.d]at h;cases h
  refine zab (zgU fun hk=>?_).symm;have:=hk.q;simp at h;omega
 refine zab (zgU fun hk=>?_).symm;have:=hk.p;simp at h;omega
def zaq(gr:Group)(x:Int):Bool:=decide (1≤x)&&decide (x≤gr.P-1)&&decide (x.toNat^gr.Q.toNat%gr.P.toNat=1)
def zgj(gr:Group)(x:Int):Bool:=decide (0≤x)&&decide (x≤gr.Q-1)
theorem zuY(k:OkG gr)(x:Int):zdh gr x=some (zaq gr x):=by
 have hp:=k.p;have hq:=k.q;unfold zdh zaq;rw[zaj (n:=gr.P-1) (by omega) (by omega),zd8];refine zal (zag (ψ:=fun b=>b=_) ?_ fun b hb=>zab hb);refine zae rfl (zan (fun h=>?_) fun h=>?_)
 ·have hx:1≤x∧x≤gr.P-1:=by simpa using h
  refine zae (zjx (a:=x) (e:=gr.Q) (m:=gr.P) (by omega) (by omega) (by omega) (by omega) (by omega) (by omega)).1 (zab ?_);rw[h,Bool.true_and];by_cases h1:x.toNat^gr.Q.toNat%gr.P.toNat=1
  ·simp[h1]
  have:¬((x.toNat^gr.Q.toNat%gr.P.toNat:Nat):Int)=1:=by omega
  rw[beq_false_of_ne this,decide_eq_false h1]
 rw[h];exact zab rfl
theorem zoC(k:OkG gr)(l:List Int):zed gr l=some (l.all (zaq gr)):=by
 have hp:=k.p;have hq:=k.q;unfold zed;rw[zaj (n:=gr.P-1) (by omega) (by omega)];refine zal (zag (ψ:=fun b=>(b=.inl ()∧l.all (zaq gr)=true)∨(b=.inr false∧l.all (zaq gr)=false)) (zaQ (fun i s=>(l.take i).all (zaq gr)=true) rfl ?_ ?_) ?_)
 ·rintro i s hi hI;refine zbm hi (zag (ψ:=fun b=>b= !zaq gr l[i]) ?_ ?_)
  ·refine zae (zhf _ _ _) (zan (fun h=>zab ?_) fun h=>?_)
   ·have h:(decide (1≤l[i])&&decide (l[i]≤gr.P-1))=false:=by rwa [Bool.not_eq_true']at h
    simp[zaq,h]
   have h:(decide (1≤l[i])&&decide (l[i]≤gr.P-1))=true:=by simpa using h
   have hx:1≤l[i]∧l[i]≤gr.P-1:=by simpa using h
   refine zae (zjx (a:=l[i]) (e:=gr.Q) (m:=gr.P) (by omega) (by omega) (by omega) (by omega) (by omega) (by omega)).2 (zab ?_);simp only[zaq,h,Bool.true_and];by_cases h1:l[i].toNat^gr.Q.toNat%gr.P.toNat=1
   ·simp[h1]
   have:¬((l[i].toNat^gr.Q.toNat%gr.P.toNat:Nat):Int)=1:=by omega
   simp only[bne,beq_false_of_ne this,decide_eq_false h1]
  rintro b rfl;refine zan (fun h=>zab (.inr ⟨rfl,?_⟩)) fun h=>zab ?_
  ·have h:zaq gr l[i]=false:=by simpa using h
   rw[List.all_eq_false];exact⟨l[i],List.getElem_mem hi,by simp[h]⟩
  have h:zaq gr l[i]=true:=by simpa using h
  show(l.take (i+1)).all (zaq gr)=true;rw[List.take_succ_eq_append_getElem hi,List.all_append,hI];simp[h]
 ·rintro s hI;rw[List.take_length]at hI;exact .inl ⟨rfl,hI⟩
 rintro b (⟨rfl,h⟩|⟨rfl,h⟩)
 ·exact zab h.symm
 exact zab h.symm
theorem zpH(l:List Int)(a b:Int):zej l a b=some (l.all fun x=>decide (a≤x)&&decide (x≤b)):=by
 unfold zej;refine zal (zag (ψ:=fun c=>(c=.inl ()∧(l.all fun x=>decide (a≤x)&&decide (x≤b))=true)∨(c=.inr false∧(l.all fun x=>decide (a≤x)&&decide (x≤b))=false)) (zaQ (fun i s=>((l.take i).all fun x=>decide (a≤x)&&decide (x≤b))=true) rfl ?_ ?_) ?_)
 ·rintro i s hi hI;refine zbm hi (zae (zhf _ _ _) (zan (fun h=>zab (.inr ⟨rfl,?_⟩)) fun h=>zab ?_))
  ·rw[List.all_eq_false];exact⟨l[i],List.getElem_mem hi,by rw[Bool.not_eq_true']at h;rw[h];simp⟩
  show((l.take (i+1)).all fun x=>decide (a≤x)&&decide (x≤b))=true;rw[List.take_succ_eq_append_getElem hi,List.all_append,hI];simpa using h
 ·rintro s hI;rw[List.take_length]at hI;exact .inl ⟨rfl,hI⟩
 rintro c (⟨rfl,h⟩|⟨rfl,h⟩)
 ·exact zab h.symm
 exact zab h.symm
theorem ztL(h:0≤gr.Q)(h2:gr.Q≤2000000000)(l:List Int):ze0 gr l=some (l.all (zgj gr)):=by
 unfold ze0;rw[zaj (by omega) (by omega),zpH];rfl
theorem zzU(h:0≤gr.Q)(h2:gr.Q≤2000000000)(x:Int):zef gr x=some (zgj gr x):=by
 unfold zef;rw[zaj (by omega) (by omega),zd8];rfl
def zb3(gr:Group)(x e:Int):Int:=((x.toNat^(e%gr.Q).toNat%gr.P.toNat:Nat):Int)
theorem ziF(k:OkG gr)(x e:Int):0≤zb3 gr x e∧zb3 gr x e≤gr.P-1:=by
 have hp:=k.p;unfold zb3;have:=Nat.mod_lt (x.toNat^(e%gr.Q).toNat) (y:=gr.P.toNat) (by omega);omega
theorem zq1(k:OkG gr)(h0:0≤x)(h1:x≤2000000000)(e:Int):zbj gr x e=some (zb3 gr x e)∧zb7 gr x e=some (zb3 gr x e):=by
 have hp:=k.p;have hq:=k.q;have b1:0≤e%gr.Q:=Int.emod_nonneg _ (by omega);have b2:e%gr.Q<gr.Q:=Int.emod_lt_of_pos _ (by omega);have hw:=zjx (a:=x) (e:=e%gr.Q) (m:=gr.P) (by omega) (by omega) (by omega) (by omega) b1 (by omega);unfold zbj zb7;rw[zEt (by omega) (by omega),zxb (by omega) (by omega),Option.bind_some,Option.bind_some,hw.1,hw.2];exact⟨rfl,rfl⟩
theorem zwU(k:OkG gr)(h0:0≤x)(h1:x≤2000000000)(e:Int):zb7 gr x e=some (zb3 gr x e):=by
 have hp:=k.p;have hq:=k.q;have b1:0≤e%gr.Q:=Int.emod_nonneg _ (by omega);have b2:e%gr.Q<gr.Q:=Int.emod_lt_of_pos _ (by omega);have hw:=zjx (a:=x) (e:=e%gr.Q) (m:=gr.P) (by omega) (by omega) (by omega) (by omega) b1 (by omega);unfold zb7;rw[zxb (by omega) (by omega),Option.bind_some,hw.2];rfl
def zc4(gr:Group)(l:List Int):Int:=l.foldl (fun o x=>o*x%gr.P) 1
theorem zso(h:1≤gr.P):∀(l:List Int) (o:Int),0≤o→o≤gr.P→(∀x∈l,0≤x)→0≤l.foldl (fun o x=>o*x%gr.P) o∧l.foldl (fun o x=>o*x%gr.P) o≤gr.P:=by
 intro l;induction l with
 |nil=>intro o h0 h1 _;exact⟨h0,h1⟩
 |cons x l ih=>
  intro o h0 h1 h2;exact ih _ (Int.emod_nonneg _ (by omega)) (Int.le_of_lt (Int.emod_lt_of_pos (o*x) (show 0<gr.P by omega))) fun y hy=>h2 y (List.mem_cons_of_mem _ hy)
theorem zBs(gr:Group)(l:List Int):zcn gr l=zaZ gr l:=rfl
theorem zoB(k:OkG gr)(hl:∀x∈l,0≤x∧x≤2000000000):zaZ gr l=some (zc4 gr l):=by
 have hp:=k.p;unfold zaZ;refine zal (zag (ψ:=fun b=>b=zc4 gr l) (zaQ (fun i s=>s=(l.take i).foldl (fun o x=>o*x%gr.P) 1) rfl ?_ ?_) fun b hb=>zab hb)
 ·rintro i s hi rfl;have hb:=zso (gr:=gr) (by omega) (l.take i) 1 (by omega) (by omega) fun x hx=>(hl x (List.mem_of_mem_take hx)).1
  have hx:=hl l[i] (List.getElem_mem hi);refine zbm hi (zas (by omega) (zab ?_));show _=(l.take (i+1)).foldl _ _;rw[List.take_succ_eq_append_getElem hi,List.foldl_append];generalize (l.take i).foldl (fun o x=>o*x%gr.P) 1=o at hb⊢;have b1:0≤o*l[i]:=Int.mul_nonneg hb.1 hx.1;have b2:o*l[i]≤2000000000*2000000000:=Int.mul_le_mul (by omega) hx.2 hx.1 (by omega);show(i64.wrap (o*l[i])).tmod gr.P=o*l[i]%gr.P;rw[zaj (by omega) (by omega),Int.tmod_eq_emod_of_nonneg b1]
 rintro s rfl;rw[List.take_length];rfl
theorem zwz(k:OkG gr)(hl:∀x∈l,0≤x∧x≤2000000000):zcn gr l=some (zc4 gr l):=by rw[zBs];exact zoB k hl
theorem zz7(k:OkG gr)(hl:∀x∈l,0≤x∧x≤2000000000):0≤zc4 gr l∧zc4 gr l≤gr.P:=by
 have hp:=k.p;exact zso (by omega) l 1 (by omega) (by omega) fun x hx=>(hl x hx).1
theorem zk5(k:OkG gr)(l:List Int):zbt gr l=some (l.all (zaq gr)):=by
 unfold zbt zct zaO zaS;refine zal (zag (ψ:=fun b=>b=l.all (zaq gr)) (zag (ψ:=fun b=>b= !l.all (zaq gr)) (zag (ψ:=fun j=>(j=-1∧l.all (zaq gr)=true)∨(0≤j∧l.all (zaq gr)=false)) (zag (ψ:=fun b=>(b=.inl ()∧l.all (zaq gr)=true)∨(∃j,b=.inr j∧0≤j∧l.all (zaq gr)=false)) (zaQ (fun i s=>(l.take i).all (zaq gr)=true) rfl ?_ ?_) ?_) ?_) ?_) ?_)
 ·rintro i s hi hI
  have hc:zbA l[i] gr=some (!zaq gr l[i]):=by
   unfold zbA;rw[zuY k];rfl
  refine zbm hi (zae hc (zan (fun h=>zab (.inr ⟨i,rfl,by omega,?_⟩)) fun h=>zab ?_))
  ·rw[List.all_eq_false];exact⟨l[i],List.getElem_mem hi,by rw[Bool.not_eq_true']at h;rw[h];simp⟩
  show(l.take (i+1)).all (zaq gr)=true;rw[List.take_succ_eq_append_getElem hi,List.all_append,hI];simpa using h
 ·rintro s hI;rw[List.take_length]at hI;exact .inl ⟨rfl,hI⟩
 ·rintro b (⟨rfl,h⟩|⟨j,rfl,h0,h⟩)
  ·exact zab (.inl ⟨rfl,h⟩)
  exact zab (.inr ⟨h0,h⟩)
 ·rintro j (⟨rfl,h⟩|⟨h0,h⟩)
  ·exact zab (by rw[h];rfl)
  exact zab (by rw[h];simpa using h0)
 ·rintro b rfl;exact zab (by simp)
 rintro b rfl;exact zab rfl
theorem zjO(h:zaq gr x=true):1≤x∧x≤gr.P-1:=by
 simp only[zaq,Bool.and_eq_true,decide_eq_true_eq]at h;exact h.1
theorem zoT{α:Type}(b:Bool)(u v:α):(if b=true then some u else some v)=some (if(!b)=true then v else u):=by cases b<;>rfl
theorem zuw{α:Type}(b:Bool)(u v:α):(if(!b)=true then some u else some v)=some (if b=true then v else u):=by cases b<;>rfl
theorem zmI{β:Type}{body:Int→Unit→Option (Stp Unit (Unit ⊕ β))}(m:Nat)(p:Nat→Bool)(val:Nat→β)(h:∀k,k<m→body (k:Int) ()=some (if p k=true then .go ()else .out (.inr (val k)))):
 (zau body (fun _=>.inl ()) m 0 ()=some (.inl ())∧∀k,k<m→p k=true)∨∃k,k<m∧p k=false∧(∀j,j<k→p j=true)∧zau body (fun _=>.inl ()) m 0 ()=some (.inr (val k)):=by
 have key:Rn (zau body (fun _=>Sum.inl ()) m 0 ()) (fun b=>(b=.inl ()∧∀k,k<m→p k=true)∨∃k,k<m∧p k=false∧(∀j,j<k→p j=true)∧b=.inr (val k)):=by
  refine zaQ (fun k _=>∀j,j<k→p j=true) (fun j hj=>by omega) ?_ fun s hs=>.inl ⟨rfl,hs⟩
  intro k s hk hI;refine⟨_,h k hk,?_⟩;cases hp:p k with
  |true=>
   intro j hj;rcases Nat.lt_or_ge j k with h|h
   ·exact hI j h
   ·have:j=k:=by omega
    rw[this];exact hp
  |false=>exact .inr ⟨k,hk,hp,hI,rfl⟩
 obtain⟨b,e,h1|⟨k,h1,h2,h3,h4⟩⟩:=key
 ·exact .inl ⟨by rw[e,h1.1],h1.2⟩
 exact .inr ⟨k,h1,h2,h3,by rw[e,h4]⟩
theorem zES{α:Type}(l:List α)(p:α→Bool)(c:Bool){body:Int→Unit→Option (Stp Unit (Unit ⊕ Bool))}(h:∀k (hk:k<l.length),body (k:Int) ()=some (if p l[k]=true then .go ()else .out (.inr c))):
 (zau body (fun _=>.inl ()) l.length 0 ()).bind (Sum.elim (fun _=>some (!c)) some)=some (if l.all p=true then !c else c):=by
 rcases zmI (body:=body) l.length (fun k=>(l[k]?).any p) (fun _=>c) (fun k hk=>by rw[h k hk,List.getElem?_eq_getElem hk];rfl)with⟨e,h1⟩|⟨k,h1,h2,h3,e⟩
 ·rw[e]
  have:l.all p=true:=by
   rw[List.all_eq_true];intro x hx;obtain⟨k,hk,rfl⟩:=List.mem_iff_getElem.1 hx;have:=h1 k hk;rw[List.getElem?_eq_getElem hk]at this;exact this
  rw[this];rfl
 rw[e]
 have:l.all p=false:=by
  rw[List.all_eq_false];refine⟨l[k],List.getElem_mem h1,?_⟩;rw[List.getElem?_eq_getElem h1]at h2;simpa using h2
 rw[this];rfl
theorem zz1(l:List Int)(x:Int):(zcp l x=some (-1)∧¬x∈l)∨∃k,∃h:k<l.length,zcp l x=some (k:Int)∧l[k]=x∧∀j (hj:j<k),l[j]'(by omega)≠x:=by
 unfold zcp
 rcases zmI l.length (fun k=>(l[k]?).any fun y=> !(x==y)) (fun k=>(k:Int)) (body:=fun i8 s7=>(ix l i8).bind fun x17=>if(x==x17)=true then some (.out (.inr i8))else some (.go ())) (fun k hk=>by
  rw[zaY hk,Option.bind_some,List.getElem?_eq_getElem hk]
  exact zoT _ _ _)with⟨e,h1⟩|⟨k,h1,h2,h3,e⟩
 ·refine .inl ⟨by rw[e];rfl,fun hx=>?_⟩;obtain⟨k,hk,rfl⟩:=List.mem_iff_getElem.1 hx;have:=h1 k hk;rw[List.getElem?_eq_getElem hk]at this;simp at this
 refine .inr ⟨k,h1,by rw[e];rfl,?_,fun j hj=>?_⟩
 ·rw[List.getElem?_eq_getElem h1]at h2;simp at h2;exact h2.symm
 have:=h3 j hj;rw[List.getElem?_eq_getElem (by omega)]at this;simp at this;exact fun e=>this e.symm
theorem zu6(l:List Int)(x:Int):zbS l x=some (l.contains x):=by
 unfold zbS;rcases zz1 l x with⟨e,h⟩|⟨k,hk,e,h,_⟩
 ·rw[e];have:l.contains x=false:=by simpa using h
  rw[this];rfl
 rw[e]
 have:l.contains x=true:=by
  have:=List.getElem_mem hk;rw[h]at this;simpa using this
 rw[this];simp
theorem zi6{p:Int→Bool}{f:Int→Option Bool}(hf:∀x∈l,f x=some (!p x)):
 ((((zau (σ:=Unit) (β:=Unit ⊕ Int) (fun i8 s7=>(ix l i8).bind fun x17=>(f x17).bind fun z20=>if z20=true then(some (.out (.inr i8)))else(some (.go ()))) (fun s7=>.inl ()) (l.length) 0 ():Option (Unit ⊕ Int)).bind (Sum.elim (fun(x5:Unit)=>some (-1)) some)).bind fun z1=>some (decide (0≤z1))).bind fun z1=>some (!z1))=some (l.all p):=by
 rcases zmI l.length (fun k=>(l[k]?).any p) (fun k=>(k:Int)) (body:=fun i8 s7=>(ix l i8).bind fun x17=>(f x17).bind fun z20=>if z20=true then(some (.out (.inr i8)))else(some (.go ()))) (fun k hk=>by
  rw[zaY hk,Option.bind_some,hf _ (List.getElem_mem hk),Option.bind_some,List.getElem?_eq_getElem hk]
  exact zuw _ _ _)with⟨e,h1⟩|⟨k,h1,h2,h3,e⟩
 ·rw[e]
  have:l.all p=true:=by
   rw[List.all_eq_true];intro x hx;obtain⟨k,hk,rfl⟩:=List.mem_iff_getElem.1 hx;have:=h1 k hk;rw[List.getElem?_eq_getElem hk]at this;exact this
  rw[this];rfl
 rw[e]
 have:l.all p=false:=by
  rw[List.all_eq_false];refine⟨l[k],List.getElem_mem h1,?_⟩;rw[List.getElem?_eq_getElem h1]at h2;simpa using h2
 rw[this];simp
def dg(q:Nat):Nat→Nat→List Int
 |0,_=>[]
 |k+1,n=>((n%q:Nat):Int)::dg q k (n/q)
theorem zti(k:OkG gr)(c:Cipher):zc3 gr c=some (zaq gr c.A&&zaq gr c.B):=by
 unfold zc3;rw[zuY k,zuY k];cases zaq gr c.A<;>simp
theorem zp4(h:0≤gr.Q)(h2:gr.Q≤2000000000)(l:List Int):zce gr l=some (l.all (zgj gr)):=by
 have h1:zcm l gr=some (l.all (zgj gr)):=zi6 (f:=fun x=>zbn x gr) fun x _=>by
  unfold zbn;rw[zzU h h2];rfl
 unfold zce;rw[h1];rfl
theorem zkE{a e:Nat}(h:a^n%p=1):a^(e%n)%p=a^e%p:=by
 have hp:1%p=1:=by rw[←h,Nat.mod_mod]
 conv=>rhs;rw[←Nat.div_add_mod e n]
 rw[Nat.pow_add,Nat.pow_mul,Nat.mul_mod,Nat.pow_mod (a^n),h,Nat.one_pow,hp,Nat.one_mul,Nat.mod_mod]
theorem zjl(h:zaq gr x=true):1≤x∧x≤gr.P-1∧x.toNat^gr.Q.toNat%gr.P.toNat=1:=by
 unfold zaq at h;simp only[Bool.and_eq_true,decide_eq_true_eq]at h;exact⟨h.1.1,h.1.2,h.2⟩
theorem zx7(k:OkG gr)(h:zaq gr x=true){s l:Int}(hs:0≤s)(hl:0≤l):zb3 gr (zb3 gr x s) l=zb3 gr x (s*l):=by
 obtain⟨_,_,h3⟩:=zjl h;have hq:=k.q;obtain⟨a,rfl⟩:=Int.eq_ofNat_of_zero_le hs;obtain⟨b,rfl⟩:=Int.eq_ofNat_of_zero_le hl;obtain⟨n,hn⟩:=Int.eq_ofNat_of_zero_le (show 0≤gr.Q by omega);unfold zb3;rw[hn]at h3⊢;rw[Int.toNat_natCast]at h3;have e:∀c:Nat,((c:Int)%(n:Int)).toNat=c%n:=fun c=>by rw[←Int.natCast_emod,Int.toNat_natCast]
 rw[zhw,e,e,e,Int.toNat_natCast,zkE h3,zkE h3,←Nat.pow_mod,←Nat.pow_mul];congr 1;rw[Nat.pow_mul,Nat.pow_mod,zkE (n:=n) (e:=b)]
 ·rw[←Nat.pow_mod,←Nat.pow_mul]
 rw[←Nat.pow_mod,←Nat.pow_mul,Nat.mul_comm,Nat.pow_mul,Nat.pow_mod,h3,Nat.one_pow,←h3,Nat.mod_mod]
theorem zvz{d:Nat}(h:Pr n)(hd:d%n≠0):Nat.gcd n d=1:=by
 obtain⟨k,hk⟩:=Nat.gcd_dvd_left n d;have hn:=h.1;have h0:0<Nat.gcd n d:=Nat.gcd_pos_of_pos_left d (by omega);have hdv:=Nat.gcd_dvd_right n d;generalize Nat.gcd n d=g at hk h0 hdv;apply Classical.byContradiction;intro hg;have hg2:2≤g:=by omega
 have hk2:2≤k:=by
  rcases Nat.lt_or_ge k 2 with h|h
  ·have:k=0∨k=1:=by omega
   rcases this with rfl|rfl
   ·omega
   ·rw[Nat.mul_one]at hk;rw[←hk]at hdv;exact absurd (Nat.mod_eq_zero_of_dvd hdv) hd
  ·exact h
 rcases Nat.le_total g k with h'|h'
 ·exact h.2 g hg2 (by rw[hk];exact Nat.mul_le_mul_left g h') (by rw[hk];exact Nat.mul_mod_right g k)
 exact h.2 k hk2 (by rw[hk];exact Nat.mul_le_mul_right k h') (by rw[hk];exact Nat.mul_mod_left g k)
theorem zw3(h:Pr n)(hab:(a*b)%(n:Int)=0):a%(n:Int)=0∨b%(n:Int)=0:=by
 have h1:n∣a.natAbs*b.natAbs:=by
  rw[←Int.natAbs_mul];exact Int.ofNat_dvd_left.1 (Int.dvd_of_emod_eq_zero hab)
 by_cases ha:a.natAbs%n=0
 ·exact .inl (Int.emod_eq_zero_of_dvd (Int.ofNat_dvd_left.2 (Nat.dvd_of_mod_eq_zero ha)))
 exact .inr (Int.emod_eq_zero_of_dvd (Int.ofNat_dvd_left.2 (Nat.Coprime.dvd_of_dvd_mul_left (zvz h ha) h1)))
def evP(f:List Int)(x:Int):Int:=f.foldr (fun c a=>a*x+c) 0
theorem zsu(c:Int)(f:List Int)(x:Int):evP (c::f) x=evP f x*x+c:=rfl
def dvP(r:Int):List Int→List Int
 |[]=>[]
 |[_]=>[]
 |_::c::f=>evP (c::f) r::dvP r (c::f)
theorem ztt(r:Int):∀f:List Int,(dvP r f).length=f.length-1
 |[]=>rfl
 |[_]=>rfl
 |_::c::f=>by
  show(dvP r (c::f)).length+1=_;rw[ztt r (c::f)];simp
theorem zvR(r x:Int):∀f:List Int,evP f x=evP (dvP r f) x*(x-r)+evP f r
 |[]=>by simp[dvP,evP]
 |[c]=>by simp[dvP,evP]
 |d::c::f=>by
  have ih:=zvR r x (c::f);show evP (c::f) x*x+d=(evP (dvP r (c::f)) x*x+evP (c::f) r)*(x-r)+(evP (c::f) r*r+d);rw[ih];grind
theorem zq9(r:Int):∀f:List Int,2≤f.length→(dvP r f).getLastD 0=f.getLastD 0
 |[],h=>absurd h (by simp)
 |[_],h=>absurd h (by simp)
 |[d,c],_=>by simp[dvP,evP]
 |e::d::c::f,_=>by
  have ih:=zq9 r (d::c::f) (by simp);show(evP (d::c::f) r::evP (c::f) r::dvP r (c::f)).getLastD 0=_;have:dvP r (d::c::f)=evP (c::f) r::dvP r (c::f):=rfl;rw[this]at ih;simpa[List.getLastD]using ih
theorem zwu{p:Nat}(hp:Pr p):∀(n:Nat) (f:List Int),f.length=n+1→f.getLastD 0%(p:Int)≠0→∀rs:List Int,rs.Pairwise (fun a b=>(b-a)%(p:Int)≠0)→(∀r∈rs,evP f r%(p:Int)=0)→rs.length≤n
 |0,f,hl,hf,rs,hd,hr=>by
  match f,hl with
  |[c],_=>
   cases rs with
   |nil=>simp
   |cons r rs=>
    have:=hr r (List.mem_cons_self ..);simp[evP]at this;exact absurd (by first|exact this|exact Int.emod_eq_zero_of_dvd this) (by simpa[List.getLastD]using hf)
 |n+1,f,hl,hf,rs,hd,hr=>by
  cases rs with
  |nil=>simp
  |cons r rs=>
   have h1:=List.pairwise_cons.1 hd
   have:=zwu hp n (dvP r f) (by rw[ztt];omega) (by rw[zq9 r f (by omega)];exact hf) rs h1.2 fun s hs=>by
    have e:=zvR r s f;have hs0:=hr s (List.mem_cons_of_mem _ hs);have hr0:=hr r (List.mem_cons_self ..)
    have hm:(evP (dvP r f) s*(s-r))%(p:Int)=0:=by
     rw[show evP (dvP r f) s*(s-r)=evP f s-evP f r by omega,Int.sub_emod,hs0,hr0];simp
    rcases zw3 hp hm with h|h
    ·exact h
    ·exact absurd h (h1.1 s hs)
   simpa using this
theorem zxR(k:Nat)(x:Int):evP (List.replicate k 0++[1]) x=x^k:=by
 induction k with
 |zero=>simp[evP]
 |succ k ih=>rw[List.replicate_succ,List.cons_append,zsu,ih,Int.pow_succ];omega
theorem zsT(hp:Pr p)(hn:1≤n)(rs:List Int)(hd:rs.Pairwise (fun a b=>(b-a)%(p:Int)≠0))(hr:∀r∈rs,r^n%(p:Int)=1):rs.length≤n:=by
 have h2:=hp.1;have hone:(1:Int)%(p:Int)=1:=Int.emod_eq_of_lt (by omega) (by omega);obtain⟨k,rfl⟩:∃k,n=k+1:=⟨n-1,by omega⟩
 refine zwu hp (k+1) (-1::(List.replicate k 0++[1])) (by simp) ?_ rs hd fun r hr'=>?_
 ·have:(-1::(List.replicate k (0:Int)++[1])).getLastD 0=1:=by
   rw[←List.cons_append,List.getLastD_concat]
  rw[this,hone];omega
 rw[zsu,zxR,←Int.pow_succ,Int.add_emod,hr r hr']
 have:((-1:Int)%(p:Int))=p-1:=by
  have:=Int.add_mul_emod_self_left (-1) (p:Int) 1;rw[←this,Int.mul_one,Int.emod_eq_of_lt (by omega) (by omega)];omega
 rw[this,show 1+((p:Int)-1)=p by omega,Int.emod_self]
theorem znk{a:Nat}(hp:2≤p){m:Nat}(h:a^m%p=1)(k r:Nat):a^(m*k+r)%p=a^r%p:=by
 rw[Nat.pow_add,Nat.pow_mul,Nat.mul_mod,Nat.pow_mod (a^m),h,Nat.one_pow,Nat.mod_eq_of_lt (show 1<p by omega),Nat.one_mul,Nat.mod_mod]
theorem zz8{a:Nat}(hp:2≤p):∀m n,a^m%p=1→a^n%p=1→a^(Nat.gcd m n)%p=1:=by
 intro m n;induction m,n using Nat.gcd.induction with
 |H0 n=>intro _ h;simpa using h
 |H1 m n hm ih=>
  intro h1 h2;rw[Nat.gcd_rec];refine ih ?_ h1;rw[←znk hp h1 (n/m) (n%m),Nat.div_add_mod];exact h2
theorem zzL{a q:Nat}(hp:2≤p)(hq:Pr q)(ha:a^q%p=1)(ha1:a%p≠1){i j:Nat}(hij:i<j)(hj:j<q):a^i%p≠a^j%p:=by
 intro e
 have h1:a^(j-i)%p=1:=by
  have e1:a^(j-i)%p=a^(q*1+(j-i))%p:=(znk hp ha 1 (j-i)).symm;rw[e1,show q*1+(j-i)=j+(q-i)by omega,Nat.pow_add,Nat.mul_mod,←e,←Nat.mul_mod,←Nat.pow_add,show i+(q-i)=q by omega];exact ha
 have h2:=zz8 hp q (j-i) ha h1;rw[zvz hq (by rw[Nat.mod_eq_of_lt (by omega)];omega),Nat.pow_one]at h2;exact ha1 h2
theorem znL(h:zaq gr x=true):x.toNat^gr.Q.toNat%gr.P.toNat=1:=by
 simp only[zaq,Bool.and_eq_true,decide_eq_true_eq]at h;exact h.2
theorem zts(k:OkG gr)(h:zaq gr x=true):x.toNat<gr.P.toNat∧1≤x.toNat:=by
 have:=zjO h;have:=k.p;omega
theorem zBk(k:OkG gr){h:Int}(hh:zaq gr h=true)(h1:h≠1)(hx:zaq gr x=true):∃s:Nat,h.toNat^s%gr.P.toNat=x.toNat:=by
 have hp2:2≤gr.P.toNat:=by have:=k.p;omega
 have hb:=zts k hh;have hbx:=zts k hx;have ha1:h.toNat%gr.P.toNat≠1:=by rw[Nat.mod_eq_of_lt hb.1];have:=zjO hh;omega
 apply Classical.byContradiction;intro hn;have hn':∀s:Nat,h.toNat^s%gr.P.toNat≠x.toNat:=fun s e=>hn ⟨s,e⟩
 have key:∀a b:Nat,a<gr.P.toNat→b<gr.P.toNat→a≠b→((b:Int)-(a:Int))%(gr.P.toNat:Int)≠0:=by
  intro a b ha hb' hab he;have h3:((gr.P.toNat:Nat):Int)∣(b:Int)-(a:Int):=Int.dvd_of_emod_eq_zero he;obtain⟨c,hc⟩:=h3;rcases Int.lt_trichotomy c 0 with h4|h4|h4
  ·have:(gr.P.toNat:Int)*c≤(gr.P.toNat:Int)*(-1):=Int.mul_le_mul_of_nonneg_left (by omega) (by omega);omega
  ·subst h4;simp at hc;omega
  ·have:(gr.P.toNat:Int)*1≤(gr.P.toNat:Int)*c:=Int.mul_le_mul_of_nonneg_left (by omega) (by omega);omega
 have hlt:∀s,h.toNat^s%gr.P.toNat<gr.P.toNat:=fun s=>Nat.mod_lt _ (by omega)
 have hlen:=zsT (p:=gr.P.toNat) (n:=gr.Q.toNat) k.pp (by have:=k.q;omega) ((x.toNat:Int)::(List.range gr.Q.toNat).map fun i=>((h.toNat^i%gr.P.toNat:Nat):Int)) ?_ ?_
 ·simp at hlen;omega
 ·rw[List.pairwise_cons];refine⟨fun y hy=>?_,?_⟩
  ·obtain⟨i,hi,rfl⟩:=List.mem_map.1 hy;exact key _ _ hbx.1 (hlt i) fun e=>hn' i e.symm
  rw[List.pairwise_map];refine List.Pairwise.imp_of_mem ?_ List.pairwise_lt_range;intro i j hi hj hij;exact key _ _ (hlt i) (hlt j) (zzL hp2 k.pq (znL hh) ha1 hij (List.mem_range.1 hj))
 intro r hr;rcases List.mem_cons.1 hr with rfl|hr
 ·have:=znL hx;rw[←Int.natCast_pow,←Int.natCast_emod,this];rfl
 obtain⟨i,hi,rfl⟩:=List.mem_map.1 hr
 have h5:(h.toNat^i%gr.P.toNat)^gr.Q.toNat%gr.P.toNat=1:=by
  rw[←Nat.pow_mod,←Nat.pow_mul,Nat.mul_comm,Nat.pow_mul,Nat.pow_mod,znL hh,Nat.one_pow,Nat.mod_eq_of_lt (by omega)]
 rw[←Int.natCast_pow,←Int.natCast_emod,h5];rfl
def zcE(gr:Group)(c:Cipher):Bool:=zaq gr c.A&&zaq gr c.B
theorem zA1(k:OkG gr)(l:List Cipher):Rn (zat l gr.P gr.Q gr.G) (fun x=>(x=-1∧l.all (zcE gr)=true)∨(0≤x∧l.all (zcE gr)=false)):=by
 unfold zat;refine zag (ψ:=fun x=>(x=.inl ()∧l.all (zcE gr)=true)∨(∃j:Nat,x=.inr (j:Int)∧l.all (zcE gr)=false)) (zaQ (fun n _=>∀m,m<n→∀h:m<l.length,zcE gr l[m]=true) (fun m hm=>by omega) ?_ fun s hs=>.inl ⟨rfl,?_⟩) ?_
 ·rintro n s hn hI;refine zbm hn ?_;unfold zdf;refine zag (ψ:=fun b=>b= !zcE gr l[n]) (zae (zti k l[n]) (zab rfl)) ?_;rintro _ rfl;refine zan (fun h=>zab (.inr ⟨n,rfl,?_⟩)) fun h=>zab fun m hm hl=>?_
  ·rw[List.all_eq_false];exact⟨l[n],List.getElem_mem hn,by simpa using h⟩
  rcases Nat.lt_or_ge m n with h1|h1
  ·exact hI m h1 hl
  have:m=n:=by omega
  subst this;simpa using h
 ·rw[List.all_eq_true];intro x hx;obtain⟨m,hm,rfl⟩:=List.mem_iff_getElem.1 hx;exact hs m hm hm
 rintro x (⟨rfl,h⟩|⟨j,rfl,h⟩)
 ·exact zab (.inl ⟨rfl,h⟩)
 exact zab (.inr ⟨by show(0:Int)≤(j:Int);omega,h⟩)
theorem zsm(k:OkG gr)(l:List Cipher):zcK gr l=some (decide (l.length≤24)&&l.all (zcE gr)):=by
 unfold zcK;refine zal (zag (ψ:=fun b=>b=(decide (l.length≤24)&&l.all (zcE gr))) (zan (fun h=>?_) fun h=>zab ?_) fun b hb=>zab hb)
 ·have h:l.length≤24:=by simp at h;omega
  unfold zaA;refine zag (ψ:=fun b=>b= !l.all (zcE gr)) (zag (zA1 k l) fun x hx=>zab ?_) ?_
  ·rcases hx with⟨rfl,h⟩|⟨h0,h⟩
   ·rw[h];rfl
   rw[h];simpa using h0
  rintro _ rfl;exact zab (by simp[h])
 have h:¬l.length≤24:=by simp at h;omega
 simp[h]
theorem zzo(k:OkG gr)(l:List Cipher):zgx gr l=some (decide (l.length≤24)&&l.all (zcE gr)):=by
 unfold zgx;by_cases h:24<(l.length:Int)
 ·rw[if_pos (by simpa using h)];have h:¬l.length≤24:=by omega
  simp[h]
 rw[if_neg (by simpa using h)];refine(zES l (zcE gr) false (fun n hn=>?_)).trans ?_
 ·rw[zaY hn,Option.bind_some,zoC k,Option.bind_some];have e:([l[n].A,l[n].B].all (zaq gr))=zcE gr l[n]:=by simp[zcE]
  rw[e];cases zcE gr l[n]<;>rfl
 have h:l.length≤24:=by omega
 cases l.all (zcE gr)<;>simp[h]
def byL(s:ByteArray):List Int:=s.data.toList.map fun b=>(b.toNat:Int)
theorem zit(s:ByteArray):(byL s).length=s.size:=by
 show(s.data.toList.map _).length=s.data.size;rw[List.length_map,Array.length_toList]
theorem zvx(s:ByteArray):∀x∈byL s,0≤x∧x≤255:=by
 intro x hx;obtain⟨b,_,rfl⟩:=List.mem_map.1 hx;have:=b.toNat_lt;omega
theorem zAQ(h:k<s.size):ixs s (k:Int)=some ((byL s)[k]'(by rw[zit];exact h)):=by
 have h2:k<s.data.size:=h;simp[ixs,byL,h];rfl
theorem zw1(s:ByteArray)(l:List Int)(hs:s.size≤1000000)(hl:l.length≤1000000000000):zf5 s l=some ((s.size:Int)::byL s++l):=by
 unfold zf5;refine zal (zag (ψ:=fun x=>x=(s.size:Int)::byL s) (zbi s.size (fun n p=>n≤s.size∧p=((s.size:Int)::(byL s).take n,(n:Int))) ⟨by omega,by simp⟩ ?_ ?_) ?_)
 ·rintro n p hn ⟨_,rfl⟩;have hn2:n<(byL s).length:=by rw[zit];exact hn
  have hb:=zvx s _ (List.getElem_mem hn2);refine zan (fun _=>?_) fun h=>absurd h (by simp;omega)
  refine zae (zAQ hn) (zas ?_ (zab ⟨by omega,?_⟩))
  ·simp only[List.length_cons,List.length_take,zit];omega
  show((s.size:Int)::(byL s).take n++[_],_)=_;rw[zaj (by omega) (by omega),zaj (by omega) (by omega),List.cons_append,List.take_append_getElem hn2];rfl
 ·rintro p ⟨_,rfl⟩;refine zan (fun h=>absurd h (by simp)) fun _=>zab ?_
  show(s.size:Int)::(byL s).take s.size=_;rw[List.take_of_length_le (by rw[zit];omega)]
 rintro _ rfl;refine zas ?_ (zab rfl);simp only[List.length_cons,zit];omega
theorem zvo(s:ByteArray)(l:List Int)(hs:s.size≤1000000)(hl:l.length≤1000000000000):zgp s l=some ((s.size:Int)::byL s++l):=zw1 s l hs hl
def zaX(x:Int):Bool:=decide (0≤x)&&decide (x≤4611686018427387903)
theorem zbz :zaX x=true↔0≤x∧x≤4611686018427387903:=by simp[zaX]
theorem zhX(x:Int):zdK x=some (zaX x):=by
 unfold zdK;rw[zd8];rfl
theorem zlq(x:Int):zdI x=some (zaX x):=by
 unfold zdI;rw[zhf];rfl
theorem zzE(s:ByteArray):(byL s).all zaX=true:=by
 rw[List.all_eq_true];intro x hx;have:=zvx s x hx;exact zbz.2 ⟨by omega,by omega⟩
def hs1(c s k:Int):Int:=(c*s+k+1)%2147483647
def zjw(p:Int×Int)(x:Int):Int×Int:=(hs1 48271 (hs1 48271 p.1 (x%2147483648)) (x/2147483648),hs1 69621 (hs1 69621 p.2 (x%2147483648)) (x/2147483648))
def zmX(l:List Int):Int:=let p:=(((l.length:Int)::l).foldl zjw (1,2));p.1*2147483648+p.2
theorem zkD(c s k:Int):0≤hs1 c s k∧hs1 c s k≤2147483646:=by unfold hs1;omega
theorem ziT{s k:Int}(hc:c=48271∨c=69621)(hs:0≤s∧s≤2147483646)(hk:0≤k∧k≤2147483648):(i64.wrap ((i64.wrap ((i64.wrap (c*s))+k))+1)).tmod 2147483647=hs1 c s k:=by
 rcases hc with rfl|rfl
 ·rw[zaj (n:=48271*s) (by omega) (by omega),zaj (n:=48271*s+k) (by omega) (by omega),zaj (by omega) (by omega),Int.tmod_eq_emod_of_nonneg (by omega)];rfl
 rw[zaj (n:=69621*s) (by omega) (by omega),zaj (n:=69621*s+k) (by omega) (by omega),zaj (by omega) (by omega),Int.tmod_eq_emod_of_nonneg (by omega)];rfl
def okP(p:Int×Int):Prop:=(0≤p.1∧p.1≤2147483646)∧(0≤p.2∧p.2≤2147483646)
theorem zz0(p:Int×Int)(x:Int):okP (zjw p x):=⟨zkD _ _ _,zkD _ _ _⟩
theorem zjj:∀(l:List Int) (p:Int×Int),okP p→okP (l.foldl zjw p)
 |[],_,h=>h
 |x::l,p,_=>zjj l _ (zz0 p x)
theorem zwD(l:List Int):zaX (zmX l)=true:=by
 obtain⟨h1,h2⟩:=zjj ((l.length:Int)::l) (1,2) ⟨by decide,by decide⟩;refine zbz.2 ?_;unfold zmX;dsimp only;omega
theorem zsh{p:Int×Int}(hp:okP p)(hx:zaX x=true):zbF p.1 p.2 x=some (zjw p x):=by
 obtain⟨h1,h2⟩:=hp;have hx:=zbz.1 hx;have e1:x.tmod 2147483648=x%2147483648:=Int.tmod_eq_emod_of_nonneg hx.1
 have e2:i64.wrap (x.tdiv 2147483648)=x/2147483648:=by
  rw[Int.tdiv_eq_ediv_of_nonneg hx.1,zaj (by omega) (by omega)]
 have b1:0≤x%2147483648∧x%2147483648≤2147483648:=by omega
 have b2:0≤x/2147483648∧x/2147483648≤2147483648:=by omega
 have h0:ix [x%2147483648,x/2147483648] 0=some (x%2147483648):=rfl;have h1':ix [x%2147483648,x/2147483648] 1=some (x/2147483648):=rfl;unfold zbF;rw[e1,e2,Option.bind_some,zk7];simp only[List.length_cons,List.length_nil,show decide ((0:Int)<((0+1+1:Nat):Int))=true from rfl,if_true,h0,Option.bind_some,ziT (.inl rfl) h1 b1,ziT (.inr rfl) h2 b1];rw[zk7];simp only[show i64.wrap (0+1)=1 from rfl,show decide ((1:Int)<((0+1+1:Nat):Int))=true from rfl,if_true,h1',Option.bind_some,ziT (.inl rfl) (zkD _ _ _) b2,ziT (.inr rfl) (zkD _ _ _) b2];rw[zk7];simp only[show i64.wrap (1+1)=2 from rfl,show decide ((2:Int)<((0+1+1:Nat):Int))=false from rfl,Bool.false_eq_true,if_false,Option.bind_some];rfl
theorem ztY(h:l.all zaX=true)(hk:k<l.length):zaX l[k]=true:=List.all_eq_true.1 h _ (List.getElem_mem hk)
theorem zzR(hl:l.length≤1000000000000)(hd:l.all zaX=true):zgL l=some (zmX l):=by
 unfold zgL;have e0:=zsh (p:=(1,2)) (x:=(l.length:Int)) ⟨by decide,by decide⟩ (zbz.2 ⟨by omega,by omega⟩);refine zal (zae e0 (zag (ψ:=fun p=>p=((l.length:Int)::l).foldl zjw (1,2)) (zaQ (fun n p=>p=((l.length:Int)::l.take n).foldl zjw (1,2)) rfl ?_ ?_) ?_))
 ·rintro n p hn rfl;refine zbm hn (zae (zsh (zjj _ _ ⟨by decide,by decide⟩) (ztY hd hn)) (zab ?_));show zjw _ _=_;rw[←List.take_append_getElem hn,←List.cons_append,List.foldl_append];rfl
 ·rintro p rfl;show(((l.length:Int)::l.take l.length).foldl zjw (1,2))=_;rw[List.take_length]
 rintro p rfl;obtain⟨h1,h2⟩:=zjj ((l.length:Int)::l) (1,2) ⟨by decide,by decide⟩;refine zab ?_;rw[zaj (n:=_*2147483648) (by omega) (by omega),zaj (by omega) (by omega)];rfl
theorem zx8(hx:zaX x=true):i64.wrap (BitVec.ofInt IntKind.i64.bits x&&&BitVec.ofInt IntKind.i64.bits 2147483647).toNat=x%2147483648:=by
 have hx:=zbz.1 hx;obtain⟨n,rfl⟩:=Int.eq_ofNat_of_zero_le hx.1
 have h1:(BitVec.ofInt IntKind.i64.bits ((n:Nat):Int)&&&BitVec.ofInt IntKind.i64.bits 2147483647).toNat=n%2147483648:=by
  rw[BitVec.toNat_and]
  have a1:(BitVec.ofInt IntKind.i64.bits (n:Int)).toNat=n:=by
   rw[BitVec.toNat_ofInt];have:IntKind.i64.bits=64:=rfl;rw[this];omega
  have a2:(BitVec.ofInt IntKind.i64.bits 2147483647).toNat=2^31-1:=by decide
  rw[a1,a2,Nat.and_two_pow_sub_one_eq_mod]
 rw[h1,zaj (by omega) (by omega)];omega
theorem zBz(hl:l.length≤1000000000000)(hd:l.all zaX=true):zhh l=some (zmX l):=by
 unfold zhh
 have hd2:((l.length:Int)::l).all zaX=true:=by
  rw[List.all_cons,hd,Bool.and_true];exact zbz.2 ⟨by omega,by omega⟩
 refine zal (zas (by simp only[List.length_cons,List.length_nil];omega) (zae rfl (zag (ψ:=fun p=>p=((l.length:Int)::l).foldl zjw (1,2)) (zaQ (fun n p=>p=(((l.length:Int)::l).take n).foldl zjw (1,2)) rfl ?_ ?_) ?_)))
 ·rintro n p hn rfl;have ok:=zjj ((((l.length:Int)::l)).take n) (1,2) ⟨by decide,by decide⟩;have dg:=ztY hd2 hn;have b:=zbz.1 dg;have ef:(((l.length:Int)::l)[n]).fdiv 2147483648=((l.length:Int)::l)[n]/2147483648:=Int.fdiv_eq_ediv_of_nonneg _ (by omega);have hn':n<((l.length:Int)::l).length:=hn;refine zbm hn (zab ?_);show(_,_)=_;simp only[List.singleton_append]
  rw[zx8 dg,ef,ziT (.inl rfl) ok.1 (by omega),ziT (.inr rfl) ok.2 (by omega),ziT (.inl rfl) (zkD _ _ _) (by omega),ziT (.inr rfl) (zkD _ _ _) (by omega),
   ←List.take_append_getElem hn',List.foldl_append]
  rfl
 ·rintro p rfl;show((((l.length:Int)::l).take ([(l.length:Int)]++l).length).foldl zjw (1,2))=_;rw[List.singleton_append,List.take_length]
 rintro p rfl;obtain⟨h1,h2⟩:=zjj ((l.length:Int)::l) (1,2) ⟨by decide,by decide⟩;refine zab ?_;rw[zaj (n:=_*2147483648) (by omega) (by omega),zaj (by omega) (by omega)];rfl
def zi1(s:ByteArray)(l:List Int):Int:=zmX ((s.size:Int)::byL s++l)
theorem zla(s:ByteArray)(l:List Int):zaX (zi1 s l)=true:=zwD _
def zh8(s:ByteArray)(l:List Int):Bool:=decide (s.size≤40)&&decide (1+s.size+l.length≤400)&&l.all zaX
theorem ztT(hs:s.size≤1000000):((s.size:Int)::byL s++l).all zaX=l.all zaX:=by
 rw[List.cons_append,List.all_cons,List.all_append,zzE,zbz.2 ⟨by omega,by omega⟩,Bool.true_and,Bool.true_and]
theorem zkl(hs:s.size≤1000000)(hl:l.length≤100000000000)(hd:l.all zaX=true):zdi s l=some (zi1 s l):=by
 unfold zdi;rw[zw1 s l hs (by omega),Option.bind_some,zzR (by simp[zit];omega) (by rw[ztT hs];exact hd)];rfl
theorem zrV(l:List Int):zeH l=some (decide (l.length≤400)&&l.all zaX):=by
 unfold zeH
 have h1:za0 l=some (l.all zaX):=zi6 (f:=zaK) fun x _=>by
  unfold zaK;rw[zhX];rfl
 rw[h1];by_cases h:l.length≤400
 ·rw[if_pos (by simp;omega)];simp[h]
 rw[if_neg (by simp;omega)];simp[h]
theorem zvh(l:List Int):zfo l=some (if(decide (l.length≤400)&&l.all zaX)=true then(zmX l,true)else(0,false)):=by
 unfold zfo;rw[zrV,Option.bind_some];cases h:(decide (l.length≤400)&&l.all zaX)with
 |true=>
  simp only[Bool.and_eq_true,decide_eq_true_eq]at h;rw[zBz (by omega) h.2];rfl
 |false=>rfl
theorem zis(s:ByteArray)(l:List Int):zbU s l=some (if zh8 s l=true then(zi1 s l,true)else(0,false)):=by
 unfold zbU;by_cases h1:s.size≤40
 ·by_cases h2:l.length≤400
  ·rw[if_neg (by simp;omega),Option.bind_some,if_neg (by simp;omega),zvo s l (by omega) (by omega),Option.bind_some,zvh,ztT (by omega)];have e:((s.size:Int)::byL s++l).length=1+s.size+l.length:=by simp[zit];omega
   rw[e];have e2:zh8 s l=(decide (1+s.size+l.length≤400)&&l.all zaX):=by simp[zh8,h1]
   rw[e2];cases decide (1+s.size+l.length≤400)<;>cases l.all zaX<;>rfl
  rw[if_neg (by simp;omega),Option.bind_some,if_pos (by simp;omega)]
  have:zh8 s l=false:=by
   have:¬1+s.size+l.length≤400:=by omega
   simp[zh8,this]
  rw[this];rfl
 rw[if_pos (by simp;omega),Option.bind_some,if_pos rfl];have:zh8 s l=false:=by simp[zh8,h1]
 rw[this];rfl
theorem zwN{p:Nat}(hp:Pr p){b:Nat}(h1:1≤b)(h2:b<p):∀e:Nat,b^e%p≠0
 |0=>by
  have:=hp.1;rw[Nat.pow_zero,Nat.mod_eq_of_lt (by omega)];omega
 |e+1=>fun h=>by
  have hb:((b^e:Nat):Int)%(p:Int)=0∨(b:Int)%(p:Int)=0:=zw3 hp (by
   rw[←Int.natCast_mul,←Nat.pow_succ,←Int.natCast_emod,h];rfl)
  rcases hb with h3|h3
  ·exact zwN hp h1 h2 e (by rw[←Int.natCast_emod]at h3;omega)
  ·rw[←Int.natCast_emod,Nat.mod_eq_of_lt h2]at h3;omega
def zmr(gr:Group)(s:ByteArray)(k c:Int):Int:=1+zi1 s [gr.P,gr.Q,gr.G,k,c]%(gr.P-1)
def zfS(gr:Group)(s:ByteArray)(k c:Int):Int:=(((zmr gr s k c).toNat^((gr.P-1)/gr.Q).toNat%gr.P.toNat:Nat):Int)
theorem ztH(k:OkG gr)(s:ByteArray)(i c:Int):1≤zmr gr s i c∧zmr gr s i c≤gr.P-1:=by
 have hp:=k.p;have h1:=Int.emod_nonneg (zi1 s [gr.P,gr.Q,gr.G,i,c]) (show gr.P-1≠0 by omega);have h2:=Int.emod_lt_of_pos (zi1 s [gr.P,gr.Q,gr.G,i,c]) (show 0<gr.P-1 by omega);unfold zmr;omega
theorem ztQ(k:OkG gr)(s:ByteArray)(i c:Int):1≤zfS gr s i c∧zfS gr s i c≤gr.P-1:=by
 have hp:=k.p;have hx:=ztH k s i c;have h1:=zwN k.pp (b:=(zmr gr s i c).toNat) (by omega) (by omega) ((gr.P-1)/gr.Q).toNat;have h2:=Nat.mod_lt ((zmr gr s i c).toNat^((gr.P-1)/gr.Q).toNat) (show 0<gr.P.toNat by omega);unfold zfS;omega
theorem ztv(k:OkG gr)(s:ByteArray)(i c:Int):
 zc9 (i64.wrap (1+((zi1 s [gr.P,gr.Q,gr.G,i,c]).tmod (i64.wrap (gr.P-1))))) (i64.wrap ((i64.wrap (gr.P-1)).tdiv gr.Q)) gr.P=some (zfS gr s i c)∧
 zcC (i64.wrap (1+((zi1 s [gr.P,gr.Q,gr.G,i,c]).tmod (i64.wrap (gr.P-1))))) (i64.wrap ((i64.wrap (gr.P-1)).tdiv gr.Q)) gr.P=some (zfS gr s i c):=by
 have hp:=k.p;have hq:=k.q;have hd:=zbz.1 (zla s [gr.P,gr.Q,gr.G,i,c]);have hx:=ztH k s i c;have e1:i64.wrap (gr.P-1)=gr.P-1:=zaj (by omega) (by omega)
 have e2:i64.wrap (1+((zi1 s [gr.P,gr.Q,gr.G,i,c]).tmod (gr.P-1)))=zmr gr s i c:=by
  rw[Int.tmod_eq_emod_of_nonneg hd.1];unfold zmr at hx⊢;exact zaj (by omega) (by omega)
 have h3:(gr.P-1)/gr.Q≤gr.P-1:=Int.ediv_le_self _ (by omega);have h4:0≤(gr.P-1)/gr.Q:=Int.ediv_nonneg (by omega) (by omega)
 have e3:i64.wrap ((gr.P-1).tdiv gr.Q)=(gr.P-1)/gr.Q:=by
  rw[Int.tdiv_eq_ediv_of_nonneg (by omega),zaj (by omega) (by omega)]
 rw[e1,e2,e3];exact zjx (by omega) (by omega) (by omega) (by omega) h4 (by omega)
theorem ztI(k:OkG gr)(hi:zaX i=true)(hc:0≤c∧c≤1000):[gr.P,gr.Q,gr.G,i,c].all zaX=true:=by
 have hp:=k.p;have hq:=k.q;have hg:=k.g;simp only[List.all_cons,List.all_nil,Bool.and_true,Bool.and_eq_true];exact⟨zbz.2 (by omega),zbz.2 (by omega),zbz.2 (by omega),hi,zbz.2 (by omega)⟩
def zjL(gr:Group)(s:ByteArray)(i y:Int):Prop:=(∃c:Nat,c<1000∧y=zfS gr s i c∧zfS gr s i c≠1∧∀j:Nat,j<c→zfS gr s i j=1)∨(y=0∧∀j:Nat,j<1000→zfS gr s i j=1)
theorem zmw(k:OkG gr)(h1:zjL gr s i x)(h2:zjL gr s i y):x=y:=by
 rcases h1 with⟨c,hc,rfl,h3,h4⟩|⟨rfl,h4⟩<;>rcases h2 with⟨d,hd,rfl,h5,h6⟩|⟨rfl,h6⟩
 ·rcases Nat.lt_trichotomy c d with h|h|h
  ·exact absurd (h6 c h) h3
  ·rw[h]
  exact absurd (h4 d h) h5
 ·exact absurd (h6 c hc) h3
 ·exact absurd (h4 d hd) h5
 rfl
theorem zzx(k:OkG gr)(h1:zjL gr s i x):0≤x∧x≤gr.P-1:=by
 have hp:=k.p;rcases h1 with⟨c,hc,rfl,h3,h4⟩|⟨rfl,h4⟩
 ·have:=ztQ k s i c;omega
 omega
theorem zuU(k:OkG gr)(hs:s.size≤40)(hi:zaX i=true):Rn (zcQ gr s i) (zjL gr s i):=by
 have hp:=k.p;have hq:=k.q;unfold zcQ
 refine zag (ψ:=fun x=>(x=.inl ()∧∀j:Nat,j<1000→zfS gr s i j=1)∨∃c:Nat,c<1000∧x=.inr (zfS gr s i c)∧zfS gr s i c≠1∧∀j:Nat,j<c→zfS gr s i j=1)
  (zbi 1000 (fun n p=>p=(n:Int)∧n≤1000∧∀j:Nat,j<n→zfS gr s i j=1) ⟨rfl,by omega,fun j hj=>by omega⟩ ?_ ?_) ?_
 ·rintro n p hn ⟨rfl,_,hI⟩;refine zan (fun _=>?_) fun h=>absurd h (by simp;omega)
  refine zae (zkl (by omega) (by simp) (ztI k hi (by omega))) (zas (by rw[zaj (by omega) (by omega)];omega) (zas (by omega) (zae (ztv k s i n).2 (zan (fun h=>zab (.inr ⟨n,hn,rfl,by simpa using h,hI⟩)) fun h=>zab ⟨by rw[zaj (by omega) (by omega)];rfl,hn,fun j hj=>?_⟩))));rcases Nat.lt_or_ge j n with h1|h1
  ·exact hI j h1
  have:j=n:=by omega
  subst this;simpa using h
 ·rintro p ⟨rfl,_,hI⟩;refine zan (fun h=>absurd h (by simp)) fun _=>zab (.inl ⟨rfl,hI⟩)
 rintro x (⟨rfl,h⟩|⟨c,hc,rfl,h⟩)
 ·exact zab (.inr ⟨rfl,h⟩)
 exact zab (.inl ⟨c,hc,rfl,h⟩)
theorem zxt(k:OkG gr)(hs:s.size≤40)(hi:zaX i=true):Rn (zbu gr s i) (fun x=>zjL gr s i x.1∧x.2=decide (0<x.1)):=by
 have hp:=k.p;have hq:=k.q;unfold zbu
 refine zag (ψ:=fun x=>(x=.inl ()∧∀j:Nat,j<1000→zfS gr s i j=1)∨∃c:Nat,c<1000∧x=.inr (zfS gr s i c,true)∧zfS gr s i c≠1∧∀j:Nat,j<c→zfS gr s i j=1)
  (zbi 1000 (fun n p=>p=(n:Int)∧n≤1000∧∀j:Nat,j<n→zfS gr s i j=1) ⟨rfl,by omega,fun j hj=>by omega⟩ ?_ ?_) ?_
 ·rintro n p hn ⟨rfl,_,hI⟩;refine zan (fun _=>?_) fun h=>absurd h (by simp;omega)
  have hl:zh8 s [gr.P,gr.Q,gr.G,i,(n:Int)]=true:=by
   have:=ztI k (i:=i) (c:=n) hi (by omega);simp only[zh8,this,Bool.and_true,List.length_cons,List.length_nil,Bool.and_eq_true,decide_eq_true_eq];omega
  have eh:zbU s [gr.P,gr.Q,gr.G,i,(n:Int)]=some (zi1 s [gr.P,gr.Q,gr.G,i,(n:Int)],true):=by rw[zis,if_pos hl]
  refine zae eh (zbd rfl (zas (by rw[zaj (by omega) (by omega)];omega) (zas (by omega) (zae (ztv k s i n).1 (zan (fun h=>zab (.inr ⟨n,hn,rfl,by simpa using h,hI⟩)) fun h=>zab ⟨by rw[zaj (by omega) (by omega)];rfl,hn,fun j hj=>?_⟩)))));rcases Nat.lt_or_ge j n with h1|h1
  ·exact hI j h1
  have:j=n:=by omega
  subst this;simpa using h
 ·rintro p ⟨rfl,_,hI⟩;refine zan (fun h=>absurd h (by simp)) fun _=>zab (.inl ⟨rfl,hI⟩)
 rintro x (⟨rfl,h⟩|⟨c,hc,rfl,h⟩)
 ·exact zab ⟨.inr ⟨rfl,h⟩,rfl⟩
 have:=ztQ k s i c;exact zab ⟨.inl ⟨c,hc,rfl,h⟩,by symm;simp;omega⟩
theorem zy2(k:OkG gr)(hs:s.size≤40)(hi:zaX i=true):∃y,zcQ gr s i=some y∧zbu gr s i=some (y,decide (0<y))∧zjL gr s i y:=by
 obtain⟨y,h1,h2⟩:=zuU k hs hi;obtain⟨⟨z,t⟩,h3,h4,h5⟩:=zxt k hs hi;refine⟨y,h1,?_,h2⟩;simp only at h4 h5;have:z=y:=zmw k h4 h2;subst this;rw[h3,h5]
theorem ztF{α:Type}{R:Nat→α→Prop}{l:List α}{z:α}(hl:l.length=n)(h:∀j (h:j<l.length),R j l[j])(hz:R n z):∀j (h:j<(l++[z]).length),R j (l++[z])[j]:=by
 intro j hj;rw[List.getElem_append];split
 ·exact h j _
 have hj:j<n+1:=by simpa[hl]using hj
 have e:j=n:=by omega
 subst e;simpa[hl]using hz
def zpz(gr:Group)(n:Nat)(l:List Int):Prop:=l.length=n∧∀j (h:j<l.length),zjL gr ⟨#[104,115]⟩ j l[j]
theorem zze(k:OkG gr)(hn:n≤24):∃b t,zd7 gr (n:Int)=some (b,t)∧zcf gr (n:Int)=some (b,t)∧
 (t=true→zjL gr ⟨#[104]⟩ 0 b.H∧0<b.H∧zpz gr n b.Hs∧∀x∈b.Hs,0<x):=by
 have hp:=k.p;obtain⟨y,hy1,hy2,hy3⟩:=zy2 k (s:=⟨#[104]⟩) (by decide) (i:=0) rfl;have hok:okG gr=true:=zly.2 k;have D:∀m:Nat,m<24→∃z,zcQ gr ⟨#[104,115]⟩ m=some z∧zbu gr ⟨#[104,115]⟩ m=some (z,decide (0<z))∧zjL gr ⟨#[104,115]⟩ m z:=fun m hm=>zy2 k (by decide) (zbz.2 ⟨by omega,by omega⟩)
 have S:Rn (zdp gr ⟨#[104,115]⟩ (n:Int)) (fun x=>(x.2=true∧zpz gr n x.1∧∀z∈x.1,0<z)∨(x=([],false)∧∃m:Nat,m<n∧zjL gr ⟨#[104,115]⟩ m 0)):=by
  unfold zdp;refine zag (ψ:=fun b=>b=false) ?_ ?_
  ·refine zae (zgI gr) (zbd (by rw[hok];rfl) (zbd rfl (zae (zhf _ _ _) (zab ?_))));simp;omega
  ·rintro _ rfl;refine zbd rfl (zag (ψ:=fun x=>(∃l,x=.inl l∧zpz gr n l∧∀z∈l,0<z)∨(x=.inr ([],false)∧∃m:Nat,m<n∧zjL gr ⟨#[104,115]⟩ m 0)) (zbi n (fun m p=>p.2=(m:Int)∧m≤n∧zpz gr m p.1∧∀z∈p.1,0<z) ⟨rfl,by omega,⟨rfl,fun j hj=>by simp at hj⟩,fun z hz=>by simp at hz⟩ ?_ ?_) ?_)
   ·rintro m ⟨l,c⟩ hm ⟨h1,_,hD,hpos⟩;simp only at h1 hD hpos;subst h1;obtain⟨z,z1,z2,z3⟩:=D m (by omega);have zb:=zzx k z3;refine zan (fun _=>?_) fun h=>absurd h (by simp;omega)
    refine zae z1 (zan (fun h=>zab (.inr ⟨rfl,m,hm,?_⟩)) fun h=>zas ?_ (zab ⟨?_,hm,⟨by simp[hD.1],ztF hD.1 hD.2 z3⟩,fun w hw=>?_⟩))
    ·have:z=0:=by simpa using h
     rw[←this];exact z3
    ·have:=hD.1;simp only;omega
    ·show i64.wrap _=_;rw[zaj (by omega) (by omega)];rfl
    ·rcases List.mem_append.1 hw with h1|h1
     ·exact hpos w h1
     ·have:w=z:=by simpa using h1
      subst this;have:¬w=0:=by simpa using h
      omega
   ·rintro⟨l,_⟩ ⟨rfl,_,hD⟩;exact zan (fun h=>absurd h (by simp)) fun _=>zab (.inl ⟨l,rfl,hD⟩)
   ·rintro x (⟨l,rfl,h⟩|⟨rfl,h⟩)
    ·exact zab (.inl ⟨rfl,h⟩)
    ·exact zab (.inr ⟨rfl,h⟩)
 have I:Rn (zax (σ:=Int×List Int×Bool×Int) (β:=Int×List Int×Bool) (fun s16=>
 if decide (s16.2.2.2<(n:Int))=true then(
 (zbu gr (⟨#[104,115]⟩:ByteArray) s16.2.2.2).bind fun z22=>
 ((if s16.2.2.1=true then(
 some z22.2)else(
 some false):Option Bool).bind fun x25=>
 gd ((s16.2.1.length+1)*8≤140737488355328∧s16.2.1.length+1≤4611686018427387904)<|
 some (.go (s16.1,s16.2.1++[z22.1],x25,i64.wrap (s16.2.2.2+1)))))else(
 some (.out (s16.1,s16.2.1,s16.2.2.1)))) (y,[],true,0)) (fun x=>x.1=y∧zpz gr n x.2.1∧x.2.2=x.2.1.all (fun z=>decide (0<z))):=by
  refine zbi n (fun m p=>p.1=y∧p.2.2.2=(m:Int)∧m≤n∧zpz gr m p.2.1∧p.2.2.1=p.2.1.all (fun z=>decide (0<z))) ⟨rfl,rfl,by omega,⟨rfl,fun j hj=>by simp at hj⟩,rfl⟩ ?_ ?_
  ·rintro m ⟨w,l,t,c⟩ hm ⟨h1,h2,_,hD,h3⟩;simp only at h1 h2 hD h3;subst h1 h2 h3;obtain⟨z,z1,z2,z3⟩:=D m (by omega);refine zan (fun _=>?_) fun h=>absurd h (by simp;omega)
   refine zae z2 (zag (ψ:=fun b=>b=(l.all (fun z=>decide (0<z))&&decide (0<z))) (zan (fun h=>zab ?_) fun h=>zab ?_) ?_)
   ·simp only at h;rw[h];rfl
   ·simp only at h;rw[h];rfl
   ·rintro _ rfl;refine zas (by have:=hD.1;dsimp only;omega) (zab ⟨rfl,?_,hm,⟨by simp[hD.1],ztF hD.1 hD.2 z3⟩,?_⟩)
    ·show i64.wrap ((m:Int)+1)=_;rw[zaj (by omega) (by omega)];rfl
    ·show _=(l++[z]).all _;simp
  ·rintro⟨w,l,t,c⟩ ⟨h1,h2,_,hD,h3⟩;simp only at h1 h2 hD h3;subst h1 h2 h3;exact zan (fun h=>absurd h (by simp)) fun _=>zab ⟨rfl,hD,rfl⟩
 obtain⟨⟨b,l,t⟩,i1,i2,i3,i4⟩:=I;simp only at i2 i3 i4;subst i2;obtain⟨⟨l2,t2⟩,s1,s2⟩:=S
 have E:t2=t∧(t=true→l2=l∧∀z∈l,0<z):=by
  rcases s2 with⟨h1,h2,h3⟩|⟨h1,m,hm,h3⟩
  ·simp only at h1 h2 h3;have e:l2=l:=List.ext_getElem (h2.1.trans i3.1.symm) fun j a c=>zmw k (h2.2 j a) (i3.2 j c)
   subst e;have:l2.all (fun z=>decide (0<z))=true:=by simpa using h3
   rw[this]at i4;exact⟨by rw[h1,i4],fun _=>⟨rfl,h3⟩⟩
  ·cases h1;have hml:m<l.length:=by rw[i3.1];exact hm
   have:l[m]=0:=zmw k (i3.2 m hml) h3
   have hf:l.all (fun z=>decide (0<z))=false:=by
    rw[List.all_eq_false];exact⟨l[m],List.getElem_mem hml,by simp[this]⟩
   rw[hf]at i4;exact⟨i4.symm,fun h=>by rw[i4]at h;cases h⟩
 have S0:zd7 gr (n:Int)=some (if(decide (0<b)&&t2)=true then(⟨b,l2⟩,true)else(⟨0,[]⟩,false)):=by
  have hD:zdA gr ⟨#[104]⟩ 0=some (b,decide (0<b)):=by
   unfold zdA;rw[zgI,hok];simp only[Option.bind_some,Bool.not_true,Bool.false_eq_true,if_false];rw[if_neg (show¬(decide (40<(((⟨#[104]⟩:ByteArray).size:Nat):Int))=true)by decide),zlq,Option.bind_some,Option.bind_some,if_neg (by decide),hy1,Option.bind_some]
  unfold zd7;rw[zgI,hok];simp only[Option.bind_some,Bool.not_true,Bool.false_eq_true,if_false];rw[zhf,Option.bind_some,Option.bind_some,if_neg (by simp;omega),hD,Option.bind_some,s1,Option.bind_some];cases decide (0<b)<;>cases t2<;>rfl
 have I0:zcf gr (n:Int)=some (if(decide (0<b)&&t)=true then(⟨b,l⟩,true)else(⟨0,[]⟩,false)):=by
  unfold zcf;rw[hy2,Option.bind_some,i1,Option.bind_some];cases decide (0<b)<;>cases t<;>rfl
 obtain⟨rfl,E2⟩:=E;cases hb:(decide (0<b)&&t2)with
 |false=>
  rw[hb]at S0 I0;exact⟨_,_,S0,I0,fun h=>by cases h⟩
 |true=>
  rw[hb]at S0 I0;simp only[Bool.and_eq_true,decide_eq_true_eq]at hb;obtain⟨rfl,hpos⟩:=E2 hb.2;exact⟨_,_,S0,I0,fun _=>⟨hy3,hb.1,i3,hpos⟩⟩
theorem ceq{n:Int}(h:n=(k:Int))(hk:k≤4194304):i64.wrap n=(k:Int):=by rw[zaj (by omega) (by omega),h]
theorem inc(hk:k<4194304):i64.wrap ((k:Int)+1)=((k+1:Nat):Int):=ceq (by omega) (by omega)
theorem zDW{σ β:Type}{step:σ×Int→Option (Stp (σ×Int) β)}{f:Nat→σ→σ}{out:σ→β}(n:Nat){s0:σ}(I:Nat→σ→Prop)(h0:I 0 s0)
(hs:∀k s,k<n→I k s→step (s,(k:Int))=some (.go (f k s,((k+1:Nat):Int)))∧I (k+1) (f k s))(he:∀s,I n s→step (s,(n:Int))=some (.out (out s))):∃s,zax step (s0,0)=some (out s)∧I n s:=by
 obtain⟨b,h1,s,h2,h3⟩:=zbi (step:=step) (s0:=(s0,0)) (φ:=fun b=>∃s,b=out s∧I n s) n (fun k p=>p.2=(k:Int)∧I k p.1) ⟨rfl,h0⟩
  (by
    rintro k ⟨s,c⟩ hk ⟨rfl,hI⟩;obtain⟨h1,h2⟩:=hs k s hk hI
    exact⟨_,h1,rfl,h2⟩)
  (by
    rintro⟨s,c⟩ ⟨rfl,hI⟩
    exact⟨_,he s hI,s,rfl,hI⟩)
 exact⟨s,by rw[h1,h2],h3⟩
theorem zAR{α β γ:Type}{l:List α}{f:α→β}{body:Int→List β→Option (Stp (List β) γ)}{stop:List β→γ}(a0:List β)(hs:∀k (h:k<l.length) (s:List β),s.length=a0.length+k→body (k:Int) s=some (.go (s++[f l[k]]))):
 zau body stop l.length 0 a0=some (stop (a0++l.map f)):=by
 refine zal (zaQ (fun k s=>s=a0++(l.take k).map f∧k≤l.length) ⟨by simp,by omega⟩ ?_ ?_)
 ·rintro k s hk ⟨rfl,_⟩;refine⟨_,hs k hk _ (by simp;omega),?_,hk⟩;rw[List.take_succ_eq_append_getElem hk,List.map_append,List.append_assoc];rfl
 rintro s ⟨rfl,_⟩;simp
theorem zzu{α:Type}{l:List α}{d:α}{step:List α×Int→Option (Stp (List α×Int) (List α))}(hs:∀k (h:k<l.length) (r:List α),r.length=l.length→step (r,(k:Int))=some (.go (r.set k l[k],((k+1:Nat):Int))))
(he:∀r,step (r,(l.length:Int))=some (.out r)):zax step (List.replicate l.length d,0)=some l:=by
 obtain⟨s,h1,h2,h3⟩:=zDW (step:=step) (out:=fun r=>r) (f:=fun k r=>if h:k<l.length then r.set k l[k]else r) l.length (s0:=List.replicate l.length d) (fun k r=>r.length=l.length∧r.take k=l.take k) ⟨by simp,by simp⟩
  (by
    rintro k r hk ⟨h1,h2⟩;refine⟨by rw[hs k hk r h1,dif_pos hk],by rw[dif_pos hk];simpa using h1,?_⟩;rw[dif_pos hk];apply List.ext_getElem (by simp;omega);intro i hi hi2;simp only[List.length_take]at hi2;rw[List.getElem_take,List.getElem_take,List.getElem_set];split
    ·rename_i e;subst e;rfl
    ·have:i<k:=by omega
     have e:=congrArg (fun z=>z[i]?) h2;simp only[List.getElem?_take,this,if_true]at e;rw[List.getElem?_eq_getElem (by omega),List.getElem?_eq_getElem (by omega)]at e
     exact Option.some.inj e) (fun s _=>he s)
 rw[h1];have e1:s.take l.length=s:=List.take_of_length_le (by omega);rw[←e1,h3,List.take_length]
theorem zBG{β:Type}{step:Int→Option (Stp Int (Unit ⊕ β))}(n:Nat)(hs:∀k:Nat,k<n→step (k:Int)=some (.go ((k+1:Nat):Int)))(he:step (n:Int)=some (.out (.inl ()))):zax step 0=some (.inl ()):=by
 refine zal (zbi n (fun k s=>s=(k:Int)) rfl ?_ ?_)
 ·rintro k s hk rfl;exact⟨_,hs k hk,rfl⟩
 rintro s rfl;exact⟨_,he,rfl⟩
structure OkC (ct:Contest):Prop where
 lo:0≤ct.Least∧ct.Least≤ct.Most
 k:((ct.Kind=1∨ct.Kind=3)∧(1≤ct.Options∧ct.Options≤8)∧ct.Most≤ct.Options∧ct.Points=0)∨(ct.Kind=2∧(1≤ct.Options∧ct.Options≤8)∧(1≤ct.Points∧ct.Points≤5)∧ct.Most≤ct.Options*ct.Points)∨(ct.Kind=4∧ct.Options=0∧ct.Most≤5∧ct.Points=0)
open Classical in
noncomputable def okC(ct:Contest):Bool:=decide (OkC ct)
theorem zqL :okC ct=true↔OkC ct:=by simp[okC]
theorem zAT(h:1≤a∧a≤8)(h2:1≤b∧b≤5):1≤a*b∧a*b≤40:=by
 have h3:a*b≤8*5:=Int.mul_le_mul h.2 h2.2 (by omega) (by omega);have h4:1*1≤a*b:=Int.mul_le_mul h.1 h2.1 (by omega) (by omega);omega
theorem zhq(ct:Contest):zb5 ct=some (okC ct):=by
 have e:∀b:Bool,(b=true↔OkC ct)→b=okC ct:=fun b h=>by
  rw[Bool.eq_iff_iff,h,zqL]
 have f:¬OkC ct→okC ct=false:=fun h=>by simp[okC,h]
 unfold zb5;simp only[zd8,Option.bind_some];by_cases l1:ct.Least<0
 ·simp[l1];exact f fun h=>by have:=h.lo;omega
 by_cases l2:ct.Most<ct.Least
 ·simp[l1,l2];exact f fun h=>by have:=h.lo;omega
 simp only[l1,l2,decide_false,Bool.false_eq_true,if_false,Option.bind_some];by_cases k13:ct.Kind=1∨ct.Kind=3
 ·have:(if(ct.Kind==1)=true then some (ct.Kind==1)else some (ct.Kind==3))=some true:=by
   rcases k13 with h|h<;>simp[h]
  rw[this,Option.bind_some,if_pos rfl];by_cases o:1≤ct.Options∧ct.Options≤8
  ·by_cases m:ct.Most≤ct.Options
   ·simp[o,m];refine e _ ⟨fun h=>⟨by omega,.inl ⟨k13,o,m,by simpa using h⟩⟩,fun h=>?_⟩;rcases h.k with h|h|h
    ·simp[h.2.2.2]
    ·omega
    omega
   simp[o,m];exact f fun h=>by rcases h.k with h|h|h<;>omega
  have:(decide (1≤ct.Options)&&decide (ct.Options≤8))=false:=by simp;omega
  rw[this];simp;exact f fun h=>by rcases h.k with h|h|h<;>omega
 have:(if(ct.Kind==1)=true then some (ct.Kind==1)else some (ct.Kind==3))=some false:=by
  simp only[not_or]at k13;simp[k13]
 rw[this,Option.bind_some,if_neg (by simp)];by_cases k2:ct.Kind=2
 ·simp only[k2];by_cases o:1≤ct.Options∧ct.Options≤8
  ·by_cases p:1≤ct.Points∧ct.Points≤5
   ·have b:=zAT o p;simp only[o,p];simp[zaj (n:=ct.Options*ct.Points) (by omega) (by omega)];refine e _ ⟨fun h=>⟨by omega,.inr (.inl ⟨k2,o,p,by simpa using h⟩)⟩,fun h=>?_⟩;rcases h.k with h|h|h
    ·omega
    ·simpa using h.2.2.2
    omega
   have:(decide (1≤ct.Points)&&decide (ct.Points≤5))=false:=by simp;omega
   rw[this];simp[o];exact f fun h=>by rcases h.k with h|h|h<;>omega
  have:(decide (1≤ct.Options)&&decide (ct.Options≤8))=false:=by simp;omega
  rw[this];simp;exact f fun h=>by rcases h.k with h|h|h<;>omega
 have k2':(ct.Kind==2)=false:=by simpa using k2
 simp only[k2',Bool.false_eq_true,if_false];by_cases k4:ct.Kind=4
 ·have k4':(ct.Kind==4)=true:=by simpa using k4
  simp only[k4',if_true];by_cases o:ct.Options=0
  ·by_cases m:ct.Most≤5
   ·simp[o,m];refine e _ ⟨fun h=>⟨by omega,.inr (.inr ⟨k4,o,m,by simpa using h⟩)⟩,fun h=>?_⟩;rcases h.k with h|h|h
    ·omega
    ·omega
    simp[h.2.2.2]
   simp[o,m];exact f fun h=>by rcases h.k with h|h|h<;>omega
  simp[o];exact f fun h=>by rcases h.k with h|h|h<;>omega
 have k4':(ct.Kind==4)=false:=by simpa using k4
 simp only[k4',Bool.false_eq_true,if_false];rw[f fun h=>by rcases h.k with h|h|h<;>omega]
theorem zkZ(ct:Contest):zer ct=some (okC ct):=by
 rw[←zhq];unfold zer zb5;simp only[zd8,zhf,Option.bind_some];cases h:ct.Kind==4<;>simp
theorem zjJ{γ:Type}{m:Nat}(p:Nat→Bool)(c d:γ){body:Int→Unit→Option (Stp Unit (Unit ⊕ γ))}(h:∀k,k<m→body (k:Int) ()=some (if p k=true then .go ()else .out (.inr c))):
 (zau body (fun _=>.inl ()) m 0 ()).bind (Sum.elim (fun _=>some d) some)=some (if(List.range m).all p=true then d else c):=by
 rcases zmI (body:=body) m p (fun _=>c) h with⟨e,h1⟩|⟨k,h1,h2,h3,e⟩
 ·have:(List.range m).all p=true:=by
   rw[List.all_eq_true];intro x hx;exact h1 x (List.mem_range.1 hx)
  rw[e,this];rfl
 have:(List.range m).all p=false:=by
  rw[List.all_eq_false];exact⟨k,List.mem_range.2 h1,by simp[h2]⟩
 rw[e,this];rfl
def inB(a b x:Int):Bool:=decide (a≤x)&&decide (x≤b)
theorem ze7 :inB a b x=true↔a≤x∧x≤b:=by simp[inB]
theorem ziq(a b:Bool):(if a=true then some b else some false)=some (a&&b):=by cases a<;>rfl
theorem zeG(a b:Bool):(if a=true then some true else some b)=some (a||b):=by cases a<;>rfl
theorem zqJ(x a b:Int):zaV x a b=some (inB a b x):=zhf x a b
theorem zkG(x a b:Int):zav x a b=some (inB a b x):=zd8 x a b
theorem zxw{a' b':Int}(ha:a'≤a)(hb:b≤b')(h:l.all (inB a b)=true):l.all (inB a' b')=true:=by
 rw[List.all_eq_true]at h⊢;intro x hx;have:=ze7.1 (h x hx);exact ze7.2 (by omega)
def num(b:Int):List Int→Int
 |[]=>0
 |d::l=>num b l*b+d
theorem zwi{b:Int}(hb:0≤b∧b≤40):∀{l:List Int},l.all (inB 0 40)=true→0≤num b l∧num b l≤64^(l.length+1)
 |[],_=>by simp[num]
 |d::l,h=>by
  rw[List.all_cons,Bool.and_eq_true]at h;have h1:=ze7.1 h.1;have h2:=zwi hb h.2;have h3:num b l*b≤64^(l.length+1)*40:=Int.mul_le_mul h2.2 hb.2 hb.1 (by omega);have h4:=Int.mul_nonneg h2.1 hb.1;have h5:(1:Int)≤64^(l.length+1):=Int.pow_pos (by omega);simp only[num,List.length_cons];rw[Int.pow_succ (64:Int) (l.length+1)];omega
theorem zAg(hb:0≤b∧b≤40)(hl:l.length≤8)(h:l.all (inB 0 40)=true):0≤num b l∧num b l≤18014398509481984:=by
 have:=zwi hb h;have h2:(64:Nat)^(l.length+1)≤64^9:=Nat.pow_le_pow_right (by omega) (by omega);have h3:((64^(l.length+1):Nat):Int)=(64:Int)^(l.length+1):=Int.natCast_pow 64 _;omega
theorem zrO(hb:0≤b∧b≤40)(hl:l.length≤8)(h:(l.map (· +m)).all (inB 0 40)=true){step:Int×Int→Option (Stp (Int×Int) Int)}
(hs:∀(k:Nat) (h:k<l.length) (a:Int),0≤a→a≤18014398509481984→step (a,(k:Int))=some (.go (a*b+(l[k]+m),(k:Int)-1)))(he:∀a,step (a,-1)=some (.out a)):
 zax step (0,(l.length:Int)-1)=some (num b (l.map (· +m))):=by
 refine zal (zbi l.length (fun j p=>p=(num b ((l.drop (l.length-j)).map (· +m)),((l.length-j:Nat):Int)-1)∧j≤l.length) ⟨by simp[num],by omega⟩ ?_ ?_)
 ·rintro j p hj ⟨rfl,_⟩;obtain⟨k,hk,e1,e2⟩:∃k:Nat,k<l.length∧l.length-j=k+1∧l.length-(j+1)=k:=⟨l.length-j-1,by omega,by omega,by omega⟩
  rw[e1]
  have hd:((l.drop (k+1)).map (· +m)).all (inB 0 40)=true:=by
   rw[List.all_eq_true]at h⊢;intro x hx;obtain⟨y,hy,rfl⟩:=List.mem_map.1 hx;exact h _ (List.mem_map.2 ⟨y,List.mem_of_mem_drop hy,rfl⟩)
  have bd:=zAg hb (by simp;omega) hd;refine⟨.go (num b ((l.drop (k+1)).map (· +m))*b+(l[k]+m),(k:Int)-1),by rw[show((k+1:Nat):Int)-1=(k:Int)by omega];exact hs k hk _ bd.1 bd.2,?_,hj⟩;rw[e2,List.drop_eq_getElem_cons hk];rfl
 rintro p ⟨rfl,_⟩;refine⟨.out (num b (l.map (· +m))),?_,rfl⟩;rw[Nat.sub_self,List.drop_zero];exact he _
theorem zwQ(h:(l.map (· +m)).all (inB a b)=true)(hk:k<l.length):a≤l[k]+m∧l[k]+m≤b:=by
 rw[List.all_eq_true]at h;exact ze7.1 (h _ (List.mem_map.2 ⟨l[k],List.getElem_mem hk,rfl⟩))
theorem zjX(hb:0≤b∧b≤40)(hm:0≤m∧m≤1)(hl:l.length≤8)(h:(l.map (· +m)).all (inB 0 40)=true):zdm l b m=some (num b (l.map (· +m))):=by
 unfold zdm;rw[zaj (n:=(l.length:Int)-1) (by omega) (by omega),zrO hb hl h,Option.bind_some]
 ·intro k hk a h0 h1;have h2:a*b≤18014398509481984*40:=Int.mul_le_mul h1 hb.2 hb.1 (by omega);have h3:=Int.mul_nonneg h0 hb.1;have h4:=zwQ h hk;rw[if_pos (by simp),zaY hk,Option.bind_some,zaj (n:=a*b) (by omega) (by omega),zaj (n:=a*b+l[k]) (by omega) (by omega),zaj (n:=a*b+l[k]+m) (by omega) (by omega),zaj (n:=(k:Int)-1) (by omega) (by omega),Int.add_assoc]
 intro a;rfl
theorem zlf(hb:0≤b∧b≤40)(hl:l.length≤8)(h:l.all (inB 0 40)=true):zf4 l b=some (num b l):=by
 have e:l.map (· +0)=l:=by simp
 unfold zf4;rw[zaj (n:=(l.length:Int)-1) (by omega) (by omega),zrO (m:=0) hb hl (by rw[e];exact h),Option.bind_some,e]
 ·intro k hk a h0 h1;have h2:a*b≤18014398509481984*40:=Int.mul_le_mul h1 hb.2 hb.1 (by omega);have h3:=Int.mul_nonneg h0 hb.1;have h4:=zwQ (m:=0) (by rw[e];exact h) hk;rw[if_pos (by simp),zaY hk,Option.bind_some,zaj (n:=a*b) (by omega) (by omega),zaj (n:=a*b+l[k]) (by omega) (by omega),zaj (n:=(k:Int)-1) (by omega) (by omega),Int.add_zero]
 intro a;rfl
def ziH(n:Nat)(v:List Int):List Int:=(List.range n).map fun(i:Nat)=>if v.contains (i:Int)=true then 1 else 0
theorem zp5(n:Nat)(v:List Int):(ziH n v).length=n:=by simp[ziH]
theorem zxN(ho:0≤ct.Options∧ct.Options≤8){v:List Int}(h:v.all (inB 0 (ct.Options-1))=true):zf9 ct v=some (ziH ct.Options.toNat v):=by
 unfold zf9;refine zal (zas (by omega) (zae rfl (zag (ψ:=fun b=>b=_) (zaQ (fun k s=>s=ziH ct.Options.toNat (v.take k)) ?_ ?_ ?_) fun b hb=>zab hb)))
 ·simp[ziH,List.map_const']
 ·rintro k s hk rfl;have hv:=ze7.1 (List.all_eq_true.1 h _ (List.getElem_mem hk));obtain⟨x,hx⟩:∃x:Nat,v[k]=(x:Int):=⟨v[k].toNat,by omega⟩
  refine zbm hk ?_;rw[hx];refine zbm (by rw[zp5];omega) (zab ?_);show(ziH _ (v.take k)).set x 1=ziH _ (v.take (k+1));rw[List.take_succ_eq_append_getElem hk];apply List.ext_getElem (by simp[zp5]);intro i hi hi2;rw[List.getElem_set];simp only[ziH,List.getElem_map,List.getElem_range,List.contains_eq_mem,List.mem_append,List.mem_singleton,decide_eq_true_eq];by_cases e:x=i
  ·subst e;simp[hx]
  have:¬(i:Int)=v[k]:=by omega
  simp[e,this]
 rintro s rfl;rw[List.take_length]
def rng(a:Int)(n:Nat):List Int:=(List.range n).map fun(i:Nat)=>a+(i:Int)
theorem ztn(a:Int)(n:Nat):(rng a n).length=n:=by simp[rng]
theorem ztA :x∈rng a n↔a≤x∧x<a+n:=by
 simp only[rng,List.mem_map,List.mem_range];constructor
 ·rintro⟨i,hi,rfl⟩;omega
 exact fun h=>⟨(x-a).toNat,by omega,by omega⟩
theorem ztS(h1:b≤a)(h2:a+n-1≤c):(rng a n).all (inB b c)=true:=by
 rw[List.all_eq_true];intro x hx;have:=ztA.1 hx;exact ze7.2 (by omega)
theorem zoA{β:Type}{step:List Int×Int→Option (Stp (List Int×Int) β)}{f:Nat→Int}{out:List Int→β}(n:Nat)(hs:∀(k:Nat) (s:List Int),k<n→s.length=k→step (s,a+(k:Int))=some (.go (s++[f k],a+(k:Int)+1)))(he:∀s,step (s,a+(n:Int))=some (.out (out s))):
 zax step ([],a)=some (out ((List.range n).map f)):=by
 refine zal (zbi n (fun k p=>p=((List.range k).map f,a+(k:Int))) (by simp) ?_ ?_)
 ·rintro k p hk rfl;refine⟨_,hs k _ hk (by simp),?_⟩;show(_,_)=_;rw[List.range_succ,List.map_append];have e:a+(k:Int)+1=a+((k+1:Nat):Int):=by omega
  rw[e];rfl
 rintro p rfl;exact⟨_,he _,rfl⟩
theorem zA3{step:List Int×Int×Int→Option (Stp (List Int×Int×Int) (List Int))}(hn:n≤8)(p:Int)(hp:0≤p∧p≤5)(hm:0≤m)
(hs:∀(k:Nat) (s:List Int) (r:Int),k<n→s.length=n→0≤r→r≤m→step (s,r,(k:Int))=some (.go (s.set k (if p<r then p else r),r-(if p<r then p else r),(k:Int)-1)))(he:∀s r,step (s,r,-1)=some (.out s)):
 ∃l,zax step (List.replicate n 0,m,(n:Int)-1)=some l∧l.length=n∧l.all (inB 0 5)=true:=by
 refine zbi n (fun j x=>x.1.length=n∧x.1.all (inB 0 5)=true∧(0≤x.2.1∧x.2.1≤m)∧x.2.2=((n-j:Nat):Int)-1∧j≤n) ⟨by simp,?_,⟨hm,Int.le_refl _⟩,by simp,by omega⟩ ?_ ?_
 ·rw[List.all_eq_true];intro x hx;have:x=0:=(List.mem_replicate.1 hx).2;subst this;rfl
 ·rintro j ⟨s,r,c⟩ hj ⟨h1,h2,h3,h4,_⟩;simp only at h1 h2 h3 h4;obtain⟨k,hk,e1,e2⟩:∃k:Nat,k<n∧n-j=k+1∧n-(j+1)=k:=⟨n-j-1,by omega,by omega,by omega⟩
  have:c=(k:Int):=by omega
  subst this;have b:0≤(if p<r then p else r)∧(if p<r then p else r)≤5∧(if p<r then p else r)≤r:=by split<;>omega
  refine⟨.go (s.set k (if p<r then p else r),r-(if p<r then p else r),(k:Int)-1),hs k s r hk h1 h3.1 h3.2,by simpa using h1,?_,⟨by dsimp only;omega,by dsimp only;omega⟩,by dsimp only;omega,hj⟩;rw[List.all_eq_true]at h2⊢;intro x hx;rcases List.mem_or_eq_of_mem_set hx with h|rfl
  ·exact h2 x h
  exact ze7.2 ⟨b.1,b.2.1⟩
 rintro⟨s,r,c⟩ ⟨h1,h2,h3,h4,_⟩;simp only at h1 h2 h3 h4;have:c=-1:=by omega
 subst this;exact⟨_,he s r,h1,h2⟩
theorem zoP(k:OkC ct):∃n,zd3 ct=some n∧zcb ct=some n:=by
 have lo:=k.lo;unfold zd3 zcb;rcases k.k with⟨k13,ho,hm,hp⟩|⟨k2,ho,hp,hm⟩|⟨k4,ho,hm,hp⟩
 ·obtain⟨o,eo⟩:∃o:Nat,ct.Options=(o:Int):=⟨ct.Options.toNat,by omega⟩
  obtain⟨m,em⟩:∃m:Nat,ct.Most=(m:Int):=⟨ct.Most.toNat,by omega⟩
  have w:i64.wrap (ct.Options-ct.Most)=ct.Options-ct.Most:=zaj (by omega) (by omega)
  have e1:∀{β:Type}(out:List Int→β),zax (fun s5:List Int×Int=>if decide (s5.2<ct.Options)=true then(gd ((s5.1.length+1)*8≤140737488355328∧s5.1.length+1≤4611686018427387904)<|some (.go (s5.1++[s5.2],i64.wrap (s5.2+1))))else(some (.out (out s5.1)))) ([],ct.Options-ct.Most)=some (out (rng (ct.Options-ct.Most) m)):=fun{β} out=>by
   refine zoA m ?_ ?_
   ·intro c s hc hs;rw[if_pos (by simp;omega),zbI (by rw[hs];omega),zaj (by dsimp only;omega) (by dsimp only;omega)]
   ·intro s;rw[if_neg (by simp;omega)]
  have hall:(rng (ct.Options-ct.Most) m).all (inB 0 (ct.Options-1))=true:=ztS (by omega) (by omega);rcases k13 with k1|k3
  ·rw[k1];simp only[show((1:Int)==1)=true from rfl,if_true,w]
   have e2:zax (σ:=List Int×Int) (β:=List Int) (fun s5=>if decide (s5.2<ct.Options)=true then(((if decide (ct.Options-ct.Most≤s5.2)=true then(some 1)else(some 0):Option Int).bind fun x13=>
    gd ((s5.1.length+1)*8≤140737488355328∧s5.1.length+1≤4611686018427387904)<|some (.go (s5.1++[x13],i64.wrap (s5.2+1)))))else(some (.out s5.1))) ([],0)=some ((List.range o).map fun(i:Nat)=>if decide (ct.Options-ct.Most≤(i:Int))=true then 1 else 0):=by
    refine zoA (out:=fun s=>s) (a:=0) o ?_ ?_
    ·intro c s hc hs
     have hg:∀x:Int,gd ((s.length+1)*8≤140737488355328∧s.length+1≤4611686018427387904) (some (Stp.go (β:=List Int) (s++[x],i64.wrap (0+(c:Int)+1))))=some (.go (s++[x],0+(c:Int)+1)):=fun x=>by
      rw[zbI (by rw[hs];omega),zaj (by omega) (by omega)]
     rw[if_pos (by simp;omega)];dsimp only;by_cases h:ct.Options-ct.Most≤(c:Int)
     ·rw[if_pos (by simpa using h),Option.bind_some,hg,if_pos (by simpa using h)]
     ·rw[if_neg (by simpa using h),Option.bind_some,hg,if_neg (by simpa using h)]
    ·intro s;rw[if_neg (by simp;omega)]
   have em2:ziH ct.Options.toNat (rng (ct.Options-ct.Most) m)=(List.range o).map fun(i:Nat)=>if decide (ct.Options-ct.Most≤(i:Int))=true then 1 else 0:=by
    have:ct.Options.toNat=o:=by omega
    rw[this];unfold ziH;refine List.map_congr_left fun i hi=>?_
    have hi:=List.mem_range.1 hi;congr 1;rw[List.contains_eq_mem,decide_eq_true_eq,decide_eq_true_eq,ztA];exact propext ⟨fun h=>h.1,fun h=>⟨h,by omega⟩⟩
   have ha:((List.range o).map fun(i:Nat)=>if decide (ct.Options-ct.Most≤(i:Int))=true then(1:Int)else 0).all (inB 0 40)=true:=by
    rw[List.all_map,List.all_eq_true];intro i _;show inB 0 40 (if _ then _ else _)=true;split<;>rfl
   have hb:zbb ct=some 2:=by unfold zbb;rw[k1];rfl
   refine⟨?_,?_,?_⟩
   rotate_left 2
   ·rw[e2,Option.bind_some,hb,Option.bind_some,zlf (by omega) (by simp;omega) ha];rfl
   rw[e1 (fun s=>s),Option.bind_some];unfold zeZ;rw[k1,if_pos (show((1:Int)==1)=true from rfl),zxN (by omega) hall,Option.bind_some,em2,zjX (by omega) (by omega) (by simp;omega) (by simpa using ha)];simp;rfl
  rw[k3];simp only[show((3:Int)==1)=false from rfl,show((3:Int)==2)=false from rfl,show((3:Int)==3)=true from rfl,Bool.false_eq_true,if_false,if_true,w]
  have ee:(rng (ct.Options-ct.Most) m).map (· +1)=rng (ct.Options-ct.Most+1) m:=by
   simp only[rng,List.map_map];refine List.map_congr_left fun i hi=>?_
   show ct.Options-ct.Most+(i:Int)+1=ct.Options-ct.Most+1+(i:Int);omega
  have e2:zax (σ:=List Int×Int) (β:=List Int) (fun s40=>if decide (s40.2<ct.Most)=true then(gd ((s40.1.length+1)*8≤140737488355328∧s40.1.length+1≤4611686018427387904)<|
   some (.go (s40.1++[i64.wrap ((i64.wrap (ct.Options-ct.Most+1))+s40.2)],i64.wrap (s40.2+1))))else(some (.out s40.1))) ([],0)=some (rng (ct.Options-ct.Most+1) m):=by
   refine zoA (out:=fun s=>s) (a:=0) (f:=fun i=>ct.Options-ct.Most+1+(i:Int)) m ?_ ?_
   ·intro c s hc hs;rw[if_pos (by simp;omega),zbI (by rw[hs];omega),zaj (n:=ct.Options-ct.Most+1) (by omega) (by omega),zaj (n:=0+(c:Int)+1) (by omega) (by omega),zaj (by dsimp only;omega) (by dsimp only;omega),Int.zero_add]
   ·intro s;rw[if_neg (by simp;omega)]
  have ha:(rng (ct.Options-ct.Most+1) m).all (inB 0 40)=true:=ztS (by omega) (by omega);have hb:zbb ct=some (ct.Options+1):=by unfold zbb;rw[k3,zaj (n:=ct.Options+1) (by omega) (by omega)];rfl
  refine⟨?_,?_,?_⟩
  rotate_left 2
  ·rw[e2,Option.bind_some,hb,Option.bind_some,zlf (by omega) (by rw[ztn];omega) ha];rfl
  rw[e1 (fun s=>s),Option.bind_some];unfold zeZ;rw[k3,zaj (n:=ct.Options+1) (by omega) (by omega)];simp only[show((3:Int)==1)=false from rfl,show((3:Int)==2)=false from rfl,show((3:Int)==3)=true from rfl,Bool.false_eq_true,if_false,if_true];rw[zjX (by omega) (by omega) (by rw[ztn];omega) (by rw[ee];exact ha),ee];rfl
 ·obtain⟨o,eo⟩:∃o:Nat,ct.Options=(o:Int):=⟨ct.Options.toNat,by omega⟩
  have mb:=zAT ho hp;rw[k2];simp only[show((2:Int)==1)=false from rfl,show((2:Int)==2)=true from rfl,Bool.false_eq_true,if_false,if_true];rw[zbI (by omega),zbI (by omega),Option.bind_some,Option.bind_some,zaj (n:=ct.Options-1) (by omega) (by omega)];have hl:∀a b:Int,zd2 a b=some (if a<b then a else b):=fun a b=>by unfold zd2;by_cases h:a<b<;>simp[h]
  have hmin:∀a b:Int,(if b<a then b else a)=(if a<b then a else b):=fun a b=>by split<;>split<;>omega
  have eS:=zA3 (step:=fun s26:List Int×Int×Int=>
   if decide (0≤s26.2.2)=true then(
   (zd2 s26.2.1 ct.Points).bind fun z32=>
   (ix s26.1 s26.2.2).bind fun x33=>
   (ix (s26.1.set s26.2.2.toNat z32) s26.2.2).bind fun x34=>
   some (.go (s26.1.set s26.2.2.toNat z32,i64.wrap (s26.2.1-x34),i64.wrap (s26.2.2-1))))else(
   some (.out s26.1))) (n:=o) (m:=ct.Most) (by omega) ct.Points (by omega) (by omega) ?_ (fun s r=>rfl)
  ·obtain⟨l,h1,h2,h3⟩:=eS
   have e:(fun s26:List Int×Int×Int=>
    if decide (0≤s26.2.2)=true then(
    (zd2 s26.2.1 ct.Points).bind fun z32=>
    (ix s26.1 s26.2.2).bind fun x33=>
    (ix (s26.1.set s26.2.2.toNat z32) s26.2.2).bind fun x34=>
    some (.go (s26.1.set s26.2.2.toNat z32,i64.wrap (s26.2.1-x34),i64.wrap (s26.2.2-1))))else(
    some (.out s26.1)))=(fun s29:List Int×Int×Int=>
    if decide (0≤s29.2.2)=true then(
    (ix s29.1 s29.2.2).bind fun x35=>
    (ix (s29.1.set s29.2.2.toNat (if ct.Points<s29.2.1 then ct.Points else s29.2.1)) s29.2.2).bind fun x36=>
    some (Stp.go (s29.1.set s29.2.2.toNat (if ct.Points<s29.2.1 then ct.Points else s29.2.1),i64.wrap (s29.2.1-x36),i64.wrap (s29.2.2-1))))else(
    some (.out s29.1))):=by
    funext s;simp only[hl,hmin,Option.bind_some]
   rw[←e];have:ct.Options.toNat=o:=by omega
   rw[this,eo,h1,Option.bind_some,Option.bind_some];have hb:zbb ct=some (ct.Points+1):=by unfold zbb;rw[k2,zaj (by omega) (by omega)];rfl
   have ha:=zxw (a:=0) (a':=0) (b:=5) (b':=40) (by omega) (by omega) h3;refine⟨?_,?_,?_⟩
   rotate_left 2
   ·rw[hb,Option.bind_some,zlf (by omega) (by omega) ha];rfl
   unfold zeZ;rw[k2,zaj (n:=ct.Points+1) (by omega) (by omega)];simp only[show((2:Int)==1)=false from rfl,show((2:Int)==2)=true from rfl,Bool.false_eq_true,if_false,if_true];rw[zjX (by omega) (by omega) (by omega) (by simpa using ha)];simp
  intro c s r hc hs h0 h1;have hc2:c<(s.set c (if ct.Points<r then ct.Points else r)).length:=by simp;omega
  dsimp only;rw[if_pos (by simp),hl,Option.bind_some,zaY (by omega),Option.bind_some,←hmin,Int.toNat_natCast,zaY hc2,Option.bind_some];have b:0≤(if ct.Points<r then ct.Points else r)∧(if ct.Points<r then ct.Points else r)≤r:=by split<;>omega
  rw[List.getElem_set_self,zaj (by omega) (by omega),zaj (by omega) (by omega)]
 obtain⟨m,em⟩:∃m:Nat,ct.Most=(m:Int):=⟨ct.Most.toNat,by omega⟩
 rw[k4];simp only[show((4:Int)==1)=false from rfl,show((4:Int)==2)=false from rfl,show((4:Int)==3)=false from rfl,Bool.false_eq_true,if_false,if_true]
 have e1:zax (σ:=List Int×Int) (β:=List Int) (fun s46=>if decide (s46.2<ct.Most)=true then(gd ((s46.1.length+1)*8≤140737488355328∧s46.1.length+1≤4611686018427387904)<|
  some (.go (s46.1++[26],i64.wrap (s46.2+1))))else(some (.out s46.1))) ([],0)=some ((List.range m).map fun _=>26):=by
  refine zoA (out:=fun s=>s) (a:=0) m ?_ ?_
  ·intro c s hc hs;rw[if_pos (by simp;omega),zbI (by rw[hs];omega),zaj (by dsimp only;omega) (by dsimp only;omega)]
  ·intro s;rw[if_neg (by simp;omega)]
 have ha:((List.range m).map fun _=>(26:Int)).all (inB 0 40)=true:=by
  rw[List.all_map,List.all_eq_true];intro i _;rfl
 have hb:zbb ct=some 27:=by unfold zbb;rw[k4];rfl
 rw[e1,Option.bind_some,Option.bind_some];refine⟨?_,?_,?_⟩
 rotate_left 2
 ·rw[hb,Option.bind_some,zlf (by omega) (by simp;omega) ha];rfl
 unfold zeZ;rw[k4];simp only[show((4:Int)==1)=false from rfl,show((4:Int)==2)=false from rfl,show((4:Int)==3)=false from rfl,Bool.false_eq_true,if_false,if_true];rw[zjX (by omega) (by omega) (by simp;omega) (by simpa using ha)];simp;rfl
theorem zmV(ct:Contest):zbw ct=some (ct.Kind==1||ct.Kind==2):=by
 unfold zbw;rw[zeG];rfl
theorem zkw(ct:Contest):zem ct=some (ct.Kind==1||ct.Kind==2):=by
 unfold zem;rw[zeG];rfl
theorem zoi(gr:Group)(ct:Contest):∃b,zep gr ct=some b∧zeF gr ct=some b∧(b=true→OkG gr∧OkC ct):=by
 unfold zep zeF;rw[zgI,zro];simp only[zkZ,zhq,zkw,zmV,Option.bind_some];cases hg:okG gr with
 |false=>exact⟨false,rfl,rfl,fun h=>by cases h⟩
 |true=>
  cases hc:okC ct with
  |false=>exact⟨false,rfl,rfl,fun h=>by cases h⟩
  |true=>
   obtain⟨n,h1,h2⟩:=zoP (zqL.1 hc);simp only[h1,h2,Bool.not_true,Bool.false_eq_true,if_false,Option.bind_some];have k:=And.intro (zly.1 hg) (zqL.1 hc);simp only[zeG,ziq,Option.bind_some];cases decide (100000<n)||decide (gr.Q≤n)with
   |true=>exact⟨false,rfl,rfl,fun h=>by cases h⟩
   |false=>exact⟨_,rfl,rfl,fun _=>k⟩
theorem zv6(p:Plan):∃b,zc7 p=some b∧zen p=some b∧(b=true→OkG p.Gr∧OkC p.Ct∧7<p.Gr.Q∧(1≤p.Threshold∧p.Threshold≤p.Trustees∧p.Trustees≤4)∧(0≤p.Mixers∧p.Mixers≤3)∧(1≤p.Voters∧p.Voters≤12)∧zaX p.Seed=true):=by
 obtain⟨b,s1,s2,s3⟩:=zoi p.Gr p.Ct;unfold zc7 zen;simp only[s1,s2,zqJ,zkG,zhX,zlq,zkw,zmV,Option.bind_some,zeG]
 have e:(!b||(!inB 1 p.Trustees p.Threshold||(decide (4<p.Trustees)||(decide (p.Gr.Q≤7)||(!inB 0 3 p.Mixers||(!inB 1 12 p.Voters|| !zaX p.Seed))))))=(!b||(decide (p.Gr.Q≤7)||(!inB 1 4 p.Trustees||(!inB 1 p.Trustees p.Threshold||(!inB 0 3 p.Mixers||(!inB 1 12 p.Voters|| !zaX p.Seed)))))):=by
  rw[Bool.eq_iff_iff];generalize zaX p.Seed=d;simp only[Bool.or_eq_true,Bool.not_eq_true',decide_eq_true_eq,inB,Bool.and_eq_false_iff,decide_eq_false_iff_not];cases b<;>cases d<;>simp<;>omega
 rw[←e];cases hb:(!b||(!inB 1 p.Trustees p.Threshold||(decide (4<p.Trustees)||(decide (p.Gr.Q≤7)||(!inB 0 3 p.Mixers||(!inB 1 12 p.Voters|| !zaX p.Seed))))))with
 |true=>exact⟨false,rfl,rfl,fun h=>by cases h⟩
 |false=>
  simp only[Bool.or_eq_false_iff,Bool.not_eq_false',decide_eq_false_iff_not,ze7]at hb;obtain⟨h1,h2,h3,h4,h5,h6,h7⟩:=hb;obtain⟨kg,kc⟩:=s3 h1;obtain⟨bs,t,n1,n2,_⟩:=zze kg (n:=12) (by omega);simp only[Bool.false_eq_true,if_false]
  have et:∀a,zdx p.Ct=some a→(p.Ct.Kind==1||p.Ct.Kind==2)=true→zbV p.Ct=some a:=by
   intro a ha hk;unfold zdx at ha;unfold zbV;simp only[Bool.or_eq_true,beq_iff_eq]at hk;rcases hk with h|h<;>simp[h]at ha⊢<;>exact ha
  obtain⟨a,ha⟩:∃a,zdx p.Ct=some a:=by unfold zdx;split<;>exact⟨_,rfl⟩
  have fin:OkG p.Gr∧OkC p.Ct∧7<p.Gr.Q∧(1≤p.Threshold∧p.Threshold≤p.Trustees∧p.Trustees≤4)∧(0≤p.Mixers∧p.Mixers≤3)∧(1≤p.Voters∧p.Voters≤12)∧zaX p.Seed=true:=⟨kg,kc,by omega,by omega,h5,h6,h7⟩
  have n1':zd7 p.Gr 12=some (bs,t):=n1;have n2':zcf p.Gr 12=some (bs,t):=n2;cases hk:(p.Ct.Kind==1||p.Ct.Kind==2)with
  |false=>
   simp only[Bool.false_eq_true,if_false,Option.bind_some,n1',n2'];exact⟨t,rfl,rfl,fun _=>fin⟩
  |true=>
   simp only[if_true,ha,et a ha hk,Option.bind_some,n1',n2'];cases decide (p.Gr.Q≤i64.wrap (p.Voters*a))with
   |true=>exact⟨false,rfl,rfl,fun h=>by cases h⟩
   |false=>exact⟨t,rfl,rfl,fun _=>fin⟩
theorem zzV{step:Int×Int→Option (Stp (Int×Int) (Int ⊕ Int))}{a0:Int}(n:Nat)(h0:0≤a0∧a0≤1048576)(hs:∀(k:Nat) (a:Int),k<n→0≤a→a≤1048576→∃z,z≤1048576∧step (a,(k:Int))=if decide (z<0)=true then some (.out (.inr (-1)))else some (.go (z,((k+1:Nat):Int))))
(he:∀a,step (a,(n:Int))=some (.out (.inl a))):∃z,(zax step (a0,0)).bind (Sum.elim (fun x=>some x) some)=some z∧z≤1048576:=by
 obtain⟨b,h1,h2⟩:=zbi (step:=step) (s0:=(a0,0)) (φ:=fun b=>Sum.elim (fun z=>z≤1048576) (fun z=>z≤1048576) b) n (fun k p=>p.2=(k:Int)∧0≤p.1∧p.1≤1048576) ⟨rfl,h0⟩
  (by
    rintro k ⟨a,c⟩ hk ⟨rfl,h1,h2⟩;obtain⟨z,hz,e⟩:=hs k a hk h1 h2;by_cases h:z<0
    ·exact⟨.out (.inr (-1)),by rw[e,if_pos (by simpa using h)],by show(-1:Int)≤_;omega⟩
    ·exact⟨.go (z,((k+1:Nat):Int)),by rw[e,if_neg (by simpa using h)],rfl,by dsimp only;omega,hz⟩)
  (by
    rintro⟨a,c⟩ ⟨rfl,h1,h2⟩
    exact⟨_,he a,h2⟩)
 rw[h1,Option.bind_some];cases b with
 |inl z=>exact⟨z,rfl,h2⟩
 |inr z=>exact⟨z,rfl,h2⟩
theorem zzF{α:Type}{step:List α×Int×Int→Option (Stp (List α×Int×Int) (List α×Int))}{l:List α}{a0 K:Int}(P:α→Prop)(hP:∀x∈l,P x)(hK:0≤K)(h0:1≤a0)
(hs:∀(k:Nat) (r:List α) (a:Int) (h:k<r.length),r.length=l.length→P r[k]→1≤a→a≤a0+k*K→∃x a',step (r,a,(k:Int))=some (.go (r.set k x,a',((k+1:Nat):Int)))∧P x∧a≤a'∧a'≤a+K)
(he:∀r a,r.length=l.length→step (r,a,(l.length:Int))=some (.out (r,a))):∃z,zax step (l,a0,0)=some z∧1≤z.2∧z.2≤a0+l.length*K∧z.1.length=l.length∧∀x∈z.1,P x:=by
 refine zbi l.length (fun k p=>p.2.2=(k:Int)∧p.1.length=l.length∧(∀x∈p.1,P x)∧1≤p.2.1∧p.2.1≤a0+k*K) ⟨rfl,rfl,hP,h0,by simp⟩ ?_ ?_
 ·rintro k ⟨r,a,c⟩ hk ⟨rfl,h1,h2,h3,h4⟩;simp only at h1 h2 h3 h4;obtain⟨x,a',e,h5,h6,h7⟩:=hs k r a (by omega) h1 (h2 _ (List.getElem_mem (by omega))) h3 h4;refine⟨_,e,rfl,by simpa using h1,fun y hy=>?_,by dsimp only;omega,?_⟩
  ·rcases List.mem_or_eq_of_mem_set hy with h|rfl
   ·exact h2 y h
   exact h5
  show a'≤a0+((k+1:Nat):Int)*K;rw[show(((k+1:Nat):Int))*K=(k:Int)*K+K by rw[Int.natCast_add,Int.add_mul];omega];omega
 rintro⟨r,a,c⟩ ⟨rfl,h1,h2,h3,h4⟩;exact⟨_,he r a h1,h3,h4,h1,h2⟩
theorem zzW(h:l.length≤1048576):zh3 l=some l:=zbI (by omega)
theorem zzr(h:l.length≤1048576):zc5 l=some l:=zbI (by omega)
theorem zib{α:Type}{L:List (List α)}{i:Nat}(h:i<L.length):(L.take (i+1)).flatten=(L.take i).flatten++L[i]:=by
 rw[List.take_succ_eq_append_getElem h,List.flatten_append];simp
theorem znY{α:Type}(L:List (List α))(i:Nat):(L.take i).flatten.length≤L.flatten.length:=by
 have e:L.flatten=(L.take i).flatten++(L.drop i).flatten:=by rw[←List.flatten_append,List.take_append_drop]
 rw[e,List.length_append];omega
theorem zmv(L:List (List Int))(h:L.flatten.length≤1000000000000):zbB L=some L.flatten:=by
 unfold zbB;refine zal (zag (ψ:=fun n=>n=(L.flatten.length:Int)) (zaQ (fun i s=>s=((L.take i).flatten.length:Int)) rfl ?_ ?_) ?_)
 ·rintro i s hi rfl;have e:=congrArg List.length (zib hi);rw[List.length_append]at e;have hl:=znY L (i+1);refine zbm hi ?_;rw[zaj (by omega) (by omega)];refine zbd (by simp only[decide_eq_false_iff_not];omega) (zab ?_);show _=_;omega
 ·rintro s rfl;rw[List.take_length]
 rintro n rfl;refine zas (by omega) (zag (ψ:=fun r=>r=L.flatten) (zaQ (fun i s=>s=(L.take i).flatten) rfl ?_ ?_) fun r hr=>zab hr)
 ·rintro i s hi rfl;have e:=congrArg List.length (zib hi);rw[List.length_append]at e;have hl:=znY L (i+1);refine zbm hi (zas (by omega) (zab ?_));show _=_;rw[zib hi]
 rintro s rfl;rw[List.take_length]
def chG(gr:Group)(s:ByteArray)(l:List Int):Int:=zi1 s ([gr.P,gr.Q,gr.G]++l)%gr.Q
theorem ztO(k:OkG gr) :([gr.P,gr.Q,gr.G]++l).all zaX=l.all zaX:=by
 have hp:=k.p;have hq:=k.q;have hg:=k.g;rw[List.all_append]
 have:[gr.P,gr.Q,gr.G].all zaX=true:=by
  simp only[List.all_cons,List.all_nil,Bool.and_true,Bool.and_eq_true];exact⟨zbz.2 (by omega),zbz.2 (by omega),zbz.2 (by omega)⟩
 rw[this,Bool.true_and]
theorem zmb(k:OkG gr)(hs:s.size≤1000000)(hl:l.length≤10000000000)(hd:l.all zaX=true):zcN gr s l=some (chG gr s l):=by
 have hq:=k.q;have hb:=zbz.1 (zla s ([gr.P,gr.Q,gr.G]++l));unfold zcN;rw[zbI (by simp only[List.length_cons,List.length_nil];omega),zkl hs (by simp only[List.length_append,List.length_cons,List.length_nil];omega) (by rw[ztO k];exact hd),Option.bind_some,zbI (by omega),Int.tmod_eq_emod_of_nonneg hb.1];rfl
theorem zvB(k:OkG gr)(s:ByteArray)(hl:l.length≤10000000000):zbM gr s l=some (if zh8 s ([gr.P,gr.Q,gr.G]++l)=true then(chG gr s l,true)else(0,false)):=by
 have hq:=k.q;have hb:=zbz.1 (zla s ([gr.P,gr.Q,gr.G]++l));unfold zbM;rw[zbI (by simp only[List.length_cons,List.length_nil];omega),zis,Option.bind_some];cases zh8 s ([gr.P,gr.Q,gr.G]++l)with
 |false=>rfl
 |true=>
  simp only[if_true,Bool.not_true,Bool.false_eq_true,if_false];rw[zbI (by omega),Int.tmod_eq_emod_of_nonneg hb.1];rfl
theorem zyP(k:OkG gr)(hs:s.size≤40)(hl:4+s.size+l.length≤400)(hd:l.all zaX=true):zh8 s ([gr.P,gr.Q,gr.G]++l)=true:=by
 unfold zh8;rw[ztO k,hd,Bool.and_true,Bool.and_eq_true,decide_eq_true_eq,decide_eq_true_eq];simp only[List.length_append,List.length_cons,List.length_nil];omega
theorem zky(k:OkG gr)(h:l.all (zaq gr)=true):l.all zaX=true:=by
 have hp:=k.p;rw[List.all_eq_true]at h⊢;intro x hx;have:=zjO (h x hx);exact zbz.2 (by omega)
def zfv(gr:Group):List Int→List Int→Int→Int
 |x::l,e::m,o=>zfv gr l m (o*zb3 gr x e%gr.P)
 |_,_,o=>o
theorem zmk(gr:Group):∀(l m:List Int) (x e o:Int),l.length=m.length→zfv gr (l++[x]) (m++[e]) o=zfv gr l m o*zb3 gr x e%gr.P
 |[],[],x,e,o,_=>rfl
 |y::l,f::m,x,e,o,h=>zmk gr l m x e _ (by simpa using h)
theorem znC(gr:Group):∀(l m:List Int) (o:Int),zfv gr l (m.take l.length) o=zfv gr l m o
 |[],m,o=>by cases m<;>rfl
 |y::l,[],o=>rfl
 |y::l,f::m,o=>znC gr l m _
theorem zo3{gr:Group}(h:0<gr.P):∀(l m:List Int) (o:Int),0≤o∧o<gr.P→0≤zfv gr l m o∧zfv gr l m o<gr.P
 |x::l,e::m,o,_=>zo3 h l m _ ⟨Int.emod_nonneg _ (by omega),Int.emod_lt_of_pos _ h⟩
 |[],_,o,ho=>ho
 |_::_,[],o,ho=>ho
theorem zpp(k:OkG gr)(hx:0≤x∧x<gr.P)(hy:0≤y):zc4 gr [x,y]=x*y%gr.P:=by
 have hp:=k.p;simp only[zc4,List.foldl_cons,List.foldl_nil,Int.one_mul];rw[Int.emod_eq_of_lt hx.1 hx.2]
theorem zz2(k:OkG gr){m:List Int}(hl:∀x∈l,0≤x∧x≤2000000000)(hm:l.length≤m.length):zgw gr l m=some (zfv gr l m 1):=by
 have hp:=k.p;unfold zgw;refine zal (zag (ψ:=fun b=>b=zfv gr l m 1) (zaQ (fun i s=>s=zfv gr (l.take i) (m.take i) 1) rfl ?_ ?_) fun b hb=>zab hb)
 ·rintro i s hi rfl;have bd:=zo3 (gr:=gr) (by omega) (l.take i) (m.take i) 1 (by omega);have hx:=hl l[i] (List.getElem_mem hi);have pb:=ziF k l[i] (m[i]'(by omega));refine zbm hi (zbm (show i<m.length by omega) (zae (zwU k hx.1 hx.2 _) (zas (by omega) (zab ?_))));show _=zfv gr (l.take (i+1)) (m.take (i+1)) 1;rw[List.take_succ_eq_append_getElem hi,List.take_succ_eq_append_getElem (show i<m.length by omega),zmk _ _ _ _ _ _ (by simp;omega)];have b1:=Int.mul_nonneg bd.1 pb.1;have b2:zfv gr (l.take i) (m.take i) 1*zb3 gr l[i] (m[i]'(by omega))≤2000000000*2000000000:=Int.mul_le_mul (by omega) (by omega) pb.1 (by omega);rw[zaj (by omega) (by omega),Int.tmod_eq_emod_of_nonneg b1]
 rintro s rfl;rw[List.take_length,znC]
theorem zwm(k:OkG gr){m:List Int}(hl:∀x∈l,0≤x∧x≤2000000000)(hm:l.length≤m.length):zdY gr l m=some (zfv gr l m 1):=by
 have hp:=k.p;unfold zdY;refine zal (zag (ψ:=fun b=>b=zfv gr l m 1) (zaQ (fun i s=>s=zfv gr (l.take i) (m.take i) 1) rfl ?_ ?_) fun b hb=>zab hb)
 ·rintro i s hi rfl;have bd:=zo3 (gr:=gr) (by omega) (l.take i) (m.take i) 1 (by omega);have hx:=hl l[i] (List.getElem_mem hi);have pb:=ziF k l[i] (m[i]'(by omega));refine zbm hi (zbm (show i<m.length by omega) (zae (zq1 k hx.1 hx.2 _).1 (zae (zoB k ?_) (zab ?_))))
  ·intro y hy;simp only[List.mem_cons,List.not_mem_nil,or_false]at hy;rcases hy with rfl|rfl<;>omega
  show _=zfv gr (l.take (i+1)) (m.take (i+1)) 1;rw[List.take_succ_eq_append_getElem hi,List.take_succ_eq_append_getElem (show i<m.length by omega),zmk _ _ _ _ _ _ (by simp;omega),zpp k bd pb.1]
 rintro s rfl;rw[List.take_length,znC]
structure LinS (gr:Group) (bs:List (List Int)):Prop where
 n:1≤bs.length∧bs.length≤8
 m:1≤(bs.headD []).length∧(bs.headD []).length≤8
 r:∀r∈bs,r.length=(bs.headD []).length∧r.all (zaq gr)=true
theorem zqb:∀{bs:List (List Int)}{c:Nat},(∀r∈bs,r.length≤c)→bs.flatten.length≤bs.length*c
 |[],_,_=>by simp
 |r::bs,c,h=>by
  have h1:=h r (List.mem_cons_self ..);have h2:=zqb fun x hx=>h x (List.mem_cons_of_mem r hx)
  rw[List.flatten_cons,List.length_append,List.length_cons,Nat.add_mul];omega
theorem LinS.flat(h:LinS gr bs):bs.flatten.length≤64:=by
 have:=zqb (bs:=bs) (c:=8) fun r hr=>by rw[(h.r r hr).1];exact h.m.2
 have:=h.n;omega
theorem LinS.dig(k:OkG gr)(h:LinS gr bs):bs.flatten.all zaX=true:=by
 rw[List.all_eq_true];intro x hx;obtain⟨r,hr,hx⟩:=List.mem_flatten.1 hx;exact List.all_eq_true.1 (zky k (h.r r hr).2) x hx
theorem LinS.hd(h:LinS gr bs):ix bs 0=some (bs.headD []):=by
 cases bs with
 |nil=>have:=h.n;simp at this
 |cons r l=>rfl
theorem zhD(k:OkG gr)(h:l.all (zaq gr)=true):∀x∈l,0≤x∧x≤2000000000:=fun x hx=>by
 have hp:=k.p;have:=zjO (List.all_eq_true.1 h x hx);omega
theorem zAV{cs:List Int}(h1:bs.flatten.length≤1000000)(h2:im.length≤1048576)(h3:cs.length≤1048576):zeC bs im cs=some (bs.flatten++im++cs):=by
 unfold zeC;refine zal (zag (ψ:=fun r=>r=bs.flatten) (zaQ (fun i s=>s=(bs.take i).flatten) rfl ?_ ?_) ?_)
 ·rintro i s hi rfl;have e:=congrArg List.length (zib hi);rw[List.length_append]at e;have hl:=znY bs (i+1);refine zbm hi (zas (by omega) (zab ?_));show _=_;rw[zib hi]
 ·rintro s rfl;rw[List.take_length]
 rintro r rfl;exact zas (by omega) (zas (by rw[List.length_append];omega) (zab rfl))
theorem zyz(k:OkG gr){es:List Int}(hb:LinS gr bs)(he:es.length=(bs.headD []).length):zdV gr bs es=some (bs.map fun r=>zfv gr r es 1):=by
 unfold zdV;have hn:=hb.n;rw[zAR (f:=fun r=>zfv gr r es 1) []]
 ·rfl
 intro i hi s hs;have hr:=hb.r _ (List.getElem_mem hi);rw[zaY hi,Option.bind_some,zwm k (zhD k hr.2) (by omega),Option.bind_some,zbI (by simp at hs;omega)]
def znt(gr:Group)(s:ByteArray)(bs:List (List Int))(im:List Int)(p:Proof):Bool:=
 !(((p.Commits.length:Int) !=(bs.length:Int))||(((p.Challenges.length:Int) !=1)||(((p.Responses.length:Int) !=((bs.headD []).length:Int))||(!p.Commits.all (zaq gr)|| !p.Responses.all (zgj gr)))))&&
 (!(p.Challenges.headD 0 !=chG gr s (bs.flatten++im++p.Commits))&&
 (List.range bs.length).all fun i=> !(zfv gr (bs.getD i []) p.Responses 1 !=zc4 gr [p.Commits.getD i 0,zb3 gr (im.getD i 0) (p.Challenges.headD 0)]))
theorem zqk(k:OkG gr)(hs:s.size≤40){p:Proof}(hb:LinS gr bs)(hi:im.length=bs.length)(hd:im.all (zaq gr)=true)(hc:p.Commits.length≤1048576):
 zeV gr s bs im p=some (znt gr s bs im p):=by
 have hp:=k.p;have hq:=k.q;unfold zeV znt;simp only[hb.hd,zoC k,ztL (gr:=gr) (by omega) (by omega),Option.bind_some,zeG];cases hg:(((p.Commits.length:Int) !=(bs.length:Int))||(((p.Challenges.length:Int) !=1)||(((p.Responses.length:Int) !=((bs.headD []).length:Int))||(!p.Commits.all (zaq gr)|| !p.Responses.all (zgj gr)))))with
 |true=>rfl
 |false=>
  simp only[Bool.or_eq_false_iff,bne_eq_false_iff_eq,Bool.not_eq_false']at hg;obtain⟨g1,g2,g3,g4,g5⟩:=hg;have hf:=hb.flat;have hn:=hb.n
  obtain⟨c,hce⟩:∃c,p.Challenges=[c]:=by
   match h:p.Challenges,g2 with
   |[c],_=>exact⟨c,rfl⟩
  have hdig:(bs.flatten++im++p.Commits).all zaX=true:=by
   rw[List.all_append,List.all_append,hb.dig k,zky k hd,zky k g4];rfl
  simp only[Bool.false_eq_true,if_false,hce,show ix [c] 0=some c from rfl,Option.bind_some,zAV (bs:=bs) (im:=im) (cs:=p.Commits) (by omega) (by omega) hc];rw[zmb k (by omega) (by simp only[List.length_append];omega) hdig,Option.bind_some];show _=some (!false&&(!(c !=_)&&_));by_cases hcc:c=chG gr s (bs.flatten++im++p.Commits)
  ·have e1:(c !=chG gr s (bs.flatten++im++p.Commits))=false:=by simpa using hcc
   rw[e1];simp only[Bool.false_eq_true,if_false,Bool.not_false,Bool.true_and];rw[zjJ (fun i=> !(zfv gr (bs.getD i []) p.Responses 1 !=zc4 gr [p.Commits.getD i 0,zb3 gr (im.getD i 0) c])) false true]
   ·simp only[Bool.if_true_left,Bool.if_false_right,Bool.and_true,Bool.decide_eq_true,Bool.or_false];rfl
   ·intro i hi;have hr:=hb.r _ (List.getElem_mem hi);have h1:i<p.Commits.length:=by omega
    have h2:i<im.length:=by omega
    have ic:=zhD k g4 _ (List.getElem_mem h1);have ii:=zhD k hd _ (List.getElem_mem h2);have pb:=ziF k im[i] c;rw[zaY hi,Option.bind_some,zaY h1,Option.bind_some,zaY h2,Option.bind_some,zz2 k (zhD k hr.2) (by omega),Option.bind_some,zwU k ii.1 ii.2,Option.bind_some,zwz k ?_,Option.bind_some]
    ·simp only[List.getD_eq_getElem?_getD,List.getElem?_eq_getElem hi,List.getElem?_eq_getElem h1,List.getElem?_eq_getElem h2,Option.getD_some];exact zoT _ _ _
    ·intro y hy;simp only[List.mem_cons,List.not_mem_nil,or_false]at hy;rcases hy with rfl|rfl<;>omega
  ·have e1:(c !=chG gr s (bs.flatten++im++p.Commits))=true:=by simpa using hcc
   rw[e1];rfl
theorem zqe(k:OkG gr)(hs:s.size≤40){p:Proof}(hb:LinS gr bs)(hi:im.length=bs.length)(hd:im.all (zaq gr)=true)(hc:p.Commits.length≤1048576):
 zbR gr s bs im p=some (znt gr s bs im p):=by
 have hp:=k.p;have hq:=k.q;unfold zbR znt;simp only[hb.hd,zk5 k,zp4 (gr:=gr) (by omega) (by omega),Option.bind_some,zeG];cases hg:(((p.Commits.length:Int) !=(bs.length:Int))||(((p.Challenges.length:Int) !=1)||(((p.Responses.length:Int) !=((bs.headD []).length:Int))||(!p.Commits.all (zaq gr)|| !p.Responses.all (zgj gr)))))with
 |true=>rfl
 |false=>
  simp only[Bool.or_eq_false_iff,bne_eq_false_iff_eq,Bool.not_eq_false']at hg;obtain⟨g1,g2,g3,g4,g5⟩:=hg;have hf:=hb.flat;have hn:=hb.n
  obtain⟨c,hce⟩:∃c,p.Challenges=[c]:=by
   match h:p.Challenges,g2 with
   |[c],_=>exact⟨c,rfl⟩
  have hdig:(bs.flatten++im++p.Commits).all zaX=true:=by
   rw[List.all_append,List.all_append,hb.dig k,zky k hd,zky k g4];rfl
  have hfl:[bs.flatten,im,p.Commits].flatten=bs.flatten++im++p.Commits:=by simp
  have hl:(bs.flatten++im++p.Commits).length≤80:=by simp only[List.length_append];omega
  simp only[Bool.false_eq_true,if_false,hce,show ix [c] 0=some c from rfl,Option.bind_some,zmv bs (by omega),zmv [bs.flatten,im,p.Commits] (by rw[hfl];omega),hfl];rw[zvB k s (by omega),if_pos (zyP k hs (by omega) hdig),Option.bind_some];simp only[Bool.not_true,Bool.false_eq_true,if_false,Option.bind_some];show _=some (!false&&(!(c !=_)&&_));by_cases hcc:c=chG gr s (bs.flatten++im++p.Commits)
  ·have e1:(c !=chG gr s (bs.flatten++im++p.Commits))=false:=by simpa using hcc
   rw[e1,←hcc];simp only[Bool.false_eq_true,if_false,Bool.not_false,Bool.true_and];rw[zyz k hb (by omega),Option.bind_some,zjJ (fun i=> !(zfv gr (bs.getD i []) p.Responses 1 !=zc4 gr [p.Commits.getD i 0,zb3 gr (im.getD i 0) c])) false true]
   ·simp only[Bool.if_true_left,Bool.if_false_right,Bool.and_true,Bool.decide_eq_true,Bool.or_false,List.length_map];rfl
   ·intro i hi;have hi':i<bs.length:=by simpa using hi
    have h1:i<p.Commits.length:=by omega
    have h2:i<im.length:=by omega
    have ic:=zhD k g4 _ (List.getElem_mem h1);have ii:=zhD k hd _ (List.getElem_mem h2);have pb:=ziF k im[i] c;rw[zaY hi,Option.bind_some,zaY h1,Option.bind_some,zaY h2,Option.bind_some,(zq1 k ii.1 ii.2 _).1,Option.bind_some,zoB k ?_,Option.bind_some]
    ·simp only[List.getElem_map,List.getD_eq_getElem?_getD,List.getElem?_eq_getElem hi',List.getElem?_eq_getElem h1,List.getElem?_eq_getElem h2,Option.getD_some];exact zoT _ _ _
    ·intro y hy;simp only[List.mem_cons,List.not_mem_nil,or_false]at hy;rcases hy with rfl|rfl<;>omega
  ·have e1:(c !=chG gr s (bs.flatten++im++p.Commits))=true:=by simpa using hcc
   rw[e1];rfl
theorem zgT(k:OkG gr):zaq gr gr.G=true:=by
 have hg:=k.g;simp only[zaq,Bool.and_eq_true,decide_eq_true_eq];exact⟨by omega,k.o⟩
theorem znK(h:zaq gr x=true):LinS gr [[x]]:=⟨by simp,by simp,fun r hr=>by
 rw[List.mem_singleton.1 hr]
 simp[h]⟩
def zyr(gr:Group)(s:ByteArray)(key:Int)(p:Proof):Bool:=znt gr s [[gr.G]] [key] p
theorem zyA(k:OkG gr)(hs:s.size≤40){key:Int}(hk:zaq gr key=true){p:Proof}(hc:p.Commits.length≤1048576):zeX gr s key p=some (zyr gr s key p)∧zdr gr s key p=some (zyr gr s key p):=by
 have hr:=znK (zgT k);have hd:[key].all (zaq gr)=true:=by simp[hk]
 unfold zeX zdr;rw[zqk k hs hr rfl hd hc,zqe k hs hr rfl hd hc];exact⟨rfl,rfl⟩
def hxS:ByteArray:=⟨#[48,49,50,51,52,53,54,55,56,57,97,98,99,100,101,102]⟩
def hxC(n:Int):Int:=(ixs hxS n).getD 0
theorem zy7{n:Int}(h:0≤n∧n<16):ixs hxS n=some (hxC n):=by
 obtain⟨k,rfl⟩:=Int.eq_ofNat_of_zero_le h.1;have:∀k:Fin 16,ixs hxS (k.val:Int)=some (hxC (k.val:Int)):=by decide
 exact this ⟨k,by omega⟩
def hxD(d:Int)(k:Nat):Int:=d/16^k%16
theorem zv1(d:Int)(k:Nat):0≤hxD d k∧hxD d k<16:=by unfold hxD;omega
def hxL(d:Int):List Int:=(List.range 16).map fun i=>hxC (hxD d (15-i))
theorem zuV(l:List Int):(zcY l).size=l.length:=by
 show((l.map fun n=>UInt8.ofNat n.toNat).toArray).size=_;simp
def hxT(d:Int):ByteArray:=zcY (hxL d)
theorem znO(d:Int):(hxT d).size=16:=by unfold hxT;rw[zuV];simp[hxL]
theorem zAf(h:zaX d=true):zeE d=some (hxT d,true):=by
 have hd:=zbz.1 h;unfold zeE;rw[zlq,h,Option.bind_some];simp only[Bool.not_true,Bool.false_eq_true,if_false];rw[zbI (by omega),Option.bind_some]
 have key:=zbi (σ:=Int×List Int×Int) (β:=List Int) (step:=fun s17=>
  if decide (0≤s17.2.2)=true then(
  (ixs (⟨#[48,49,50,51,52,53,54,55,56,57,97,98,99,100,101,102]⟩:ByteArray) (s17.1.tmod 16)).bind fun x23=>
  (ix s17.2.1 s17.2.2).bind fun x24=>
  some (.go (i64.wrap (s17.1.tdiv 16),s17.2.1.set s17.2.2.toNat x23,i64.wrap (s17.2.2-1))))else(
  some (.out s17.2.1))) (s0:=(d,List.replicate 16 0,15)) (φ:=fun l=>l=hxL d) 16
  (fun j p=>p.1=d/16^j∧p.2.1.length=16∧p.2.2=15-(j:Int)∧∀i (h:i<p.2.1.length),15<i+j→p.2.1[i]=hxC (hxD d (15-i))) ⟨by simp,by simp,rfl,fun i h1 h2=>by simp at h1;omega⟩ ?_ ?_
 ·obtain⟨l,e,rfl⟩:=key;rw[e];rfl
 ·rintro j ⟨a,l,c⟩ hj ⟨rfl,h2,rfl,h4⟩;simp only at h2 h4;have hp:(0:Int)<16^j:=Int.pow_pos (by omega);have h0:0≤d/16^j:=Int.ediv_nonneg hd.1 (by omega);have h1:d/16^j≤d:=Int.ediv_le_self _ hd.1;obtain⟨i,hi,e1⟩:∃i:Nat,i<16∧15-(j:Int)=(i:Int):=⟨15-j,by omega,by omega⟩
  have hil:i<l.length:=by omega
  have e2:(d/16^j).tmod 16=hxD d j:=Int.tmod_eq_emod_of_nonneg h0
  have e3:i64.wrap ((d/16^j).tdiv 16)=d/16^(j+1):=by
   rw[Int.tdiv_eq_ediv_of_nonneg h0,zaj (by omega) (by omega),Int.ediv_ediv_of_nonneg (by omega),Int.pow_succ]
  dsimp only;rw[e1];refine zgA (by simp) (zae (by rw[e2];exact zy7 (zv1 d j)) (zae (zaY hil) (zab ⟨e3,by simpa using h2,?_,fun t ht h5=>?_⟩)))
  ·show i64.wrap ((i:Int)-1)=_;rw[zaj (by omega) (by omega)];omega
  simp only[Int.toNat_natCast,List.getElem_set];split
  ·rename_i e;subst e;have:15-i=j:=by omega
   rw[this]
  exact h4 t (by simpa using ht) (by omega)
 rintro⟨a,l,c⟩ ⟨rfl,h2,rfl,h4⟩;simp only at h2 h4;refine⟨.out l,rfl,?_⟩;refine List.ext_getElem (by simp[hxL,h2]) fun i h5 h6=>?_
 rw[h4 i h5 (by omega)];simp[hxL]
theorem zDy(hx:0≤x∧x≤9223372036854775807):i64.wrap (BitVec.ofInt IntKind.i64.bits x&&&BitVec.ofInt IntKind.i64.bits 15).toNat=x%16:=by
 obtain⟨n,rfl⟩:=Int.eq_ofNat_of_zero_le hx.1
 have h1:(BitVec.ofInt IntKind.i64.bits ((n:Nat):Int)&&&BitVec.ofInt IntKind.i64.bits 15).toNat=n%16:=by
  rw[BitVec.toNat_and]
  have a1:(BitVec.ofInt IntKind.i64.bits (n:Int)).toNat=n:=by
   rw[BitVec.toNat_ofInt];have:IntKind.i64.bits=64:=rfl;rw[this];omega
  have a2:(BitVec.ofInt IntKind.i64.bits 15).toNat=2^4-1:=by decide
  rw[a1,a2,Nat.and_two_pow_sub_one_eq_mod]
 rw[h1,zaj (by omega) (by omega)];omega
theorem zzk(h:zaX d=true):zeI d=some (hxT d,true):=by
 have hd:=zbz.1 h;unfold zeI;rw[zhX,h,Option.bind_some];simp only[Bool.not_true,Bool.false_eq_true,if_false];refine zal (zag (ψ:=fun l=>l=hxL d) (zbi 16 (fun j p=>p=((List.range j).map fun i=>hxC (hxD d (15-i)),15-(j:Int))) rfl ?_ ?_) ?_)
 ·rintro j p hj rfl;obtain⟨i,hi,e1⟩:∃i:Nat,i<16∧15-(j:Int)=(i:Int):=⟨15-j,by omega,by omega⟩
  have ei:15-j=i:=by omega
  have e4:(IntKind.u64.wrap (i64.wrap (4*(i:Int))))=((4*i:Nat):Int):=by
   rw[zaj (by omega) (by omega),wrU (by omega) (by omega)];omega
  have hm:min (4*i) IntKind.i64.bits=4*i:=Nat.min_eq_left (by show 4*i≤64;omega);have e16:(2:Int)^(4*i)=16^i:=by rw[Int.pow_mul];rfl
  have hp:(0:Int)<16^i:=Int.pow_pos (by omega);have h0:0≤d/16^i:=Int.ediv_nonneg hd.1 (by omega);have h1:d/16^i≤d:=Int.ediv_le_self _ hd.1;have ed:d.fdiv (16^i)=d/16^i:=Int.fdiv_eq_ediv_of_nonneg _ (by omega);rw[e1];refine zgA (by simp) ?_;dsimp only;rw[e4,Int.toNat_natCast,hm,e16,ed,zDy (by omega)];refine zas (by omega) (zae (zy7 (zv1 d i)) (zas (by simp;omega) (zab ?_)));show(_,_)=_;rw[List.range_succ,List.map_append,zaj (by omega) (by omega)];have e5:(i:Int)-1=15-((j+1:Nat):Int):=by omega
  rw[e5,←ei];rfl
 ·rintro p rfl;exact zbd rfl (zab rfl)
 rintro l rfl;exact zab rfl
theorem zzs(h:zaX d=true):zgG d=some (hxT d):=by
 unfold zgG;rw[zAf h];rfl
theorem zsY(hs:s.size≤1000)(h:zaX d=true):zd9 s d=some (s++hxT d):=by
 unfold zd9;rw[zzk h,Option.bind_some,zbI (by rw[znO];omega)]
def zaF(l:List Int):List Int:=(l.length:Int)::l
def zdg(p:Proof):List Int:=zaF p.Commits++zaF p.Challenges++zaF p.Responses
theorem zml(h:l.length≤10000000):zcF l=some (zaF l):=by
 unfold zcF;rw[zbI (by simp;omega)];rfl
def za5(l:List Int):Bool:=decide ((l.length:Int)≤400)&&l.all zaX
theorem zfW(l:List Int):zcU l=some (za5 l):=by
 unfold zcU
 have h1:za0 l=some (l.all zaX):=zi6 (f:=zaK) fun x _=>by
  unfold zaK;rw[zhX];rfl
 rw[h1,Option.bind_some,ziq];rfl
theorem zk2(l:List Int):zdO l=some (if za5 l=true then(l,true)else([],false)):=by
 unfold zdO;rw[zfW];cases za5 l<;>rfl
theorem zqy{p:Proof}(h1:p.Commits.length≤1048576)(h2:p.Challenges.length≤1048576)(h3:p.Responses.length≤1048576):zeg p=some (if za5 (zdg p)=true then(zdg p,true)else([],false)):=by
 have e:[zaF p.Commits,zaF p.Challenges,zaF p.Responses].flatten=zdg p:=by simp[zdg]
 unfold zeg;rw[zml (by omega),Option.bind_some,zml (by omega),Option.bind_some,zml (by omega),Option.bind_some,zmv _ (by rw[e];simp[zdg,zaF];omega),Option.bind_some,e,zk2];cases za5 (zdg p)<;>rfl
theorem zzP{β:Type}{f:Nat→Option β}{b:β}(h:f n=some b)(mono:∀n b,f n=some b→f (n+1)=some b):zpr f=some b:=by
 obtain⟨b',m,h1,h2⟩:=zzY h
 have up:∀k n b,f n=some b→f (n+k)=some b:=by
  intro k;induction k with
  |zero=>intro n b h;exact h
  |succ k ih=>intro n b h;exact mono _ _ (ih n b h)
 have a:=up m n b h;have c:=up n m b' h2;rw[Nat.add_comm m n,a]at c;cases c;exact h1
theorem zxL(l:List Int):za0 l=some (l.all zaX):=zi6 (f:=zaK) fun x _=>by
 unfold zaK;rw[zhX];rfl
theorem zwa(l:List Int):zej l 0 4611686018427387903=some (l.all zaX):=zpH l _ _
def zjz(kind author:Int)(data:List Int):Bool:=inB 1 9 kind&&(inB 0 39 author&&(decide ((data.length:Int)≤380)&&data.all zaX))
abbrev zAy:ByteArray:=⟨#[101,110,116,114,121]⟩
abbrev zvq:ByteArray:=⟨#[101,110,116,114,121,32]⟩
def eD(kind author at_:Int)(data:List Int):Int:=zi1 zAy ([kind,author,at_]++data)
theorem zyd(e:Entry):zf7 e=some (zjz e.Kind e.Author e.Data):=by
 unfold zf7 zjz;simp only[zqJ,zwa,Option.bind_some,ziq]
theorem zyw(kind author:Int)(data:List Int):zd0 kind author data=some (zjz kind author data):=by
 unfold zd0 zjz;simp only[zkG,zxL,Option.bind_some,ziq]
theorem zto{kind author:Int}{data:List Int}(h:zjz kind author data=true)(hi:0≤i∧i≤63):([kind,author,i]++data).all zaX=true∧data.length≤380:=by
 simp only[zjz,Bool.and_eq_true,decide_eq_true_eq,ze7]at h;obtain⟨h1,h2,h3,h4⟩:=h;refine⟨?_,by omega⟩;rw[List.all_append,h4,Bool.and_true];simp only[List.all_cons,List.all_nil,Bool.and_true,Bool.and_eq_true];exact⟨zbz.2 (by omega),zbz.2 (by omega),zbz.2 (by omega)⟩
theorem zv4(h:zjz e.Kind e.Author e.Data=true)(hi:0≤i∧i≤63):zfM e i=some (eD e.Kind e.Author i e.Data):=by
 obtain⟨h1,h2⟩:=zto h hi;unfold zfM;rw[zbI (by simp only[List.length_cons,List.length_nil];omega),zkl (s:=zAy) (by decide) (by simp only[List.length_append,List.length_cons,List.length_nil];omega) h1];rfl
theorem zqB(kind author i:Int){data:List Int}(hl:data.length≤1048576):zek kind author i data=some (if(zjz kind author data&&inB 0 63 i)=true then(eD kind author i data,true)else(0,false)):=by
 unfold zek;simp only[zyw,zkG,Option.bind_some,zeG];cases hp:zjz kind author data with
 |false=>rfl
 |true=>
  cases hi:inB 0 63 i with
  |false=>rfl
  |true=>
   obtain⟨h1,h2⟩:=zto hp (ze7.1 hi);simp only[Bool.not_true,Bool.or_self,Bool.false_eq_true,if_false,Bool.and_self,if_true];rw[zbI (by simp only[List.length_cons,List.length_nil];omega),zis,if_pos]
   ·rfl
   ·simp only[zh8,h1,Bool.and_true,Bool.and_eq_true,decide_eq_true_eq,List.length_append,List.length_cons,List.length_nil];exact⟨by decide,by show 1+5+_≤400;omega⟩
def znI(gr:Group)(key i:Int)(e:Entry):Bool:=zjz e.Kind e.Author e.Data&&zyr gr (zvq++hxT (eD e.Kind e.Author i e.Data)) key e.Sign
def ziJ(p:Proof):Prop:=p.Commits.length≤1048576∧p.Challenges.length≤1048576∧p.Responses.length≤1048576
def zj6(e:Entry):Prop:=e.Data.length≤1048576∧ziJ e.Sign
def zgN(b:Board):Prop:=b.Keys.length≤1048576∧b.Entries.length≤1048576∧∀e∈b.Entries,zj6 e
theorem zx2(s:ByteArray)(d:Int):(s++hxT d).size=s.size+16:=by rw[ByteArray.size_append,znO]
theorem zwL(k:OkG gr){key:Int}(hk:zaq gr key=true)(hi:0≤i∧i≤63)(hl:zj6 e):zfs gr key i e=some (znI gr key i e)∧zdG gr key i e=some (znI gr key i e):=by
 unfold zfs zdG zhl;rw[zyd,zqB _ _ _ hl.1];cases hp:zjz e.Kind e.Author e.Data with
 |false=>simp[znI,hp]
 |true=>
  have hd:zaX (eD e.Kind e.Author i e.Data)=true:=zla _ _;have hs:(zvq++hxT (eD e.Kind e.Author i e.Data)).size≤40:=by rw[zx2];decide
  obtain⟨s1,s2⟩:=zyA k hs hk hl.2.1;rw[ze7.2 hi,zv4 hp hi];simp only[Bool.and_self,if_true,Option.bind_some];rw[zzs hd,Option.bind_some,zbI (by rw[znO];decide),Option.bind_some,show zd9 (⟨#[101,110,116,114,121,32]⟩:ByteArray) (eD e.Kind e.Author i e.Data)=some (zvq++hxT (eD e.Kind e.Author i e.Data))from zsY (by decide) hd];simp only[Option.bind_some];rw[show zeX gr ((⟨#[101,110,116,114,121,32]⟩:ByteArray)++hxT (eD e.Kind e.Author i e.Data)) key e.Sign=_ from s1,s2];simp[znI,hp]
noncomputable def zpJ(gr:Group)(b:Board):Bool:=
 !(decide (40<(b.Keys.length:Int))||(!b.Keys.all (zaq gr)||decide (64<(b.Entries.length:Int))))&&
 (List.range b.Entries.length).all fun i=> !(!inB 0 ((b.Keys.length:Int)-1) (b.Entries.getD i ⟨0,0,[],⟨[],[],[]⟩⟩).Author|| !znI gr (b.Keys.getD (b.Entries.getD i ⟨0,0,[],⟨[],[],[]⟩⟩).Author.toNat 0) i (b.Entries.getD i ⟨0,0,[],⟨[],[],[]⟩⟩))
theorem zCU{α:Type}{l:List α}(h0:0≤i)(h:i<l.length):ix l i=some (l[i.toNat]'(by omega)):=by
 obtain⟨k,rfl⟩:=Int.eq_ofNat_of_zero_le h0;exact zaY (by omega)
theorem zps(k:OkG gr){b:Board}(hl:zgN b):zgb gr b=some (zpJ gr b)∧zdC gr b=some (zpJ gr b):=by
 obtain⟨l1,l2,l3⟩:=hl
 have ek:zdD gr b.Keys=some (!(decide (40<(b.Keys.length:Int))|| !b.Keys.all (zaq gr))):=by
  unfold zdD;rw[zk5 k,Option.bind_some,ziq,Option.bind_some];by_cases h:(b.Keys.length:Int)≤40
  ·have:¬40<(b.Keys.length:Int):=by omega
   simp[h,this]
  ·have:40<(b.Keys.length:Int):=by omega
   simp[h,this]
 unfold zgb zdC zpJ;simp only[zoC k,ek,Option.bind_some,zeG];rw[show(!(!(decide (40<(b.Keys.length:Int))|| !b.Keys.all (zaq gr)))||decide (64<(b.Entries.length:Int)))=(decide (40<(b.Keys.length:Int))||(!b.Keys.all (zaq gr)||decide (64<(b.Entries.length:Int))))by rw[Bool.not_not,Bool.or_assoc]];cases hg:(decide (40<(b.Keys.length:Int))||(!b.Keys.all (zaq gr)||decide (64<(b.Entries.length:Int))))with
 |true=>exact⟨rfl,rfl⟩
 |false=>
  simp only[Bool.or_eq_false_iff,decide_eq_false_iff_not,Bool.not_eq_false']at hg;obtain⟨g1,g2,g3⟩:=hg;simp only[Bool.false_eq_true,if_false,Bool.not_false,Bool.true_and];have w:i64.wrap ((b.Keys.length:Int)-1)=(b.Keys.length:Int)-1:=zaj (by omega) (by omega);constructor
  all_goals
   rw[zjJ (fun i=> !(!inB 0 ((b.Keys.length:Int)-1) (b.Entries.getD i ⟨0,0,[],⟨[],[],[]⟩⟩).Author|| !znI gr (b.Keys.getD (b.Entries.getD i ⟨0,0,[],⟨[],[],[]⟩⟩).Author.toNat 0) i (b.Entries.getD i ⟨0,0,[],⟨[],[],[]⟩⟩))) false true]
   ·simp only[Bool.if_true_left,Bool.if_false_right,Bool.and_true,Bool.decide_eq_true,Bool.or_false]
   ·intro i hi;have he:b.Entries.getD i ⟨0,0,[],⟨[],[],[]⟩⟩=b.Entries[i]:=by simp[hi]
    rw[zaY hi,Option.bind_some,he,w];simp only[zqJ,zkG,Option.bind_some];cases ha:inB 0 ((b.Keys.length:Int)-1) b.Entries[i].Author with
    |false=>rfl
    |true=>
     have ha:=ze7.1 ha;have hal:b.Entries[i].Author.toNat<b.Keys.length:=by omega
     have hx:=List.all_eq_true.1 g2 _ (List.getElem_mem hal);have ha2:=zwL k hx (i:=(i:Int)) (by omega) (l3 _ (List.getElem_mem hi));have hk:b.Keys.getD b.Entries[i].Author.toNat 0=b.Keys[b.Entries[i].Author.toNat]:=by simp[hal]
     rw[zCU ha.1 (by omega),hk];simp only[Bool.not_true,Bool.false_eq_true,if_false,Option.bind_some,ha2.1,ha2.2,Bool.false_or,Bool.not_not];cases znI gr (b.Keys[b.Entries[i].Author.toNat]) (i:Int) b.Entries[i]<;>rfl
theorem zuj(gr:Group){b:Board}(hl:zgN b):zev gr b=some (okG gr&&(okG gr&&zpJ gr b)):=by
 unfold zev;rw[zro];cases hg:okG gr with
 |false=>rfl
 |true=>simp only[Option.bind_some,if_true,(zps (zly.1 hg) hl).2,Bool.true_and]
def Szs(e:Option Int):Prop:=∃z,z≤1048576∧e=some z
theorem zhz{e:Option Int}{f:Int→Option Int}(h:Szs e)(hf:∀z,0≤z→z≤1048576→Szs (f z)):Szs (e.bind fun z=>if decide (z<0)=true then some (-1)else f z):=by
 obtain⟨z,h1,rfl⟩:=h;rw[Option.bind_some];by_cases h:z<0
 ·rw[if_pos (by simpa using h)];exact⟨-1,by omega,rfl⟩
 rw[if_neg (by simpa using h)];exact hf z (by omega) h1
theorem znH{z:Int}(h:z≤1048576):Szs (some z):=⟨z,h,rfl⟩
theorem zor{n:Int}(h0:0≤n)(h1:n≤1048576)(hl:l.length≤1048576):Szs (zcD l n):=by
 obtain⟨z,h,h2⟩:=zyu h0 h1 hl;exact⟨z,h2,h⟩
theorem zEY{p:Proof}(hl:ziJ p){n:Int}(h0:0≤n)(h1:n≤1048576):Szs (zgZ p n):=
 zhz (zor h0 h1 hl.1) fun z a b=>zhz (zor a b hl.2.1) fun z a b=>zhz (zor a b hl.2.2) fun z a b=>znH b
theorem zCT(hl:zj6 e){n:Int}(h0:0≤n)(h1:n≤1048576):Szs (zg2 e n):=
 zhz (zor h0 h1 hl.1) fun z a b=>zhz (zEY hl.2 a b) fun z a b=>znH b
theorem zxs{α:Type}{l:List α}{f:α→Int→Option Int}{n:Int}(h0:0≤n)(h1:n≤1048576)(hl:l.length≤1048576)(hf:∀x∈l,∀z,0≤z→z≤1048576→Szs (f x z)):
 Szs (if decide ((i64.wrap (n-(l.length:Int)))<0)=true then(some (-1))else(
  ((zax (σ:=Int×Int) (fun s5=>
  if decide (s5.2<(l.length:Int))=true then(
  (ix l s5.2).bind fun x11=>
  (f x11 s5.1).bind fun z12=>
  if decide (z12<0)=true then(
  some (.out (.inr (-1))))else(
  some (.go (z12,i64.wrap (s5.2+1)))))else(
  some (.out (.inl s5.1)))) (i64.wrap (n-(l.length:Int)),0):Option (Int ⊕ Int)).bind (Sum.elim (fun x4=>
  some x4) some)))):=by
 rw[zaj (by omega) (by omega)];by_cases h:n-(l.length:Int)<0
 ·rw[if_pos (by simpa using h)];exact⟨-1,by omega,rfl⟩
 rw[if_neg (by simpa using h)]
 obtain⟨z,e,hz⟩:=zzV (step:=fun s5:Int×Int=>
  if decide (s5.2<(l.length:Int))=true then(
  (ix l s5.2).bind fun x11=>
  (f x11 s5.1).bind fun z12=>
  if decide (z12<0)=true then(
  some (Stp.out (.inr (-1))))else(
  some (.go (z12,i64.wrap (s5.2+1)))))else(
  some (.out (.inl s5.1)))) (a0:=n-(l.length:Int)) l.length (by omega) (fun k a hk a0 a1=>by
   obtain⟨z,hz,e⟩:=hf _ (List.getElem_mem hk) a a0 a1;refine⟨z,hz,?_⟩
   rw[if_pos (by simpa using hk),zaY hk,Option.bind_some,e,Option.bind_some,inc (by omega)]) (fun a=>by simp)
 exact⟨z,hz,e⟩
theorem zEc{b:Board}(hl:zgN b){n:Int}(h0:0≤n)(h1:n≤1048576):Szs (zgQ b n):=
 zhz (zor h0 h1 hl.1) fun z a c=>zhz (zxs a c hl.2.1 fun e he z a b=>zCT (hl.2.2 e he) a b) fun z a b=>znH b
theorem zI0{p:Proof}(hl:ziJ p):zfE p=some p:=by
 unfold zfE;rw[zjt hl.1,zjt hl.2.1,zjt hl.2.2];rfl
theorem zKW(hl:zj6 e):zfL e=some e:=by
 unfold zfL;rw[zjt hl.1,zI0 hl.2];rfl
theorem zzd{α:Type}{l:List α}{d:α}{f:α→Option α}(hc:1≤c∧c≤1000)(hl:l.length≤1048576)(hf:∀x∈l,f x=some x):
 (gd (0≤(l.length:Int)∧(l.length:Int)≤(l.length:Int)∧c*(l.length:Int)≤140737488355328∧(l.length:Int)≤4611686018427387904)<|
 (some (List.replicate l.length d)).bind fun x1=>
 ((zax (σ:=(List α)×Int) (fun s16=>
 if decide (s16.2<(l.length:Int))=true then(
 (ix l s16.2).bind fun x22=>
 (f x22).bind fun z23=>
 (ix s16.1 s16.2).bind fun x24=>
 some (.go (s16.1.set s16.2.toNat z23,i64.wrap (s16.2+1))))else(
 some (.out s16.1))) (x1,0):Option ((List α))).bind fun x6=>
 some x6))=some l:=by
 have h:c*(l.length:Int)≤1000*1048576:=Int.mul_le_mul hc.2 (by omega) (by omega) (by omega);rw[zbI (by omega),Option.bind_some,zzu,Option.bind_some]
 ·intro k hk r hr;have h2:k<r.length:=by omega
  rw[if_pos (by simpa using hk),zaY hk,Option.bind_some,hf _ (List.getElem_mem hk),Option.bind_some,zaY h2,Option.bind_some,inc (by omega)];rfl
 intro r;simp
theorem zE0{l:List Entry}(hl:l.length≤1048576)(hw:∀e∈l,zj6 e):zgm l=some l:=zzd (c:=112) (by omega) hl fun e he=>zKW (hw e he)
theorem zGS{b:Board}(hl:zgN b):zdl b=some b:=by
 unfold zdl;rw[zjt hl.1,zE0 hl.2.1 hl.2.2];rfl
theorem zLb{p:Proof}(hl:ziJ p):zfF p p=some true:=by
 unfold zfF;rw[ziD hl.1,ziD hl.2.1,ziD hl.2.2];rfl
theorem zJK(hl:zj6 e):zfN e e=some true:=by
 unfold zfN;rw[if_neg (by simp),if_neg (by simp),ziD hl.1,zLb hl.2];rfl
theorem zAh{α:Type}{l:List α}{f:α→α→Option Bool}(hl:l.length≤1048576)(hf:∀x∈l,f x x=some true):
 (if((l.length:Int) !=(l.length:Int))=true then(
 some false)else(
 ((zax (σ:=Int) (fun s5=>
 if decide (s5<(l.length:Int))=true then(
 (ix l s5).bind fun x11=>
 (ix l s5).bind fun x12=>
 (f x11 x12).bind fun z13=>
 if(!z13)=true then(
 some (.out (.inr false)))else(
 some (.go (i64.wrap (s5+1)))))else(
 some (.out (.inl ())))) 0:Option (Unit ⊕ Bool)).bind (Sum.elim (fun x4=>
 some true) some))))=some true:=by
 rw[if_neg (by simp),zBG l.length]
 ·rfl
 ·intro k hk;rw[if_pos (by simpa using hk),zaY hk,Option.bind_some,Option.bind_some,hf _ (List.getElem_mem hk),inc (by omega)];rfl
 simp
theorem zKC{b:Board}(hl:zgN b):zfC b b=some true:=by
 unfold zfC;rw[ziD hl.1,show zgo b.Entries b.Entries=some true from zAh hl.2.1 fun e he=>zJK (hl.2.2 e he)];rfl
theorem zCO{l:List Entry}(ha:1≤a∧a≤1000000000000)(hl:l.length≤1048576)(hw:∀e∈l,zj6 e):∃z,zc6 l a=some z∧1≤z.1∧z.1≤1000000000000000:=by
 unfold zc6
 have key:=zzF (l:=l) (a0:=a) (K:=10000000) (step:=fun s15=>
  if decide (s15.2.2<(s15.1.length:Int))=true then(
  (ix s15.1 s15.2.2).bind fun x21=>
  (zaL x21.Data (i64.wrap ((i64.wrap (s15.2.1+1))+1))).bind fun z22=>
  (zaL x21.Sign.Commits z22.1).bind fun z23=>
  (zaL x21.Sign.Challenges z23.1).bind fun z24=>
  (zaL x21.Sign.Responses z24.1).bind fun z25=>
  some (.go ((((((s15.1.set s15.2.2.toNat (Entry.mk s15.2.1 x21.Author x21.Data x21.Sign)).set s15.2.2.toNat (Entry.mk s15.2.1 (i64.wrap (s15.2.1+1)) x21.Data x21.Sign)).set s15.2.2.toNat (Entry.mk s15.2.1 (i64.wrap (s15.2.1+1)) z22.2 x21.Sign)).set s15.2.2.toNat (Entry.mk s15.2.1 (i64.wrap (s15.2.1+1)) z22.2 (Proof.mk z23.2 x21.Sign.Challenges x21.Sign.Responses))).set s15.2.2.toNat (Entry.mk s15.2.1 (i64.wrap (s15.2.1+1)) z22.2 (Proof.mk z23.2 z24.2 x21.Sign.Responses))).set s15.2.2.toNat (Entry.mk s15.2.1 (i64.wrap (s15.2.1+1)) z22.2 (Proof.mk z23.2 z24.2 z25.2)),z25.1,i64.wrap (s15.2.2+1))))else(
  some (.out (s15.1,s15.2.1)))) zj6 hw (by omega) ha.1 ?_ ?_
 ·obtain⟨z,h1,h2,h3,_⟩:=key;rw[h1,Option.bind_some];have h4:(l.length:Int)*10000000≤1048576*10000000:=Int.mul_le_mul (by omega) (Int.le_refl _) (by omega) (by omega);exact⟨_,rfl,h2,by show z.2≤_;omega⟩
 ·intro k r a' hk hr hP h1 h2;have hk2:(k:Int)*10000000≤1048576*10000000:=Int.mul_le_mul (by omega) (Int.le_refl _) (by omega) (by omega);obtain⟨c0,c1,c2,c3⟩:=hP;obtain⟨m,m1,m2,_⟩:=zjr r[k].Data (a'+1+1) (by omega) (by omega) c0;obtain⟨n,n1,n2,_⟩:=zjr r[k].Sign.Commits (a'+1+1+r[k].Data.length) (by omega) (by omega) c1;obtain⟨o,o1,o2,_⟩:=zjr r[k].Sign.Challenges (a'+1+1+r[k].Data.length+r[k].Sign.Commits.length) (by omega) (by omega) c2;obtain⟨p,p1,p2,_⟩:=zjr r[k].Sign.Responses (a'+1+1+r[k].Data.length+r[k].Sign.Commits.length+r[k].Sign.Challenges.length) (by omega) (by omega) c3;refine⟨⟨a',a'+1,m,⟨n,o,p⟩⟩,a'+1+1+r[k].Data.length+r[k].Sign.Commits.length+r[k].Sign.Challenges.length+r[k].Sign.Responses.length,?_,⟨by show m.length≤_;omega,by show n.length≤_;omega,by show o.length≤_;omega,by show p.length≤_;omega⟩,?_,?_⟩
  ·dsimp only;rw[if_pos (by simpa using hk),zaY hk,Option.bind_some,zaj (n:=a'+1) (by omega) (by omega),zaj (n:=a'+1+1) (by omega) (by omega),m1,Option.bind_some,n1,Option.bind_some,o1,Option.bind_some,p1,Option.bind_some,inc (by omega)];simp
  ·omega
  omega
 intro r a hr;simp[hr]
theorem zHC{b:Board}(hl:zgN b):∃z,zdn b 1=some z∧1≤z∧z≤1000000000000000:=by
 obtain⟨c1,c2,c3⟩:=hl;unfold zdn;obtain⟨n,n1,n2,_⟩:=zjr b.Keys 1 (by omega) (by omega) c1;obtain⟨z,e,h1,h2⟩:=zCO (a:=1+b.Keys.length) (by omega) c2 c3;rw[n1,Option.bind_some,e,Option.bind_some];exact⟨_,rfl,h1,h2⟩
theorem zzq{e:Option Int}{f:Int→Option Bool}(h:Szs e)(hf:∀z,0≤z→z≤1048576→f z=some true):(e.bind fun z=>if decide (z<0)=true then some true else f z)=some true:=by
 obtain⟨z,h1,rfl⟩:=h;rw[Option.bind_some];by_cases h:z<0
 ·rw[if_pos (by simpa using h)]
 rw[if_neg (by simpa using h)];exact hf z (by omega) h1
theorem zoK(a b c d e:Int):zdz [a,b,c,d,e]=some (if okC ⟨a,b,c,d,e⟩=true then(⟨a,b,c,d,e⟩,true)else(⟨0,0,0,0,0⟩,false))∧zcL [a,b,c,d,e]=some (if okC ⟨a,b,c,d,e⟩=true then(⟨a,b,c,d,e⟩,true)else(⟨0,0,0,0,0⟩,false)):=by
 unfold zdz zcL;simp only[show((([a,b,c,d,e]:List Int).length:Int) !=5)=false from rfl,Bool.false_eq_true,if_false,show ix [a,b,c,d,e] 0=some a from rfl,show ix [a,b,c,d,e] 1=some b from rfl,show ix [a,b,c,d,e] 2=some c from rfl,show ix [a,b,c,d,e] 3=some d from rfl,show ix [a,b,c,d,e] 4=some e from rfl,Option.bind_some,zhq,zkZ];cases okC ⟨a,b,c,d,e⟩<;>exact⟨rfl,rfl⟩
theorem zpO(h:l.length≠5):zcL l=some (⟨0,0,0,0,0⟩,false):=by
 unfold zcL;rw[if_pos (by simp;omega)]
theorem zIH(h:l.length=9):∃a b c d e f g i j,l=[a,b,c,d,e,f,g,i,j]:=by
 match l,h with
 |[a,b,c,d,e,f,g,i,j],_=>exact⟨a,b,c,d,e,f,g,i,j,rfl⟩
theorem zsx(p:Plan):ze8 p=zfm p:=rfl
theorem zxv(hg:okG gr=true){b:Board}(hl:zgN b)(hb:zpJ gr b=true):∃p t o,zeq gr b=some (p,t)∧zbK gr b=some (o,t)∧(t=true→(o.Threshold=p.Threshold∧o.Trustees=p.Trustees∧p.Gr=gr∧1≤p.Threshold∧p.Threshold≤p.Trustees∧p.Trustees≤4)∧zc7 p=some true∧zeB gr o=some p):=by
 have k:=zly.1 hg;unfold zeq zbK;simp only[zgI,hg,(zps k hl).1,hb,Option.bind_some,Bool.not_true,Bool.false_eq_true,if_false];cases he:((b.Entries.length:Int)==0)with
 |true=>exact⟨_,false,_,rfl,rfl,fun h=>by cases h⟩
 |false=>
  have h0:0<b.Entries.length:=by simp at he;exact List.length_pos_iff.2 he
  have hd:=(hl.2.2 _ (List.getElem_mem h0)).1;simp only[Bool.false_eq_true,if_false,zaY h0,show((0:Nat):Int)=0 from rfl,show ix b.Entries 0=some b.Entries[0]from zaY h0,Option.bind_some,zeG];generalize b.Entries[0]=e at hd⊢;cases h1:(e.Kind !=1)with
  |true=>exact⟨_,false,_,rfl,rfl,fun h=>by cases h⟩
  |false=>
   cases h2:(e.Author !=0)with
   |true=>exact⟨_,false,_,rfl,rfl,fun h=>by cases h⟩
   |false=>
    simp only[Bool.false_or];by_cases h9:e.Data.length=9
    ·obtain⟨a,b',c,d,e',f,g,i,j,hd9⟩:=zIH h9;rw[hd9];obtain⟨c1,c2⟩:=zoK a b' c d e';have w:i64.wrap (((([a,b',c,d,e',f,g,i,j]:List Int).length:Nat):Int)-4)=5:=rfl;simp only[w]
     simp only[show((([a,b',c,d,e',f,g,i,j]:List Int).length:Int) !=9)=false from rfl,show decide ((5:Int)<0)=false from rfl,Bool.false_eq_true,if_false,zbI (show(0:Int)≤5 by omega),zbI (show 0≤(5:Int).toNat∧(5:Int).toNat≤([a,b',c,d,e',f,g,i,j]:List Int).length by simp),zbI (show 0≤5∧5≤([a,b',c,d,e',f,g,i,j]:List Int).length by simp),
      zbI (show(5:Int).toNat≤([a,b',c,d,e',f,g,i,j]:List Int).length∧([a,b',c,d,e',f,g,i,j]:List Int).length≤([a,b',c,d,e',f,g,i,j]:List Int).length by simp),
      show(List.take (5:Int).toNat [a,b',c,d,e',f,g,i,j]).drop 0=[a,b',c,d,e']from rfl,show(List.take 5 [a,b',c,d,e',f,g,i,j]).drop 0=[a,b',c,d,e']from rfl,show(List.take ([a,b',c,d,e',f,g,i,j]:List Int).length [a,b',c,d,e',f,g,i,j]).drop (5:Int).toNat=[f,g,i,j]from rfl,
      show ix [f,g,i,j] 0=some f from rfl,show ix [f,g,i,j] 1=some g from rfl,show ix [f,g,i,j] 2=some i from rfl,show ix [f,g,i,j] 3=some j from rfl,
      show ix [a,b',c,d,e',f,g,i,j] 5=some f from rfl,show ix [a,b',c,d,e',f,g,i,j] 6=some g from rfl,show ix [a,b',c,d,e',f,g,i,j] 7=some i from rfl,show ix [a,b',c,d,e',f,g,i,j] 8=some j from rfl,c1,c2,Option.bind_some,zsx]
     cases hc:okC ⟨a,b',c,d,e'⟩with
     |false=>exact⟨_,false,_,rfl,rfl,fun h=>by cases h⟩
     |true=>
      obtain⟨t,p1,p2,p3⟩:=zv6 ⟨gr,⟨a,b',c,d,e'⟩,f,g,i,j,0⟩;simp only[if_true,Bool.not_true,Bool.false_eq_true,if_false,p1,show zeB gr ⟨⟨a,b',c,d,e'⟩,f,g,i,j⟩=some ⟨gr,⟨a,b',c,d,e'⟩,f,g,i,j,0⟩from rfl,p2,Option.bind_some];cases t with
      |false=>exact⟨_,false,_,rfl,rfl,fun h=>by cases h⟩
      |true=>
       unfold zfm;simp only[if_true,Bool.not_true,Bool.false_eq_true,if_false,Option.bind_some];generalize i64.wrap (i64.wrap (i64.wrap (1+g)+i)+j)=n;obtain⟨_,_,_,q,_⟩:=p3 rfl;by_cases hn:n=(b.Keys.length:Int)
       ·subst hn;exact⟨⟨gr,⟨a,b',c,d,e'⟩,f,g,i,j,0⟩,true,⟨⟨a,b',c,d,e'⟩,f,g,i,j⟩,by simp,by simp,fun _=>⟨⟨rfl,rfl,rfl,q.1,q.2.1,q.2.2⟩,p1,rfl⟩⟩
       ·have hn':¬(b.Keys.length:Int)=n:=fun h=>hn h.symm
        exact⟨⟨gr,⟨a,b',c,d,e'⟩,f,g,i,j,0⟩,false,⟨⟨0,0,0,0,0⟩,0,0,0,0⟩,by simp[hn],by simp[hn'],fun h=>by cases h⟩
    ·have h9':((e.Data.length:Int) !=9)=true:=by simp;omega
     simp only[h9',if_true];by_cases h4:e.Data.length<4
     ·have:decide (i64.wrap ((e.Data.length:Int)-4)<0)=true:=by
       rw[zaj (by omega) (by omega)];simp;omega
      simp only[this,if_true,Option.bind_some];exact⟨_,false,_,rfl,rfl,fun h=>by cases h⟩
     ·obtain⟨n,hn⟩:∃n:Nat,e.Data.length=n+4:=⟨e.Data.length-4,by omega⟩
      have w:i64.wrap ((e.Data.length:Int)-4)=(n:Int):=ceq (by omega) (by omega);have hl2:(e.Data.drop n).length=4:=by simp;omega
      have hi:∀q:Nat,q<4→∃x,ix (e.Data.drop n) (q:Int)=some x:=fun q hq=>⟨_,zaY (by omega)⟩
      obtain⟨x0,i0⟩:=hi 0 (by omega);obtain⟨x1,i1⟩:=hi 1 (by omega);obtain⟨x2,i2⟩:=hi 2 (by omega);obtain⟨x3,i3⟩:=hi 3 (by omega);have v:=zpO (l:=(e.Data.take n).drop 0) (by simp;omega);simp only[w,show decide ((n:Int)<0)=false by simp,Bool.false_eq_true,if_false,zbI (show(0:Int)≤(n:Int)by omega),Int.toNat_natCast,zbI (show 0≤n∧n≤e.Data.length by omega),zbI (show n≤e.Data.length∧e.Data.length≤e.Data.length by omega),v,List.take_length,show ix (e.Data.drop n) 0=some x0 from i0,show ix (e.Data.drop n) 1=some x1 from i1,show ix (e.Data.drop n) 2=some x2 from i2,show ix (e.Data.drop n) 3=some x3 from i3,Option.bind_some];exact⟨_,false,_,rfl,rfl,fun h=>by cases h⟩
def zeM(gr:Group)(o l:List Int):List Int:=List.zipWith (fun x y=>zc4 gr [x,y]) o l
theorem zwH(gr:Group)(z x y:Int):zc4 gr [zc4 gr [z,x],y]=zc4 gr [zc4 gr [z,y],x]:=by
 have e:∀a b:Int,a%gr.P*b%gr.P=a*b%gr.P:=fun a b=>by rw[Int.mul_emod,Int.emod_emod_of_dvd _ (Int.dvd_refl _),←Int.mul_emod]
 have h:∀a b:Int,zc4 gr [a,b]=a*b%gr.P:=fun a b=>by
  show 1*a%gr.P*b%gr.P=a*b%gr.P;rw[e,Int.one_mul]
 rw[h,h,h,h,e,e,Int.mul_assoc,Int.mul_comm x y,←Int.mul_assoc]
theorem zwJ(gr:Group):∀z x y:List Int,zeM gr (zeM gr z x) y=zeM gr (zeM gr z y) x:=by
 intro z;induction z with
 |nil=>intro x y;cases x<;>cases y<;>rfl
 |cons a z ih=>
  intro x y;cases x with
  |nil=>cases y<;>rfl
  |cons b x=>
   cases y with
   |nil=>rfl
   |cons c y=>
    show zc4 gr [zc4 gr [a,b],c]::zeM gr (zeM gr z x) y=zc4 gr [zc4 gr [a,c],b]::zeM gr (zeM gr z y) x;rw[zwH,ih]
theorem zuF{α β:Type}{f:β→α→β}(hf:∀z x y,f (f z x) y=f (f z y) x){l l':List α}(h:l.Perm l'):∀z,l.foldl f z=l'.foldl f z:=by
 induction h with
 |nil=>intro z;rfl
 |cons x _ ih=>intro z;exact ih _
 |swap x y l=>intro z;simp only[List.foldl_cons];rw[hf]
 |trans _ _ h1 h2=>intro z;rw[h1,h2]
def zhY{α:Type}(f:α→Int)(L:List α)(T:Nat):List α:=(List.range T).flatMap fun i=>L.filter fun e=>f e==((i+1:Nat):Int)
theorem zuT{α:Type}(f:α→Int):∀(T:Nat) (L:List α),(∀e∈L,1≤f e∧f e≤(T:Int))→L.Perm (zhY f L T):=by
 intro T;induction T with
 |zero=>
  intro L h;cases L with
  |nil=>exact .refl _
  |cons e L=>have:=h e (by simp);omega
 |succ T ih=>
  intro L h;have h1:=(List.filter_append_perm (fun e=>decide (f e≤(T:Int))) L).symm;refine h1.trans ?_;unfold zhY;rw[List.range_succ,List.flatMap_append];refine List.Perm.append ?_ ?_
  ·refine(ih _ fun e he=>?_).trans (List.Perm.of_eq ?_)
   ·have h2:=List.mem_filter.1 he;have:=h e h2.1;exact⟨this.1,by simpa using h2.2⟩
   ·unfold zhY;rw[List.flatMap_def,List.flatMap_def];congr 1;refine List.map_congr_left fun i hi=>?_
    have hi':=List.mem_range.1 hi;rw[List.filter_filter];refine List.filter_congr fun e he=>?_
    by_cases h3:f e=((i+1:Nat):Int)
    ·simp[h3];omega
    ·simp[h3];omega
  ·refine List.Perm.of_eq ?_;simp only[List.flatMap_cons,List.flatMap_nil,List.append_nil];refine List.filter_congr fun e he=>?_
   have h3:=h e he;by_cases h4:f e=((T+1:Nat):Int)
   ·simp[h4];omega
   ·have:f e≤(T:Int):=by omega
    simp[this];omega
theorem zwr{α:Type}(f:α→Int)(L:List α):∀(T:Nat),(∀i,i<T→(L.filter fun e=>f e==((i+1:Nat):Int)).length≤1)→(zhY f L T).length≤T∧((zhY f L T).length=T→∀i,i<T→(L.filter fun e=>f e==((i+1:Nat):Int)).length=1):=by
 intro T;induction T with
 |zero=>intro _;exact⟨Nat.le_refl _,fun _ i hi=>absurd hi (by omega)⟩
 |succ T ih=>
  intro h;obtain⟨h1,h2⟩:=ih fun i hi=>h i (by omega)
  have e:(zhY f L (T+1)).length=(zhY f L T).length+(L.filter fun e=>f e==((T+1:Nat):Int)).length:=by
   unfold zhY;rw[List.range_succ,List.flatMap_append,List.length_append];simp
  have h3:=h T (by omega);refine⟨by omega,fun h4 i hi=>?_⟩;rcases Nat.lt_or_ge i T with h5|h5
  ·exact h2 (by omega) i h5
  ·have:i=T:=by omega
   subst this;omega
theorem zwI{α:Type}(f:α→Int)(t:Int):∀(L:List α),(L.map f).Nodup→(L.filter fun e=>f e==t).length≤1:=by
 intro L;induction L with
 |nil=>intro _;simp
 |cons a L ih=>
  intro h;rw[List.map_cons,List.nodup_cons]at h;by_cases h1:f a=t
  ·have:(L.filter fun e=>f e==t)=[]:=by
    rw[List.filter_eq_nil_iff];intro e he h2;have h2:f e=t:=by simpa using h2
    exact h.1 (by rw[h1,←h2];exact List.mem_map_of_mem he)
   simp[List.filter_cons,h1,this]
  ·simpa[List.filter_cons,h1]using ih h.2
theorem zyL(k:OkG gr){τ:Type}(q:List Int→τ)(hlen:o.length=l.length)(ho:∀x∈o,0≤x∧x≤2000000000)(hl:∀x∈l,0≤x∧x≤2000000000):
 zau (σ:=List Int) (fun i s=>(ix l i).bind fun x=>(ix s i).bind fun y=>(zaZ gr [y,x]).bind fun z=>some (.go (s.set i.toNat z))) q l.length 0 o=some (q (zeM gr o l)):=by
 refine zal (zaQ (fun k s=>s.length=l.length∧∀j,s[j]? =if j<k then(zeM gr o l)[j]? else o[j]?) ⟨hlen,fun j=>by simp⟩ ?_ ?_)
 ·rintro i s hi ⟨h1,h2⟩;have h3:i<s.length:=by omega
  have h5:i<o.length:=by omega
  have h4:s[i]=o[i]:=by
   have:=h2 i;rw[if_neg (Nat.lt_irrefl _),List.getElem?_eq_getElem h3,List.getElem?_eq_getElem h5]at this;injection this
  rw[zaY hi,Option.bind_some,zaY h3,Option.bind_some,zoB k (by
   intro x hx;rcases List.mem_cons.1 hx with rfl|hx
   ·rw[h4];exact ho _ (List.getElem_mem h5)
   ·rw[List.mem_singleton.1 hx];exact hl _ (List.getElem_mem hi)),Option.bind_some]
  refine⟨_,rfl,by simp[h1],fun j=>?_⟩;rw[Int.toNat_natCast,List.getElem?_set];by_cases e:i=j
  ·subst e;rw[if_pos rfl,if_pos h3,if_pos (Nat.lt_succ_self _),h4];unfold zeM;rw[List.getElem?_zipWith,List.getElem?_eq_getElem h5,List.getElem?_eq_getElem hi]
  rw[if_neg e,h2 j];by_cases h6:j<i
  ·rw[if_pos h6,if_pos (by omega)]
  rw[if_neg h6,if_neg (by omega)]
 rintro s ⟨h1,h2⟩;congr 1;apply List.ext_getElem?;intro j;rw[h2 j];split
 ·rfl
 rename_i h3;rw[List.getElem?_eq_none (by omega),List.getElem?_eq_none (by unfold zeM;simp;omega)]
def pick(kd t:Int)(e:Entry):Bool:=e.Kind==kd&&e.Author==t
theorem zzi{b:Board}(hb:b.Entries.length≤1000000000)(kd t:Int)(ht:0≤t):∃s,zgM b kd t=some s∧s.map (ix b.Entries)=(b.Entries.filter (pick kd t)).map some:=by
 unfold zgM
 have hr:Rn (zau (σ:=(List Int)) (fun i5 s4=>(((ix b.Entries i5).bind fun x14=>((if(x14.Kind==kd)=true then(if decide (t<0)=true then(some true)else(some (x14.Author==t)))else(some false):Option Bool).bind fun x17=>if x17=true then(gd ((s4.length+1)*8≤140737488355328∧s4.length+1≤4611686018427387904)<|some (s4++[i5]))else(some s4)):Option ((List Int))).bind fun x13=>some (.go x13))) (fun s4=>s4) (b.Entries.length) 0 []) (fun s=>s.map (ix b.Entries)=(b.Entries.filter (pick kd t)).map some):=by
  refine zaQ (fun k s=>s.map (ix b.Entries)=((b.Entries.take k).filter (pick kd t)).map some) (by simp) ?_ ?_
  ·intro i s hi hI
   have hlen:s.length≤i:=by
    have h1:=congrArg List.length hI;rw[List.length_map,List.length_map]at h1;have h2:=List.length_filter_le (pick kd t) (b.Entries.take i);rw[List.length_take]at h2;omega
   have ht':decide (t<0)=false:=by simp;omega
   have hif:(if(b.Entries[i].Kind==kd)=true then(if decide (t<0)=true then(some true)else(some (b.Entries[i].Author==t)))else(some false):Option Bool)=some (pick kd t b.Entries[i]):=by
    rw[ht'];unfold pick;cases (b.Entries[i].Kind==kd)<;>rfl
   rw[zaY hi,Option.bind_some,hif,Option.bind_some]
   have htk:(b.Entries.take (i+1)).filter (pick kd t)=(b.Entries.take i).filter (pick kd t)++[b.Entries[i]].filter (pick kd t):=by
    rw[List.take_succ_eq_append_getElem hi,List.filter_append]
   cases hp:pick kd t b.Entries[i]with
   |true=>
    rw[if_pos rfl,zbI (by omega),Option.bind_some];refine⟨_,rfl,?_⟩;show(s++[(i:Int)]).map (ix b.Entries)=((b.Entries.take (i+1)).filter (pick kd t)).map some;rw[htk,List.map_append,List.map_append,hI];simp[hp,zaY hi]
   |false=>
    refine⟨_,rfl,?_⟩;show s.map (ix b.Entries)=((b.Entries.take (i+1)).filter (pick kd t)).map some;rw[htk,hI];simp[hp]
  ·intro s hs
   rwa [List.take_length]at hs
 obtain⟨s,h1,h2⟩:=hr;exact⟨s,by rw[h1];rfl,h2⟩
theorem zAU(k:OkG gr){τ:Type}(q:List Int→τ)(hlen:o.length=l.length)(ho:∀x∈o,0≤x∧x≤2000000000)(hl:∀x∈l,0≤x∧x≤2000000000):
 zau (σ:=List Int) (fun i s=>(ix l i).bind fun x=>(ix s i).bind fun y=>(zcn gr [y,x]).bind fun z=>some (.go (s.set i.toNat z))) q l.length 0 o=some (q (zeM gr o l)):=zyL k q hlen ho hl
def gdE(gr:Group)(h:Int)(e:Entry):Bool:=((e.Data.length:Int)==h)&&e.Data.all (zaq gr)
theorem zwb(k:OkG gr){h:Int}(hg:gdE gr h e=true):(e.Data.length:Int)=h∧∀x∈e.Data,0≤x∧x≤2000000000:=by
 simp only[gdE,Bool.and_eq_true,beq_iff_eq]at hg;refine⟨hg.1,fun x hx=>?_⟩;have h1:=List.all_eq_true.1 hg.2 x hx;simp only[zaq,Bool.and_eq_true,decide_eq_true_eq]at h1;have:=k.p;omega
theorem zt5(k:OkG gr)(hlen:o.length=l.length)(ho:∀x∈o,0≤x∧x≤2000000000)(hl:∀x∈l,0≤x∧x≤2000000000):(zeM gr o l).length=o.length∧∀x∈zeM gr o l,0≤x∧x≤2000000000:=by
 refine⟨by unfold zeM;simp;omega,fun x hx=>?_⟩;obtain⟨i,hi,rfl⟩:=List.getElem_of_mem hx;unfold zeM at hi⊢;rw[List.getElem_zipWith];simp at hi
 have:=zz7 k (l:=[o[i],l[i]]) (by
  intro y hy;rcases List.mem_cons.1 hy with rfl|hy
  ·exact ho _ (List.getElem_mem _)
  ·rw[List.mem_singleton.1 hy];exact hl _ (List.getElem_mem _))
 have:=k.p;omega
theorem zDw(k:OkG gr)(h:Int)(e:Entry):(if((e.Data.length:Int) !=h)=true then some true else(zed gr e.Data).bind fun z=>some (!z))=some (!gdE gr h e):=by
 rw[zoC k];unfold gdE;by_cases h1:(e.Data.length:Int)=h
 ·simp[h1]
 simp[h1]
def zg0(gr:Group)(o:List Int)(e:Entry):List Int:=zeM gr o e.Data
def zmG(gr:Group)(h:Int)(fl:Nat→List Entry)(j:Nat):Prop:=∀i,i<j→∃e,fl i=[e]∧gdE gr h e=true
theorem zzT{p:Plan}{b:Board}{T h:Nat}(k:OkG p.Gr)(hb:b.Entries.length≤1048576)(hT:p.Trustees=(T:Int))(hh:p.Threshold=(h:Int))(hT4:T≤4)(hh4:h≤4):
 ∃r,zgE p b=some r∧((zmG p.Gr h (fun i=>b.Entries.filter (pick 2 ((i+1:Nat):Int))) T∧r=(((List.range T).flatMap fun i=>b.Entries.filter (pick 2 ((i+1:Nat):Int))).foldl (zg0 p.Gr) (List.replicate h 1),true))∨
  (¬zmG p.Gr h (fun i=>b.Entries.filter (pick 2 ((i+1:Nat):Int))) T∧r=([],false))):=by
 unfold zgE;refine zkO (zbi h (fun k s=>s=(List.replicate k 1,(k:Int))∧k≤h) ⟨rfl,by omega⟩ ?_ ?_)
 ·rintro j s hj ⟨rfl,_⟩;rw[if_pos (by simp[hh];omega),zbI (by simp;omega)];refine⟨_,rfl,?_,hj⟩;rw[zaj (by omega) (by omega)];simp[List.replicate_succ']
 rintro s ⟨rfl,_⟩;rw[if_neg (by simp[hh])];refine⟨_,rfl,?_⟩;show Rn _ _;refine zkO (zbi T (fun j s=>s=(((List.range j).flatMap fun i=>b.Entries.filter (pick 2 ((i+1:Nat):Int))).foldl (zg0 p.Gr) (List.replicate h 1),((j+1:Nat):Int))∧zmG p.Gr h (fun i=>b.Entries.filter (pick 2 ((i+1:Nat):Int))) j∧s.1.length=h∧(∀x∈s.1,0≤x∧x≤2000000000)∧j≤T) ?_ ?_ ?_)
 ·refine⟨rfl,fun i hi=>absurd hi (by omega),by simp,fun x hx=>?_,by omega⟩;have:=List.eq_of_mem_replicate hx;omega
 ·rintro j s hj ⟨hs,ha,hl,hbd,_⟩;subst hs;dsimp only at hl hbd⊢;generalize ho:((List.range j).flatMap fun i=>b.Entries.filter (pick 2 ((i+1:Nat):Int))).foldl (zg0 p.Gr) (List.replicate h 1)=o at hl hbd⊢;rw[if_pos (by simp[hT];omega)];obtain⟨z,h1,h2⟩:=zzi (b:=b) (by omega) 2 ((j+1:Nat):Int) (by omega);rw[h1,Option.bind_some]
  have hzl:z.length=(b.Entries.filter (pick 2 ((j+1:Nat):Int))).length:=by
   have:=congrArg List.length h2;simpa using this
  have bad:¬(∃e,b.Entries.filter (pick 2 ((j+1:Nat):Int))=[e]∧gdE p.Gr h e=true)→¬zmG p.Gr h (fun i=>b.Entries.filter (pick 2 ((i+1:Nat):Int))) T:=fun h3 h4=>h3 (h4 j hj)
  by_cases h3:z.length=1
  ·obtain⟨x,rfl⟩:=List.length_eq_one_iff.1 h3;obtain⟨e,he⟩:=List.length_eq_one_iff.1 (hzl.symm.trans h3);rw[he]at h2;have hx:ix b.Entries x=some e:=by simpa using h2
   rw[if_neg (by simp),show ix [x] 0=some x from rfl,Option.bind_some,hx,Option.bind_some,hh,zDw k,Option.bind_some];cases hg:gdE p.Gr h e with
   |false=>
    rw[if_pos (by simp)];refine⟨_,rfl,?_⟩;show Rn _ _;refine⟨_,rfl,.inr ⟨bad ?_,rfl⟩⟩;rintro⟨e',h4,h5⟩;rw[he]at h4;cases h4;rw[hg]at h5;cases h5
   |true=>
    obtain⟨g1,g2⟩:=zwb k hg;rw[if_neg (by simp),zAU k _ (by omega) hbd g2,Option.bind_some];obtain⟨m1,m2⟩:=zt5 k (by omega) hbd g2;refine⟨_,rfl,?_,?_,?_,?_,hj⟩
    ·rw[zaj (by omega) (by omega)];rw[List.range_succ,List.flatMap_append,List.foldl_append,ho];simp only[List.flatMap_cons,List.flatMap_nil,List.append_nil,he,List.foldl_cons,List.foldl_nil,zg0];exact congrArg (Prod.mk _) (by omega)
    ·intro i hi;by_cases e1:i=j
     ·subst e1;exact⟨e,he,hg⟩
     ·exact ha i (by omega)
    ·show(zeM p.Gr o e.Data).length=h;omega
    ·exact m2
  rw[if_pos (by simp;omega)];refine⟨_,rfl,?_⟩;show Rn _ _;refine⟨_,rfl,.inr ⟨bad ?_,rfl⟩⟩;rintro⟨e',h4,_⟩;rw[h4]at hzl;exact h3 hzl
 rintro s ⟨hs,ha,_,_,_⟩;subst hs;rw[if_neg (by simp[hT];omega)];exact⟨_,rfl,_,rfl,.inl ⟨ha,rfl⟩⟩
def zbO(T:Int)(e:Entry):Bool:=e.Kind==2&&inB 1 T e.Author
theorem zEX(k:OkG gr)(h:Int)(l:List Int)(e:Entry):((zbS l e.Author).bind fun z=>if z=true then some true else if((e.Data.length:Int) !=h)=true then some true else(zbt gr e.Data).bind fun z=>some (!z))=some (l.contains e.Author|| !gdE gr h e):=by
 rw[zu6,Option.bind_some,zk5 k];unfold gdE;by_cases h1:(e.Data.length:Int)=h
 ·cases l.contains e.Author<;>simp[h1]
 cases l.contains e.Author<;>simp[h1]
def zpR(gr:Group)(h:Int)(T:Nat)(L:List Entry):Prop:=(L.map (·.Author)).Nodup∧(∀e∈L,gdE gr h e=true)∧L.length=T
theorem zzw{b:Board}{o:Opening}{T h:Nat}(k:OkG gr)(hb:b.Entries.length≤1048576)(hop:zcB gr b=some (o,true))(hT:o.Trustees=(T:Int))(hh:o.Threshold=(h:Int))(h1:1≤h)(hh4:h≤4):
 ∃r,zbX gr b=some r∧((zpR gr h T (b.Entries.filter (zbO T))∧r=((b.Entries.filter (zbO T)).foldl (zg0 gr) (List.replicate h 1),true))∨(¬zpR gr h T (b.Entries.filter (zbO T))∧r=([],false))):=by
 unfold zbX;rw[hop,Option.bind_some,if_neg (by simp)]
 have hrep:zbl [1] o.Threshold=some (List.replicate h 1):=by
  unfold zbl;rw[zbI (by simp[hh];omega),hh];rfl
 rw[hrep,Option.bind_some];refine zkO (zaQ (fun j s=>s=(((b.Entries.take j).filter (zbO T)).foldl (zg0 gr) (List.replicate h 1),((b.Entries.take j).filter (zbO T)).map (·.Author))∧(((b.Entries.take j).filter (zbO T)).map (·.Author)).Nodup∧(∀e∈(b.Entries.take j).filter (zbO T),gdE gr h e=true)∧s.1.length=h∧(∀x∈s.1,0≤x∧x≤2000000000)) ?_ ?_ ?_)
 ·refine⟨by simp,by simp,by simp,by simp,fun x hx=>?_⟩;have:=List.eq_of_mem_replicate hx;omega
 ·rintro j s hj ⟨hs,hn,hg,hl,hbd⟩;subst hs;dsimp only at hl hbd⊢
  have hlen:(((b.Entries.take j).filter (zbO T)).map (·.Author)).length≤j:=by
   have h2:=List.length_filter_le (zbO T) (b.Entries.take j);rw[List.length_take]at h2;rw[List.length_map];omega
  have htk:(b.Entries.take (j+1)).filter (zbO T)=(b.Entries.take j).filter (zbO T)++[b.Entries[j]].filter (zbO T):=by
   rw[List.take_succ_eq_append_getElem hj,List.filter_append]
  have hsp:b.Entries.filter (zbO T)=(b.Entries.take (j+1)).filter (zbO T)++(b.Entries.drop (j+1)).filter (zbO T):=by
   rw[←List.filter_append,List.take_append_drop]
  generalize hL:(b.Entries.take j).filter (zbO T)=L at hn hg hl hbd hlen htk⊢;generalize ho:L.foldl (zg0 gr) (List.replicate h 1)=w at hl hbd⊢;generalize hee:b.Entries[j]=e at htk⊢;rw[zaY hj,Option.bind_some,hee,hT]
  have hif:(if(e.Kind !=2)=true then some true else(zav e.Author 1 (T:Int)).bind fun z=>some (!z))=some (!zbO T e):=by
   rw[zkG];unfold zbO;cases hk:(e.Kind==2)<;>simp[bne,hk]
  rw[hif,Option.bind_some];cases hp:zbO T e with
  |false=>
   rw[if_pos (by rfl)];have e1:[e].filter (zbO T)=[]:=by simp[hp]
   rw[e1,List.append_nil]at htk;refine⟨_,rfl,?_⟩;show _=_∧_;rw[htk];exact⟨by rw[ho],hn,hg,hl,hbd⟩
  |true=>
   rw[if_neg (by simp),hh,zEX k,Option.bind_some];have e1:[e].filter (zbO T)=[e]:=by simp[hp]
   rw[e1]at htk;cases hc:((L.map (·.Author)).contains e.Author|| !gdE gr h e)with
   |true=>
    rw[if_pos rfl];refine⟨_,rfl,?_⟩;show Rn _ _;refine⟨_,rfl,.inr ⟨?_,rfl⟩⟩;rintro⟨q1,q2,_⟩;rw[hsp,htk]at q1 q2;rcases Bool.or_eq_true_iff.1 hc with c1|c1
    ·have c2:e.Author∈L.map (·.Author):=by simpa using c1
     rw[List.map_append,List.map_append,List.append_assoc,List.nodup_append]at q1;exact q1.2.2 _ c2 e.Author (by simp) rfl
    ·have:=q2 e (by simp);rw[this]at c1;cases c1
   |false=>
    have hc':=Bool.or_eq_false_iff.1 hc;have hge:gdE gr h e=true:=by simpa using hc'.2
    have hna:e.Author∉L.map (·.Author):=by
     intro hm;have:(L.map (·.Author)).contains e.Author=true:=by simpa using hm
     rw[this]at hc';cases hc'.1
    obtain⟨g1,g2⟩:=zwb k hge;rw[if_neg (by simp),zbI (by omega),zyL k _ (by omega) hbd g2,Option.bind_some];obtain⟨m1,m2⟩:=zt5 k (by omega) hbd g2;refine⟨_,rfl,?_⟩;show _=_∧_;rw[htk];refine⟨by rw[List.foldl_append,ho,List.map_append];rfl,?_,?_,by show(zeM gr w e.Data).length=h;omega,m2⟩
    ·rw[List.map_append,List.nodup_append];refine⟨hn,by simp,fun x hx y hy e2=>?_⟩;simp at hy;subst hy;subst e2;exact hna hx
    ·intro e' he';rcases List.mem_append.1 he' with h5|h5
     ·exact hg e' h5
     ·rw[List.mem_singleton.1 h5];exact hge
 rintro s ⟨hs,hn,hg,_,_⟩;rw[List.take_length]at hs hn hg;subst hs;show Rn _ _;dsimp only;rw[hT];by_cases hc:(b.Entries.filter (zbO T)).length=T
 ·refine⟨_,by rw[Sum.elim_inl,if_neg (by simp[hc])],.inl ⟨⟨hn,hg,hc⟩,rfl⟩⟩
 refine⟨_,by rw[Sum.elim_inl,if_pos (by simp;omega)],.inr ⟨fun h5=>hc h5.2.2,rfl⟩⟩
theorem zvv{fl:Nat→List Entry}:∀(T:Nat),(∀i,i<T→∃e,fl i=[e]∧e.Author=((i+1:Nat):Int))→((List.range T).flatMap fl).map (·.Author)=(List.range T).map fun i=>((i+1:Nat):Int):=by
 intro T;induction T with
 |zero=>intro _;rfl
 |succ T ih=>
  intro h;obtain⟨e,h1,h2⟩:=h T (by omega);rw[List.range_succ,List.flatMap_append,List.map_append,List.map_append,ih fun i hi=>h i (by omega)];simp[h1,h2]
theorem zxD(gr:Group)(h:Int)(E:List Entry)(T:Nat):
 (E.filter (zbO T)).Perm ((List.range T).flatMap fun i=>E.filter (pick 2 ((i+1:Nat):Int)))∧(zmG gr h (fun i=>E.filter (pick 2 ((i+1:Nat):Int))) T↔zpR gr h T (E.filter (zbO T))):=by
 have hfl:∀i,i<T→((E.filter (zbO T)).filter fun e=>e.Author==((i+1:Nat):Int))=E.filter (pick 2 ((i+1:Nat):Int)):=fun i hi=>by
  rw[List.filter_filter];refine List.filter_congr fun e _=>?_
  unfold zbO pick inB;by_cases h1:e.Author=((i+1:Nat):Int)
  ·rw[h1];have a1:decide ((1:Int)≤((i+1:Nat):Int))=true:=by simp;omega
   have a2:decide ((((i+1:Nat):Int))≤(T:Int))=true:=by simp;omega
   rw[a1,a2];simp
  ·have:(e.Author==((i+1:Nat):Int))=false:=by simpa using h1
   rw[this];simp
 have hp:=zuT (fun e:Entry=>e.Author) T (E.filter (zbO T)) fun e he=>by
  have:=(List.mem_filter.1 he).2;unfold zbO at this;exact ze7.1 (Bool.and_eq_true_iff.1 this).2
 have hparts:zhY (fun e:Entry=>e.Author) (E.filter (zbO T)) T=(List.range T).flatMap fun i=>E.filter (pick 2 ((i+1:Nat):Int)):=by
  unfold zhY;rw[List.flatMap_def,List.flatMap_def];congr 1;exact List.map_congr_left fun i hi=>hfl i (List.mem_range.1 hi)
 rw[hparts]at hp;refine⟨hp,fun ha=>?_,fun ho=>?_⟩
 ·have hm:=zvv (fl:=fun i=>E.filter (pick 2 ((i+1:Nat):Int))) T fun i hi=>by
   obtain⟨e,h1,_⟩:=ha i hi;refine⟨e,h1,?_⟩
   have h2:e∈E.filter (pick 2 ((i+1:Nat):Int)):=by
    have h1:E.filter (pick 2 ((i+1:Nat):Int))=[e]:=h1;rw[h1];simp
   have h3:=(List.mem_filter.1 h2).2;unfold pick at h3;simpa using(Bool.and_eq_true_iff.1 h3).2
  have hpm:=hp.map (·.Author);rw[hm]at hpm;refine⟨hpm.nodup_iff.2 ?_,fun e he=>?_,?_⟩
  ·refine List.pairwise_map.2 (List.nodup_range.imp fun h=>?_);omega
  ·obtain⟨i,hi,h2⟩:=List.mem_flatMap.1 (hp.mem_iff.1 he);obtain⟨e',h3,h4⟩:=ha i (List.mem_range.1 hi);have h3:E.filter (pick 2 ((i+1:Nat):Int))=[e']:=h3;rw[h3]at h2;rw[List.mem_singleton.1 h2];exact h4
  have:=hpm.length_eq;simpa using this
 obtain⟨h1,h2,h3⟩:=ho;have hq:=zwr (fun e:Entry=>e.Author) (E.filter (zbO T)) T fun i _=>zwI (fun e:Entry=>e.Author) _ _ h1
 rw[hparts]at hq;intro i hi;have h4:=hq.2 (by rw[←hp.length_eq];exact h3) i hi;rw[hfl i hi]at h4;obtain⟨e,he⟩:=List.length_eq_one_iff.1 h4;refine⟨e,he,h2 e ?_⟩;have h5:e∈(E.filter (zbO T)).filter fun e=>e.Author==((i+1:Nat):Int):=by rw[hfl i hi,he];simp
 exact(List.mem_filter.1 h5).1
theorem zof(k:OkG gr)(ha:0≤a):zb3 gr gr.G a=((gr.G.toNat^a.toNat%gr.P.toNat:Nat):Int):=by
 have hq:=k.q;obtain⟨n,rfl⟩:=Int.eq_ofNat_of_zero_le ha;obtain⟨q,hQ⟩:=Int.eq_ofNat_of_zero_le (show 0≤gr.Q by omega);unfold zb3;have ho:=k.o;rw[hQ]at ho⊢;rw[Int.toNat_natCast]at ho;rw[←Int.natCast_emod,Int.toNat_natCast,Int.toNat_natCast,zkE ho]
theorem zyq(k:OkG gr)(ha:0≤a)(hb:0≤b):zc4 gr [zb3 gr gr.G a,zb3 gr gr.G b]=zb3 gr gr.G (a+b):=by
 have hp:=k.p;obtain⟨P,hP⟩:=Int.eq_ofNat_of_zero_le (show 0≤gr.P by omega);have hx:=ziF k gr.G a;rw[zpp k (by omega) (ziF k gr.G b).1,zof k ha,zof k hb,zof k (by omega),hP];rw[←Int.natCast_mul,←Int.natCast_emod,Int.toNat_natCast,←Nat.mul_mod,←Nat.pow_add,Int.toNat_add ha hb]
theorem zw9(k:OkG gr):zb3 gr gr.G 0=1:=by
 have hp:=k.p;rw[zof k (Int.le_refl 0)];show((1%gr.P.toNat:Nat):Int)=1;rw[Nat.mod_eq_of_lt (by omega)];rfl
def zg9(ct:Contest):Int:=if ct.Kind=1 then 1 else ct.Points
def zew(ct:Contest):Bool:=ct.Kind==1||ct.Kind==2
theorem zBI(ct:Contest):zdx ct=some (zg9 ct):=by
 unfold zdx zg9;by_cases h:ct.Kind=1
 ·rw[if_pos h,h];rfl
 rw[if_neg h,if_neg (by simpa using h)]
theorem zpf(k:OkC ct)(h:zew ct=true):(1≤ct.Options∧ct.Options≤8)∧(1≤zg9 ct∧zg9 ct≤5)∧ct.Most≤ct.Options*zg9 ct∧(0≤ct.Least∧ct.Least≤ct.Most):=by
 have lo:=k.lo;unfold zew at h;unfold zg9;rcases k.k with⟨k1|k3,ho,hm,hp⟩|⟨k2,ho,hp,hm⟩|⟨k4,ho,hm,hp⟩
 ·rw[if_pos k1];omega
 ·rw[k3]at h;cases h
 ·rw[if_neg (by omega)];omega
 rw[k4]at h;cases h
theorem zq7:∀(n:Nat) (a:Int) (b:ByteArray),zbo n a=some b→zbo (n+1) a=some b
 |0,_,_,h=>by cases h
 |n+1,a,b,h=>by
  rw[zbo]at h⊢;by_cases c:decide (a<10)=true
  ·rw[if_pos c]at h⊢;exact h
  ·rw[if_neg c]at h⊢;cases e:zbo n (i64.wrap (a.tdiv 10))with
   |none=>rw[e]at h;cases h
   |some z=>
    rw[e]at h;rw[zq7 n _ _ e];exact h
theorem zA9(h:zew ct=true∨ct.Kind≠2):zbV ct=some (if zew ct=true then zg9 ct else 1):=by
 unfold zbV zew zg9;by_cases h2:ct.Kind=2
 ·rw[h2];rfl
 rw[if_neg (by simpa using h2)];by_cases h1:ct.Kind=1
 ·rw[h1];rfl
 have e1:(ct.Kind==1)=false:=beq_false_of_ne h1;have e2:(ct.Kind==2)=false:=beq_false_of_ne h2;rw[e1,e2];rfl
theorem zpG :zgj gr x=true↔0≤x∧x<gr.Q:=by
 unfold zgj;simp only[Bool.and_eq_true,decide_eq_true_eq];omega
theorem zm3{α:Type}{l:List α}{d:α}{i:Nat}(h:i<l.length):l.getD i d=l[i]:=by
 rw[List.getD_eq_getElem?_getD,List.getElem?_eq_getElem h];rfl
def R9(x:Int):Prop:=0≤x∧x≤2000000000
theorem ze9(k:OkG gr)(h:zaq gr x=true):R9 x:=by
 have:=zjO h;have:=k.p;exact⟨by omega,by omega⟩
theorem zgR(k:OkG gr)(x e:Int):R9 (zb3 gr x e):=by
 have:=ziF k x e;have:=k.p;exact⟨by omega,by omega⟩
theorem zyS(hx:R9 x)(hy:R9 y):∀z∈[x,y],0≤z∧z≤2000000000:=by
 intro z hz;simp only[List.mem_cons,List.not_mem_nil,or_false]at hz;rcases hz with rfl|rfl
 ·exact hx
 exact hy
theorem zyW(h:∀x∈l,R9 x):l.all zaX=true:=List.all_eq_true.2 fun x hx=>zbz.2 ⟨(h x hx).1,by have:=(h x hx).2;omega⟩
theorem m2I(k:OkG gr)(hx:R9 x)(hy:R9 y):zaZ gr [x,y]=some (zc4 gr [x,y]):=zoB k (zyS hx hy)
theorem m2S(k:OkG gr)(hx:R9 x)(hy:R9 y):zcn gr [x,y]=some (zc4 gr [x,y]):=zwz k (zyS hx hy)
theorem pwI(k:OkG gr)(hx:R9 x)(e:Int):zbj gr x e=some (zb3 gr x e):=(zq1 k hx.1 hx.2 e).1
theorem pwS(k:OkG gr)(hx:R9 x)(e:Int):zb7 gr x e=some (zb3 gr x e):=(zq1 k hx.1 hx.2 e).2
theorem r_G(k:OkG gr):R9 gr.G:=ze9 k (zgT k)
theorem zrL(k:OkG gr)(h0:n<gr.P.toNat)(h:n^gr.Q.toNat%gr.P.toNat=1):zaq gr (n:Int)=true:=by
 have hp:=k.p;have hq:=k.q
 have h1:1≤n:=by
  rcases Nat.eq_zero_or_pos n with h2|h2
  ·rw[h2,Nat.zero_pow (by omega),Nat.zero_mod]at h;omega
  ·exact h2
 simp only[zaq,Bool.and_eq_true,decide_eq_true_eq];exact⟨⟨by omega,by omega⟩,by rw[Int.toNat_natCast];exact h⟩
theorem zBC(k:OkG gr)(hx:zaq gr x=true)(e:Int):zaq gr (zb3 gr x e)=true:=by
 have hp:=k.p;refine zrL k (Nat.mod_lt _ (by omega)) ?_;rw[←Nat.pow_mod,←Nat.pow_mul,Nat.mul_comm,Nat.pow_mul,Nat.pow_mod,(zjl hx).2.2,Nat.one_pow,Nat.mod_eq_of_lt (by omega)]
theorem zBx(k:OkG gr)(hx:zaq gr x=true)(hy:zaq gr y=true):zaq gr (zc4 gr [x,y])=true:=by
 have hp:=k.p;have bx:=zjO hx;have by':=zjO hy;rw[zpp k ⟨by omega,by omega⟩ (by omega)];obtain⟨a,rfl⟩:=Int.eq_ofNat_of_zero_le (show 0≤x by omega);obtain⟨b,rfl⟩:=Int.eq_ofNat_of_zero_le (show 0≤y by omega);obtain⟨p,hP⟩:=Int.eq_ofNat_of_zero_le (show 0≤gr.P by omega);have h1:=(zjl hx).2.2;have h2:=(zjl hy).2.2;rw[Int.toNat_natCast]at h1 h2;have e:((a:Int)*(b:Int))%gr.P=((a*b%gr.P.toNat:Nat):Int):=by rw[hP,Int.toNat_natCast,Int.natCast_emod,Int.natCast_mul]
 rw[e];refine zrL k (Nat.mod_lt _ (by omega)) ?_;rw[←Nat.pow_mod,Nat.mul_pow,Nat.mul_mod,h1,h2,Nat.mod_eq_of_lt (by omega)]
theorem zza(k:OkG gr):zaq gr 1=true:=by
 have hp:=k.p;exact zrL (n:=1) k (by omega) (by rw[Nat.one_pow,Nat.mod_eq_of_lt (by omega)])
def E9(q x:Int):Prop:=0≤x∧x<q
theorem zFo(hq:0<q)(x:Int):E9 q (x%q):=⟨Int.emod_nonneg _ (by omega),Int.emod_lt_of_pos _ hq⟩
theorem zwR{α:Type}{l:List α}{P:α→Prop}(h:∀x∈l,P x){i:Nat}(hi:i<l.length):P l[i]:=h _ (List.getElem_mem hi)
def smN(q:Int)(l:List Int):Nat→Int
 |0=>0
 |i+1=>(smN q l i+l.getD i 0)%q
theorem zy4(hq:0<q)(l:List Int):∀i,E9 q (smN q l i)
 |0=>⟨by show(0:Int)≤0;omega,hq⟩
 |i+1=>zFo hq _
theorem zvZ(hq:0<q∧q≤2000000000)(hl:∀x∈l,E9 q x):zif l q=some (smN q l l.length)∧zhe l q=some (smN q l l.length):=by
 refine⟨?_,?_⟩
 ·unfold zif;refine zal (zag (ψ:=(· =smN q l l.length)) (zaQ (fun i s=>s=smN q l i) rfl ?_ fun s h=>h) fun x hx=>zab hx);rintro i s hi rfl;have ha:=zy4 hq.1 l i;have h1:=zwR hl hi;refine zbm hi (zas (by omega) (zab ?_));show _=(smN q l i+l.getD i 0)%q;rw[zm3 hi,zaj (by have:=ha.1;have:=h1.1;omega) (by have:=ha.2;have:=h1.2;omega),Int.tmod_eq_emod_of_nonneg (by have:=ha.1;have:=h1.1;omega)]
 unfold zhe;refine zal (zag (ψ:=(· =smN q l l.length)) (zaQ (fun i s=>s=smN q l i) rfl ?_ fun s h=>h) fun x hx=>zab hx);rintro i s hi rfl;have ha:=zy4 hq.1 l i;have h1:=zwR hl hi;refine zbm hi (zas (by omega) (zab ?_));show _=(smN q l i+l.getD i 0)%q;rw[zm3 hi,zaj (by have:=ha.1;have:=h1.1;omega) (by have:=ha.2;have:=h1.2;omega),Int.tmod_eq_emod_of_nonneg (by have:=ha.1;have:=h1.1;omega)]
def smL(f:Nat→Int):Nat→Int
 |0=>0
 |n+1=>smL f n+f n
theorem zwP{P:Int→Prop}(h:∀x∈l,P x){i:Nat}(hi:i<l.length):P (l.getD i 0):=by
 rw[zm3 hi];exact h _ (List.getElem_mem hi)
theorem zjY{i:Nat}(hi:i<l.length):ix l (i:Int)=some (l.getD i 0):=by rw[zaY hi,zm3 hi]
theorem zy8{σ γ:Type}{body:Int→σ→Option (Stp σ γ)}{stop:σ→γ}{s0:σ}(S:Nat→σ)(h0:s0=S 0)(hs:∀i,i<n→Rn (body (i:Int) (S i)) (· =.go (S (i+1)))):zau body stop n 0 s0=some (stop (S n)):=by
 refine zal (zaQ (fun i y=>y=S i) h0 ?_ ?_)
 ·rintro i y hi rfl;obtain⟨v,h1,rfl⟩:=hs i hi;exact⟨_,h1,rfl⟩
 rintro y rfl;rfl
def pg(gr:Group)(a:Int):Int:=zb3 gr gr.G a
section
variable {gr:Group}
theorem zxY{a b:Int}(h:a%gr.Q=b%gr.Q):pg gr a=pg gr b:=by unfold pg zb3;rw[h]
theorem zH7{x a b:Int}(h:a%gr.Q=b%gr.Q):zb3 gr x a=zb3 gr x b:=by unfold zb3;rw[h]
theorem zuJ(a:Int):pg gr (a%gr.Q)=pg gr a:=zxY (Int.emod_emod _ _)
theorem mw(a q:Int):∃m,a%q=a-q*m:=⟨a/q,Int.emod_def a q⟩
theorem zgC(k:OkG gr)(a b:Int):zc4 gr [pg gr a,pg gr b]=pg gr (a+b):=by
 have hq:=k.q;rw[←zuJ a,←zuJ b];unfold pg;rw[zyq k (Int.emod_nonneg _ (by omega)) (Int.emod_nonneg _ (by omega))];exact zxY (Int.add_emod a b gr.Q).symm
theorem zrw(k:OkG gr)(a e:Int):zb3 gr (pg gr a) e=pg gr (a*e):=by
 have hq:=k.q;rw[←zuJ a,zH7 (b:=e%gr.Q) (Int.emod_emod _ _).symm];unfold pg;rw[zx7 k (zgT k) (Int.emod_nonneg _ (by omega)) (Int.emod_nonneg _ (by omega))];exact zxY (Int.mul_emod a e gr.Q).symm
theorem zA6(k:OkG gr):pg gr 0=1:=zw9 k
theorem zq6(k:OkG gr)(a:Int):zaq gr (pg gr a)=true:=zBC k (zgT k) a
open Classical in
noncomputable def dl(gr:Group)(x:Int):Int:=if h:∃a,x=pg gr a then Classical.choose h else 0
theorem zmg(k:OkG gr){x:Int}(h:zaq gr x=true):x=pg gr (dl gr x):=by
 have hg:=k.g;have hq:=k.q
 have he:∃a,x=pg gr a:=by
  obtain⟨s,hs⟩:=zBk k (zgT k) (show gr.G≠1 by omega) h;have hx:=(zjl h).1;refine⟨s,?_⟩;unfold pg zb3;obtain⟨n,hn⟩:=Int.eq_ofNat_of_zero_le (show 0≤gr.Q by omega);have h3:=(zjl (zgT k)).2.2;rw[hn]at h3⊢;rw[Int.toNat_natCast]at h3;rw[←Int.natCast_emod,Int.toNat_natCast,zkE h3,hs];omega
 unfold dl;rw[dif_pos he];exact Classical.choose_spec he
end
section
variable {gr:Group}
theorem ek{a b q:Int}(h:a%q=b%q):∃m,a=b+q*m:=by
 obtain⟨m,hm⟩:=mw a q;obtain⟨n,hn⟩:=mw b q;rw[hm,hn]at h;exact⟨m-n,by rw[Int.mul_sub];omega⟩
end
variable{a:Int}
theorem wrL{gr:Group}(k:OkG gr){z:Int}(hz:E9 gr.Q z):i64.wrap (0-z)=0-z:=by
 have h1:=hz.1;have h2:=hz.2;have hq:=k.q;have hp:=k.p;exact zaj (by omega) (by omega)
theorem chL{gr:Group}(k:OkG gr){s:ByteArray}{L:List Int}(hs:s.size≤40)(hl:L.length≤300)(hd:L.all zaX=true):zbM gr s L=some (chG gr s L,true)∧zcN gr s L=some (chG gr s L):=by
 refine⟨?_,zmb k (by omega) (by omega) hd⟩;rw[zvB k _ (by omega),if_pos (zyP k hs (by omega) hd)]
theorem wNL{m:Nat}(h:m≤1000000){z:Int}(e:z=(m:Int)):i64.wrap z=(m:Int):=by rw[e];exact zaj (by omega) (by omega)
def zpv(a:Int):ByteArray:=⟨(Lib.itoa a).toArray⟩
theorem zAm(u:Nat):Lib.itoa (u:Int)=Lib.decDigits u:=by unfold Lib.itoa;rw[if_neg (by omega)];simp
theorem zrI{d:Nat}(h:d<10):zcY [u8.wrap (i64.wrap (48+(d:Int)))]=⟨#[UInt8.ofNat (48+d)]⟩:=by
 rw[zaj (n:=48+(d:Int)) (by omega) (by omega)]
 have e:u8.wrap (48+(d:Int))=((48+d:Nat):Int):=by
  unfold IntKind.wrap;simp[IntKind.bits,IntKind.signed];omega
 rw[e];unfold zcY;simp only[List.map_cons,List.map_nil,Int.toNat_natCast]
theorem zyM:∀(n:Nat) {u:Nat},n≤17→u<10^(n+1)→zbo (n+1) (u:Int)=some ⟨(Lib.decDigits u).toArray⟩∧(Lib.decDigits u).length≤n+1
 |0,u,_,h=>by
  have h:u<10:=by simpa using h
  rw[zbo,if_pos (by simp;omega),Lib.decDigits,dif_pos h,zrI h];exact⟨rfl,by simp⟩
 |n+1,u,hn,h=>by
  by_cases h10:u<10
  ·rw[zbo,if_pos (by simp;omega),Lib.decDigits,dif_pos h10,zrI h10];exact⟨rfl,by simp⟩
  ·have hp:10^(n+1+1)=10^(n+1)*10:=Nat.pow_succ ..
   have hp2:(10:Nat)^(n+1+1)≤10^18*10:=by
    have:(10:Nat)^(n+1)≤10^18:=Nat.pow_le_pow_right (by omega) (by omega);omega
   obtain⟨i1,i2⟩:=zyM n (u:=u/10) (by omega) (by omega)
   have e1:i64.wrap ((u:Int).tdiv 10)=((u/10:Nat):Int):=by
    rw[Int.tdiv_eq_ediv_of_nonneg (by omega)];by_cases hb:u<9223372036854775807
    ·rw[zaj (by omega) (by omega)];rfl
    ·rw[zaj (n:=(u:Int)/10) (by omega) (by omega)];rfl
   have e2:(u:Int).tmod 10=((u%10:Nat):Int):=by rw[Int.tmod_eq_emod_of_nonneg (by omega)];rfl
   have e3:Lib.decDigits u=Lib.decDigits (u/10)++[UInt8.ofNat (48+u%10)]:=by rw[Lib.decDigits,dif_neg h10]
   rw[zbo,if_neg (by simp;omega),e1,i1,e2,zrI (Nat.mod_lt _ (by omega)),e3];have hs:(⟨(Lib.decDigits (u/10)).toArray⟩:ByteArray).size=(Lib.decDigits (u/10)).length:=by simp[ByteArray.size]
   have hs1:(⟨#[UInt8.ofNat (48+u%10)]⟩:ByteArray).size=1:=rfl;refine⟨?_,by simp;omega⟩;rw[Option.bind_some,zbI (by rw[hs,hs1];omega)];congr 1
def labP:ByteArray:=⟨#[98,97,108,108,111,116,32]⟩
def zg7(a:Int):ByteArray:=labP++zpv a
theorem zuL(h0:0≤a)(h1:a≤999999):zjP a=some (zpv a)∧(zpv a).size≤6:=by
 obtain⟨u,rfl⟩:=Int.eq_ofNat_of_zero_le h0;obtain⟨e,hs⟩:=zyM 5 (u:=u) (by omega) (by omega);have hd:zpv (u:Int)=⟨(Lib.decDigits u).toArray⟩:=by unfold zpv;rw[zAm]
 rw[hd];exact⟨zzP (f:=fun n_=>zbo n_ (u:Int)) e fun n b=>zq7 n _ b,by simp[ByteArray.size];omega⟩
theorem zwd(h0:0≤a)(h1:a≤999999):(zg7 a).size≤13:=by
 have:=(zuL h0 h1).2;have h7:labP.size=7:=rfl;unfold zg7;rw[ByteArray.size_append,h7];omega
theorem zAC(h0:0≤a)(h1:a≤999999):zee a=some (zg7 a):=by
 have hs:=(zuL h0 h1).2;have e:zfH a=some (zpv a):=by unfold zfH;rw[zbI (by omega)];rfl
 have h7:(⟨#[98,97,108,108,111,116,32]⟩:ByteArray).size=7:=rfl;unfold zee;rw[e,Option.bind_some,zbI (by rw[h7];omega)];rfl
theorem zAK(h0:0≤a)(h1:a≤999999):zgc a=some (zg7 a):=by
 obtain⟨e,hs⟩:=zuL h0 h1;have h7:(⟨#[98,97,108,108,111,116,32]⟩:ByteArray).size=7:=rfl;unfold zgc;rw[e,Option.bind_some,zbI (by rw[h7];omega)];rfl
section
variable {gr:Group}
def stV(gr:Group)(key:Int)(c:Cipher)(lo:Int)(n:Nat):List EqualLog:=(List.range n).map fun(i:Nat)=>⟨gr.G,c.A,key,zc4 gr [c.B,zb3 gr gr.G (0-(lo+(i:Int)))]⟩
variable{c:Cipher}{key lo:Int}{n:Nat}
theorem zxe(gr:Group)(key:Int)(c:Cipher)(lo:Int)(n:Nat):(stV gr key c lo n).length=n:=by simp[stV]
theorem ztC(k:OkG gr)(hc:zcE gr c=true)(h0:0≤lo∧lo≤1000)(hn:n≤1000){PW:Int→Option Int}{ML:List Int→Option Int}(hP:∀e,PW e=some (zb3 gr gr.G e))(hM:∀x y,R9 x→R9 y→ML [x,y]=some (zc4 gr [x,y])):zax (σ:=(List EqualLog)×Int) (fun s4=>
 if decide (s4.2≤lo+(n:Int)-1)=true then(
 (PW (i64.wrap (0-s4.2))).bind fun z10=>
 (ML [c.B,z10]).bind fun z11=>
 gd ((s4.1.length+1)*32≤140737488355328∧s4.1.length+1≤4611686018427387904)<|
 some (.go (s4.1++[(EqualLog.mk gr.G c.A key z11)],i64.wrap (s4.2+1))))else(
 some (.out s4.1))) ([],lo)=some (stV gr key c lo n):=by
 have hb:R9 c.B:=by
  simp only[zcE,Bool.and_eq_true]at hc;exact ze9 k hc.2
 refine zal (zbi n (fun i s=>s=(stV gr key c lo i,lo+(i:Int))∧i≤n) ⟨by simp[stV],by omega⟩ ?_ ?_)
 ·rintro i s hi ⟨rfl,_⟩;refine zgA (by simp;omega) ?_;dsimp only;rw[zaj (n:=0-(lo+(i:Int))) (by omega) (by omega),hP,Option.bind_some,hM _ _ hb (zgR k _ _),Option.bind_some];refine zas (by rw[zxe];omega) (zab ⟨?_,by omega⟩);rw[zaj (n:=lo+(i:Int)+1) (by omega) (by omega)];refine Prod.ext ?_ (by show lo+(i:Int)+1=lo+((i+1:Nat):Int);omega);show stV gr key c lo i++_=stV gr key c lo (i+1);simp[stV,List.range_succ]
 rintro s ⟨rfl,_⟩;exact zbd (by simp;omega) (zab rfl)
theorem zyU(k:OkG gr)(hc:zcE gr c=true){hi:Int}(h0:0≤lo∧lo≤1000)(hn:n≤1000)(hh:hi=lo+(n:Int)-1):zbC gr key c lo hi=some (stV gr key c lo n):=by
 subst hh;unfold zbC;rw[ztC k hc h0 hn (fun e=>pwI k (r_G k) e) (fun x y hx hy=>m2I k hx hy)];rfl
theorem zyH(k:OkG gr)(hc:zcE gr c=true){hi:Int}(h0:0≤lo∧lo≤1000)(hn:n≤1000)(hh:hi=lo+(n:Int)-1):zcA gr key c lo hi=some (stV gr key c lo n):=by
 subst hh;unfold zcA;rw[ztC k hc h0 hn (fun e=>pwS k (r_G k) e) (fun x y hx hy=>m2S k hx hy)];rfl
end
def q0:EqualLog:=⟨0,0,0,0⟩
def siV(gr:Group)(g y c z:Int):Int:=zc4 gr [zb3 gr g z,zb3 gr y (0-c)]
def flE(l:List EqualLog):List Int:=l.flatMap fun e=>[e.G1,e.Y1,e.G2,e.Y2]
section
variable {gr:Group}{s:ByteArray}{l:List EqualLog}{m:Nat}{x w:Int}{coins:List Int}
theorem zyN{i:Nat}(hi:i<l.length):l.getD i q0=l[i]:=by simp[List.getD,hi]
theorem zsE(l:List EqualLog):(flE l).length=4*l.length:=by
 induction l with
 |nil=>rfl
 |cons e l ih=>show([e.G1,e.Y1,e.G2,e.Y2]++flE l).length=_;simp[ih];omega
theorem ztE{l:List EqualLog}(hl:l.length≤1000):zau (σ:=(List Int)) (fun i5 s4=>
 (ix l i5).bind fun x11=>
 gd ((s4.length+4)*8≤140737488355328∧s4.length+4≤4611686018427387904)<|
 some (.go (s4++[x11.G1,x11.Y1,x11.G2,x11.Y2]))) (fun s4=>s4) (l.length) 0 []=some (flE l):=by
 refine zal (zaQ (fun i s=>s=flE (l.take i)∧i≤l.length) ⟨rfl,by omega⟩ ?_ fun s h=>by rw[h.1,List.take_length]);rintro i s hi ⟨rfl,_⟩;have hn:(flE (l.take i)).length=4*i:=by rw[zsE,List.length_take];omega
 refine zbm hi (zas (by omega) (zab ⟨?_,by omega⟩));rw[List.take_succ_eq_append_getElem hi];show flE (l.take i)++_=flE (l.take i++[l[i]]);unfold flE;rw[List.flatMap_append];rfl
theorem zBj(k:OkG gr){e:EqualLog}{c z:Int}(he:zaq gr e.G1=true∧zaq gr e.Y1=true∧zaq gr e.G2=true∧zaq gr e.Y2=true)(hc:E9 gr.Q c):zc2 gr e c z=some (siV gr e.G1 e.Y1 c z,siV gr e.G2 e.Y2 c z):=by
 unfold zc2;rw[wrL k hc];exact zal (zae (pwI k (ze9 k he.1) _) (zae (pwI k (ze9 k he.2.1) _) (zae (m2I k (zgR k _ _) (zgR k _ _)) (zae (pwI k (ze9 k he.2.2.1) _) (zae (pwI k (ze9 k he.2.2.2) _) (zae (m2I k (zgR k _ _) (zgR k _ _)) (zab rfl)))))))
end
section
variable {gr:Group}{key:Int}{lab:ByteArray}{d coins:List Int}{q:Nat}
theorem zDV(k:OkG gr)(a b c d:Int):zdX gr ⟨pg gr a,pg gr b⟩ ⟨pg gr c,pg gr d⟩=some ⟨pg gr (a+c),pg gr (b+d)⟩:=by
 unfold zdX;dsimp only;rw[m2I k (x:=pg gr a) (y:=pg gr c) (zgR k _ _) (zgR k _ _),Option.bind_some,m2I k (x:=pg gr b) (y:=pg gr d) (zgR k _ _) (zgR k _ _),Option.bind_some,zgC k,zgC k]
end
theorem zDq{gr:Group}{ct:Contest}(h:zep gr ct=some true)(kg:OkG gr)(kc:OkC ct)(hf:zew ct=true):ct.Most-ct.Least<8:=by
 have lo:=kc.lo;have b:=zpf kc hf;have hm:ct.Options*zg9 ct≤8*5:=Int.mul_le_mul b.1.2 b.2.1.2 (by omega) (by omega);obtain⟨n,h1,_⟩:=zoP kc;unfold zep at h;rw[zgI,zkZ,zly.2 kg,zqL.2 kc]at h;simp only[h1,zkw,Bool.not_true,Bool.false_eq_true,if_false,Option.bind_some,zeG]at h;rw[show(ct.Kind==1||ct.Kind==2)=zew ct from rfl,hf,zaj (n:=ct.Most-ct.Least) (by omega) (by omega)]at h;by_cases hh:ct.Most-ct.Least<8
 ·exact hh
 have e:decide (ct.Most-ct.Least<8)=false:=decide_eq_false hh;rw[e]at h;cases hc:(decide (100000<n)||decide (gr.Q≤n))<;>rw[hc]at h<;>cases h
theorem zoW(a:Int):zeT a=some (inB 0 999999 a):=by
 unfold zeT;rw[zkG];rfl
def zc8(l:List Cipher):List Int:=(l.length:Int)::l.flatMap fun c=>[c.A,c.B]
def zbT(L:List (List Int)):List Int:=(L.length:Int)::L.flatMap zaF
theorem zy0(l:List Cipher):(l.flatMap fun c=>[c.A,c.B]).length=2*l.length:=by
 induction l with
 |nil=>rfl
 |cons e l ih=>show([e.A,e.B]++l.flatMap fun c=>[c.A,c.B]).length=_;rw[List.length_append,ih];simp;omega
theorem zpM(l:List Cipher):(zc8 l).length=2*l.length+1:=by unfold zc8;rw[List.length_cons,zy0]
theorem zpj(L:List (List Int))(i:Nat):((L.take i).flatMap zaF).length≤(L.flatMap zaF).length:=by
 have h:(L.take i).flatMap zaF++(L.drop i).flatMap zaF=L.flatMap zaF:=by rw[←List.flatMap_append,List.take_append_drop]
 rw[←h,List.length_append];omega
theorem zqK{L:List (List Int)}{i:Nat}(hi:i<L.length):L[i].length+1≤(L.flatMap zaF).length:=by
 have h:=zpj L (i+1);rw[List.take_succ_eq_append_getElem hi,List.flatMap_append,List.length_append]at h;have e:([L[i]].flatMap zaF).length=L[i].length+1:=by simp[zaF]
 omega
theorem zzy{L:List (List Int)}(h:(zbT L).length≤400)(hd:(zbT L).all zaX=true):zb8 L=some (zbT L,true):=by
 have hn:(L.flatMap zaF).length+1≤400:=by simpa[zbT]using h
 unfold zb8
 have e:zau (σ:=(List Int)) (β:=(List Int) ⊕ (List Int×Bool)) (fun i5 s4=>(ix L i5).bind fun x11=>(zcF x11).bind fun z12=>
  gd ((s4.length+z12.length)*8≤140737488355328∧s4.length+z12.length≤4611686018427387904)<|
  if decide (400<((s4++z12).length:Int))=true then(some (.out (.inr ([],false))))else(some (.go (s4++z12)))) (fun s4=>.inl s4) (L.length) 0 [(L.length:Int)]=some (.inl (zbT L)):=by
  refine zal (zaQ (fun i s=>s=(L.length:Int)::(L.take i).flatMap zaF∧i≤L.length) ⟨rfl,by omega⟩ ?_ fun s h=>by rw[h.1,List.take_length];rfl);rintro i s hi ⟨rfl,_⟩;have h1:=zpj L (i+1);have h2:=zqK hi
  have e1:(L.length:Int)::(L.take i).flatMap zaF++zaF L[i]=(L.length:Int)::(L.take (i+1)).flatMap zaF:=by
   rw[List.take_succ_eq_append_getElem hi,List.flatMap_append];simp
  have e2:=congrArg List.length e1;rw[List.length_append,List.length_cons,List.length_cons]at e2;refine zbm hi (zae (zml (by omega)) (zas (by rw[List.length_cons];omega) (zbd ?_ (zab ⟨e1,by omega⟩))));rw[List.length_append,List.length_cons];exact decide_eq_false (by omega)
 have hr:za5 (zbT L)=true:=by unfold za5;rw[hd,decide_eq_true (by omega)];rfl
 have hrec:zdO (zbT L)=some (zbT L,true):=by rw[zk2,if_pos hr]
 rw[e,Option.bind_some,Sum.elim_inl,hrec,Option.bind_some]
def zeR(x:Sealed):List (List Int):=[[x.Voter],zc8 x.Ciphers]++(x.Proofs++[x.Sum]).map zdg
def zgJ(x:Sealed):List Int:=zbT (zeR x)
theorem zmO(p:Proof):(zdg p).length=p.Commits.length+p.Challenges.length+p.Responses.length+3:=by simp[zdg,zaF];omega
structure StOk (gr:Group) (l:List EqualLog):Prop where
 n:1≤l.length∧l.length≤8
 h:∀e∈l,zaq gr e.G1=true∧zaq gr e.Y1=true∧zaq gr e.G2=true∧zaq gr e.Y2=true
def zk6(gr:Group)(l:List EqualLog)(p:Proof)(i:Nat):Bool:=
 !((siV gr (l.getD i q0).G1 (l.getD i q0).Y1 (p.Challenges.getD i 0) (p.Responses.getD i 0) !=p.Commits.getD (2*i) 0)||(siV gr (l.getD i q0).G2 (l.getD i q0).Y2 (p.Challenges.getD i 0) (p.Responses.getD i 0) !=p.Commits.getD (2*i+1) 0))
def zll(gr:Group)(l:List EqualLog)(p:Proof):Bool:=((p.Commits.length:Int) !=2*(l.length:Int))||(((p.Challenges.length:Int) !=(l.length:Int))||(((p.Responses.length:Int) !=(l.length:Int))||(!p.Commits.all (zaq gr)||(!p.Challenges.all (zgj gr)|| !p.Responses.all (zgj gr)))))
def zkf(gr:Group)(s:ByteArray)(l:List EqualLog)(p:Proof):Bool:= !zll gr l p&&(((List.range l.length).all (zk6 gr l p))&&(smN gr.Q p.Challenges p.Challenges.length==chG gr s (flE l++p.Commits)))
section
variable {gr:Group}
theorem zBl(k:OkG gr){g y c:Int}(hg:zaq gr g=true)(hy:zaq gr y=true)(hc:zaq gr c=true)(e z:Int):zb3 gr g z=zc4 gr [c,zb3 gr y e]↔siV gr g y e z=c:=by
 have h1:=zmg k hg;have h2:=zmg k hy;have h3:=zmg k hc;generalize dl gr g=a at h1;generalize dl gr y=b at h2;generalize dl gr c=d at h3;subst h1 h2 h3;unfold siV;rw[zrw k,zrw k,zrw k,zgC k,zgC k];have e1:d+b*e+b*(0-e)=d:=by rw[Int.mul_sub];omega
 have e2:a*z+b*(0-e)+b*e=a*z:=by rw[Int.mul_sub];omega
 constructor
 ·intro h;rw[←zgC k,h,zgC k,e1]
 intro h;rw[←zgC k,←h,zgC k,e2]
theorem zBE(k:OkG gr){g y c:Int}(hg:zaq gr g=true)(hy:zaq gr y=true)(hc:zaq gr c=true)(e z:Int):(zb3 gr g z !=zc4 gr [c,zb3 gr y e])=(siV gr g y e z !=c):=by
 have h:=zBl k hg hy hc e z;rw[Bool.eq_iff_iff,bne_iff_ne,bne_iff_ne];exact⟨fun a b=>a (h.2 b),fun a b=>a (h.1 b)⟩
theorem zua{l:List EqualLog}{p:Proof}(h:zll gr l p=false):(p.Commits.length=2*l.length∧p.Challenges.length=l.length∧p.Responses.length=l.length)∧p.Commits.all (zaq gr)=true∧p.Challenges.all (zgj gr)=true∧p.Responses.all (zgj gr)=true:=by
 unfold zll at h;simp only[Bool.or_eq_false_iff,bne_eq_false_iff_eq,Bool.not_eq_false']at h;exact⟨⟨by omega,by omega,by omega⟩,h.2.2.2⟩
theorem ztq(k:OkG gr){l:List EqualLog}(h:∀e∈l,zaq gr e.G1=true∧zaq gr e.Y1=true∧zaq gr e.G2=true∧zaq gr e.Y2=true){S:List Int}(hS:∀z∈S,R9 z):(flE l++S).all zaX=true:=by
 rw[List.all_append,zyW hS,Bool.and_true];refine zyW fun z hz=>?_
 obtain⟨e,he,hz⟩:=List.mem_flatMap.1 hz;obtain⟨h1,h2,h3,h4⟩:=h e he;simp only[List.mem_cons,List.not_mem_nil,or_false]at hz;rcases hz with rfl|rfl|rfl|rfl
 ·exact ze9 k h1
 ·exact ze9 k h2
 ·exact ze9 k h3
 exact ze9 k h4
theorem zBc(k:OkG gr){l:List EqualLog}(S:StOk gr l)(p:Proof):zdB gr l p=some (!zll gr l p&&(List.range l.length).all (zk6 gr l p)):=by
 have hp:=k.p;have hq:=k.q;have hn:=S.n;unfold zdB;rw[zaj (n:=2*(l.length:Int)) (by omega) (by omega)];simp only[zk5 k,zp4 (gr:=gr) (by omega) (by omega),Option.bind_some,zeG];rw[show(((p.Commits.length:Int) !=2*(l.length:Int))||(((p.Challenges.length:Int) !=(l.length:Int))||(((p.Responses.length:Int) !=(l.length:Int))||(!p.Commits.all (zaq gr)||(!p.Challenges.all (zgj gr)|| !p.Responses.all (zgj gr))))))=zll gr l p from rfl];cases hg:zll gr l p with
 |true=>rfl
 |false=>
  obtain⟨⟨l1,l2,l3⟩,c1,c2,c3⟩:=zua hg;rw[if_neg (by simp),zjJ (zk6 gr l p) false true fun i hi=>?_]
  ·cases (List.range l.length).all (zk6 gr l p)<;>rfl
  ·have he:=S.h _ (List.getElem_mem hi);have hc:E9 gr.Q (p.Challenges.getD i 0):=zpG.1 (zwP (P:=fun z=>zgj gr z=true) (List.all_eq_true.1 c2) (by omega));have w1:i64.wrap (2*(i:Int))=((2*i:Nat):Int):=wNL (by omega) (by omega);have w2:i64.wrap (((2*i:Nat):Int)+1)=((2*i+1:Nat):Int):=wNL (by omega) (by omega);rw[zaY hi,Option.bind_some,zjY (show i<p.Challenges.length by omega),Option.bind_some,zjY (show i<p.Responses.length by omega),Option.bind_some,zBj k he hc,Option.bind_some,w1,w2,zjY (show 2*i<p.Commits.length by omega),Option.bind_some,zjY (show 2*i+1<p.Commits.length by omega),Option.bind_some,zeG,Option.bind_some,zoT];unfold zk6;rw[zyN hi]
theorem zty(k:OkG gr){s:ByteArray}(hs:s.size≤40){l:List EqualLog}(S:StOk gr l)(p:Proof):zbq gr s l p=some (zkf gr s l p):=by
 have hp:=k.p;have hq:=k.q;have hn:=S.n;unfold zbq zkf;rw[zBc k S,Option.bind_some];cases hg:zll gr l p with
 |true=>rfl
 |false=>
  cases ha:(List.range l.length).all (zk6 gr l p)with
  |false=>rfl
  |true=>
   obtain⟨⟨l1,l2,l3⟩,c1,c2,c3⟩:=zua hg;have hfl:=zsE l
   have hch:zb9 gr s l p.Commits=some (chG gr s (flE l++p.Commits),true):=by
    unfold zb9;rw[ztE (by omega)];exact zal (zae rfl (zas (by omega) (zae (chL k hs (by rw[List.length_append];omega) (ztq k S.h (zhD k c1))).1 (zab rfl))))
   have hsm:=(zvZ (q:=gr.Q) (l:=p.Challenges) (by omega) fun z hz=>zpG.1 (List.all_eq_true.1 c2 z hz)).1;exact zal (zbd rfl (zae hch (zae (a:=smN gr.Q p.Challenges p.Challenges.length==chG gr s (flE l++p.Commits)) (zal (zgA rfl (zae hsm (zab rfl)))) (zab rfl))))
theorem ztp(k:OkG gr){s:ByteArray}(hs:s.size≤40){l:List EqualLog}(S:StOk gr l)(p:Proof):zcP gr s l p=some (zkf gr s l p):=by
 have hp:=k.p;have hq:=k.q;have hn:=S.n;unfold zcP zkf;rw[zaj (n:=2*(l.length:Int)) (by omega) (by omega)];simp only[zoC k,ztL (gr:=gr) (by omega) (by omega),Option.bind_some,zeG];rw[show(((p.Commits.length:Int) !=2*(l.length:Int))||(((p.Challenges.length:Int) !=(l.length:Int))||(((p.Responses.length:Int) !=(l.length:Int))||(!p.Commits.all (zaq gr)||(!p.Challenges.all (zgj gr)|| !p.Responses.all (zgj gr))))))=zll gr l p from rfl];cases hg:zll gr l p with
 |true=>rfl
 |false=>
  obtain⟨⟨l1,l2,l3⟩,c1,c2,c3⟩:=zua hg;have hfl:=zsE l
  have hch:zf3 gr s l p.Commits=some (chG gr s (flE l++p.Commits)):=by
   unfold zf3;rw[ztE (by omega)];exact zal (zae rfl (zas (by omega) (zae (chL k hs (by rw[List.length_append];omega) (ztq k S.h (zhD k c1))).2 (zab rfl))))
  have hsm:=(zvZ (q:=gr.Q) (l:=p.Challenges) (by omega) fun z hz=>zpG.1 (List.all_eq_true.1 c2 z hz)).2;rw[if_neg (by simp),hsm,Option.bind_some,hch,Option.bind_some];have e:(smN gr.Q p.Challenges p.Challenges.length !=chG gr s (flE l++p.Commits))= !(smN gr.Q p.Challenges p.Challenges.length==chG gr s (flE l++p.Commits)):=rfl;rw[e];cases (smN gr.Q p.Challenges p.Challenges.length==chG gr s (flE l++p.Commits))with
  |false=>rw[if_pos (show(!false)=true from rfl),Bool.and_false,Bool.and_false]
  |true=>
   rw[if_neg (by simp),zjJ (zk6 gr l p) false true fun i hi=>?_]
   ·cases (List.range l.length).all (zk6 gr l p)<;>rfl
   ·obtain⟨h1,h2,h3,h4⟩:=S.h _ (List.getElem_mem hi);have hcm:∀j,j<p.Commits.length→zaq gr (p.Commits.getD j 0)=true:=fun j hj=>zwP (P:=fun z=>zaq gr z=true) (List.all_eq_true.1 c1) hj
    have w1:i64.wrap (2*(i:Int))=((2*i:Nat):Int):=wNL (by omega) (by omega);have w2:i64.wrap (((2*i:Nat):Int)+1)=((2*i+1:Nat):Int):=wNL (by omega) (by omega);have m1:=m2S k (ze9 k (hcm (2*i) (by omega))) (zgR k l[i].Y1 (p.Challenges.getD i 0));have m2:=m2S k (ze9 k (hcm (2*i+1) (by omega))) (zgR k l[i].Y2 (p.Challenges.getD i 0));rw[zaY hi,Option.bind_some,zjY (show i<p.Challenges.length by omega),Option.bind_some,zjY (show i<p.Responses.length by omega),Option.bind_some,w1,w2,zjY (show 2*i<p.Commits.length by omega),Option.bind_some,pwS k (ze9 k h1),Option.bind_some,pwS k (ze9 k h2),Option.bind_some,m1,Option.bind_some,zjY (show 2*i+1<p.Commits.length by omega),Option.bind_some,pwS k (ze9 k h3),Option.bind_some,pwS k (ze9 k h4),Option.bind_some,m2,Option.bind_some,zBE k h1 h2 (hcm _ (by omega)),zBE k h3 h4 (hcm _ (by omega)),zeG,Option.bind_some,zoT];unfold zk6;rw[zyN hi]
end
noncomputable def zm0(gr:Group)(l:List Cipher):Cipher:=⟨pg gr (smL (fun i=>dl gr (l.getD i ⟨0,0⟩).A) l.length),pg gr (smL (fun i=>dl gr (l.getD i ⟨0,0⟩).B) l.length)⟩
def wdt(ct:Contest):Int:=if zew ct=true then ct.Options else 1
def zpb(p:Proof):Bool:=((p.Commits.length:Int)==0)&&(((p.Challenges.length:Int)==0)&&((p.Responses.length:Int)==0))
def znV(gr:Group)(ct:Contest)(x:Sealed):Bool:= !inB 0 999999 x.Voter||(((x.Ciphers.length:Int) !=wdt ct)||(((x.Proofs.length:Int) !=wdt ct)|| !(decide (x.Ciphers.length≤24)&&x.Ciphers.all (zcE gr))))
end Go.Pm
