/-
  FnExactCountedBallots: plain laws.
  No condition.
-/
import Derived.Test.YtplemekcclpaoaaGreatDoorM42b
import Derived.Test.YtplemekcclpaoaaGreatDoorPmZ
namespace Go.Pm
open Go.Am IntKind
set_option linter.unusedVariables false
set_option linter.unusedSimpArgs false
variable{a b c d i q x y:Int}{bs:List (List Int)}{ct:Contest}{e:Entry}{gr:Group}{h k m n:Nat}{im l o:List Int}{p:Plan}{s:ByteArray}
theorem zxr{n:Int}(h0:0≤n)(h1:n≤1048576)(hl:l.length≤1048576):∃z,zcz l n=some z∧z≤1048576:=by
 unfold zcz;rw[zak (by omega) (by omega)];by_cases h:n-(l.length:Int)<0
 ·exact⟨-1,by simp[h],by omega⟩
 exact⟨n-l.length,by simp[h],by omega⟩
theorem zxZ{α:Type}{l r:List α}(hk:k<l.length)(hr:r.length=l.length)(h:r.take k=l.take k):(r.set k l[k]).take (k+1)=l.take (k+1):=by
 rw[List.take_succ_eq_append_getElem (by simpa[hr]using hk),List.take_succ_eq_append_getElem hk];simp[List.take_set_of_le,h]
theorem zjH(hl:l.length≤1048576):zc3 l=some l:=by
 unfold zc3;rw[zb9 (by omega),Option.bind_some]
 obtain⟨b,hb,hp⟩:=zia (β:=List Int) (σ:=List Int×Int) (step:=fun s42=>
  if decide (s42.2<(l.length:Int))=true then(
  (ix l s42.2).bind fun x53=>
  (ix s42.1 s42.2).bind fun x60=>
  some (.go (s42.1.set s42.2.toNat x53,i64.wrap (s42.2+1))))else(
  some (.out s42.1))) (s0:=(List.replicate l.length 0,0)) l.length (fun k s=>s.2=(k:Int)∧s.1.length=l.length∧s.1.take k=l.take k)
  (fun b=>b=l) ⟨rfl,by simp,by simp⟩
  (by
    rintro k ⟨a,b⟩ hk ⟨e,h2,h3⟩;simp only at e h2 h3;subst e;have hd:decide ((k:Int)<(l.length:Int))=true:=by simpa using hk
    refine .inl ⟨(a.set k l[k],(k:Int)+1),?_,by simp,by simp[h2],zxZ hk h2 h3⟩;simp only[hd,if_true,za3 hk,Option.bind_some,za3 (l:=a) (k:=k) (by omega)];rw[zak (by omega) (by omega)]
    simp)
  (by
    rintro⟨a,b⟩ ⟨e,h2,h3⟩;simp only at e h2 h3;subst e;refine⟨a,by simp,?_⟩;rw[List.take_of_length_le (by omega),List.take_of_length_le (Nat.le_refl _)]at h3
    exact h3)
 rw[hb,Option.bind_some,hp]
theorem zis(hl:l.length≤1048576):zbG l l=some true:=by
 unfold zbG;simp only[bne_self_eq_false,Bool.false_eq_true,if_false]
 obtain⟨b,hb,hp⟩:=zia (β:=Unit ⊕ Bool) (σ:=Int) (step:=fun s52=>
  if decide (s52<(l.length:Int))=true then(
  (ix l s52).bind fun x63=>
  (ix l s52).bind fun x70=>
  if(x63 !=x70)=true then(
  some (.out (.inr false)))else(
  some (.go (i64.wrap (s52+1)))))else(
  some (.out (.inl ())))) (s0:=0) l.length (fun k s=>s=(k:Int)) (fun b=>b=.inl ()) rfl
  (by
    rintro k a hk e;subst e;have hd:decide ((k:Int)<(l.length:Int))=true:=by simpa using hk
    refine .inl ⟨(k:Int)+1,?_,by simp⟩;simp only[hd,if_true,za3 hk,Option.bind_some,bne_self_eq_false,Bool.false_eq_true,if_false]
    rw[zak (by omega) (by omega)])
  (by
    rintro a e;subst e
    exact⟨_,by simp,rfl⟩)
 rw[hb,Option.bind_some,hp];rfl
theorem zvL{r:List Int}(h1:k<l.length)(h2:k<r.length)(h:l.take k=r.take k)(he:l[k]=r[k]):l.take (k+1)=r.take (k+1):=by
 rw[List.take_succ_eq_append_getElem h1,List.take_succ_eq_append_getElem h2,h,he]
theorem zja(a b:List Int):zbM a b=some (decide (a=b)):=by
 unfold zbM;by_cases hl:a.length=b.length
 ·have e:((a.length:Int) !=(b.length:Int))=false:=by simp[hl]
  simp only[e,Bool.false_eq_true,if_false]
  obtain⟨r,hb,hp⟩:=zn7 (σ:=Unit) (β:=Unit ⊕ Bool) (body:=fun i16 s15=>
   (ix a i16).bind fun x25=>
   (ix b i16).bind fun x32=>
   if(x25 !=x32)=true then(
   some (.out (.inr false)))else(
   some (.go ()))) (stop:=fun s15=>.inl ()) (m:=a.length) (i0:=0) (s0:=()) (fun k _=>a.take k=b.take k)
   (fun r=>Sum.elim (fun _=>a=b) (fun r=>r=false∧a≠b) r) (by simp)
   (by
     rintro k s hk hI;have hk2:k<b.length:=by omega
     rw[Int.zero_add];simp only[za3 hk,za3 hk2,Option.bind_some];by_cases he:a[k]=b[k]
     ·exact .inl ⟨(),by simp[he],zvL hk hk2 hI he⟩
     ·exact .inr ⟨.inr false,by simp[he],rfl,fun h=>by subst h;exact he rfl⟩)
   (by
     rintro s hI;rw[List.take_length,hl,List.take_length]at hI
     exact hI)
  rw[hb,Option.bind_some];cases r with
  |inl u=>have hp:a=b:=hp;simp[hp]
  |inr r=>
   obtain⟨h1,h2⟩:r=false∧a≠b:=hp;simp[h1,h2]
 have e:((a.length:Int) !=(b.length:Int))=true:=by simp;omega
 have:a≠b:=fun h=>hl (by rw[h])
 simp[e,this]
def MI:List Int→Int→Prop
 |[],_=>True
 |x::l,k=>x=k∧MI l (k+1)
theorem zAw:∀{l:List Int}{k:Int}(i:Nat) (h:i<l.length),MI l k→l[i]=k+i:=by
 intro l;induction l with
 |nil=>intro k i h;simp at h
 |cons x l ih=>
  intro k i h hm;cases i with
  |zero=>simp[hm.1]
  |succ i=>
   have:=ih (k:=k+1) i (by simpa using h) hm.2;simp only[List.getElem_cons_succ,this]
   push_cast;omega
theorem zDc:∀{l:List Int}{k:Int},(∀(i:Nat) (h:i<l.length),l[i]=k+i)→MI l k:=by
 intro l;induction l with
 |nil=>intro k _;trivial
 |cons x l ih=>
  intro k h;refine⟨by have h1:x=k+((0:Nat):Int):=h 0 (by simp);rw[h1];simp,ih fun i hi=>?_⟩;have:=h (i+1) (by simpa using hi);simp only[List.getElem_cons_succ]at this;rw[this];push_cast;omega
theorem zjd(l:List Int)(k:Int)(h0:0≤k)(hk:k+l.length≤1152921504606846976)(hl:l.length≤1048576):∃r,zaK l k=some (k+l.length,r)∧r.length=l.length∧MI r k:=by
 unfold zaK
 obtain⟨x,e,r,rfl,h1,h2⟩:=zia (σ:=(List Int)×Int×Int) (β:=(List Int×Int)) (step:=fun s29=>
  if decide (s29.2.2<(s29.1.length:Int))=true then(
  (ix s29.1 s29.2.2).bind fun x40=>
  some (.go (s29.1.set s29.2.2.toNat s29.2.1,i64.wrap (s29.2.1+1),i64.wrap (s29.2.2+1))))else(
  some (.out (s29.1,s29.2.1)))) (s0:=(l,k,0)) l.length
  (fun i s=>∃r:List Int,s=(r,k+(i:Int),(i:Int))∧r.length=l.length∧∀(j:Nat) (h:j<r.length),j<i→r[j]=k+j)
  (fun x=>∃r:List Int,x=(r,k+l.length)∧r.length=l.length∧MI r k)
  ⟨l,by simp,rfl,fun j h1 h2=>by omega⟩
  (by
    rintro i s hi ⟨r,rfl,h1,h2⟩;have hd:decide ((i:Int)<(r.length:Int))=true:=by simp only[decide_eq_true_eq];omega
    refine .inl ⟨(r.set i (k+i),k+((i+1:Nat):Int),((i+1:Nat):Int)),?_,r.set i (k+i),rfl,by simp[h1],fun j hj hji=>?_⟩
    ·simp only[hd,if_true,za3 (l:=r) (k:=i) (by omega),Option.bind_some,Int.toNat_natCast];rw[zak (n:=(i:Int)+1) (by omega) (by omega),zak (by omega) (by omega)];have e1:k+(i:Int)+1=k+((i+1:Nat):Int):=by push_cast;omega
     have e2:(i:Int)+1=((i+1:Nat):Int):=by push_cast;rfl
     rw[e1,e2]
    ·rw[List.getElem_set];split
     ·rename_i e;subst e;rfl
     ·exact h2 j (by simpa using hj) (by omega))
  (by
    rintro s ⟨r,rfl,h1,h2⟩
    exact⟨(r,k+l.length),by simp[h1],r,rfl,h1,zDc fun i hi=>h2 i hi (by omega)⟩)
 rw[e,Option.bind_some];exact⟨r,rfl,h1,h2⟩
theorem zyR(l:List Int)(k:Int)(h0:0≤k)(hk:k+l.length≤1152921504606846976)(hl:l.length≤1048576)(hm:MI l k):zej l k=some (k+l.length):=by
 unfold zej
 obtain⟨x,e,rfl⟩:=zia (σ:=Int×Int) (β:=Int ⊕ Int) (step:=fun s7=>
  if decide (s7.2<(l.length:Int))=true then(
  (ix l s7.2).bind fun x18=>
  if(x18 !=s7.1)=true then(
  some (.out (.inr (-1))))else(
  some (.go (i64.wrap (s7.1+1),i64.wrap (s7.2+1)))))else(
  some (.out (.inl s7.1)))) (s0:=(k,0)) l.length (fun i s=>s=(k+(i:Int),(i:Int))) (fun x=>x=.inl (k+l.length)) (by simp)
  (by
    rintro i s hi rfl;have hd:decide ((i:Int)<(l.length:Int))=true:=by simpa using hi
    refine .inl ⟨(k+((i+1:Nat):Int),((i+1:Nat):Int)),?_,rfl⟩;simp only[hd,if_true,za3 hi,Option.bind_some,zAw i hi hm,bne_self_eq_false,Bool.false_eq_true,if_false];rw[zak (n:=(i:Int)+1) (by omega) (by omega),zak (by omega) (by omega)];have e1:k+(i:Int)+1=k+((i+1:Nat):Int):=by push_cast;omega
    have e2:(i:Int)+1=((i+1:Nat):Int):=by push_cast;rfl
    rw[e1,e2])
  (by
    rintro s rfl
    exact⟨_,by simp,rfl⟩)
 rw[e];rfl
theorem zdX(a b c:Int):zax a b c=some (decide (b≤a)&&decide (a≤c)):=by
 unfold zax;by_cases h:b≤a<;>simp[h]
theorem zg7(a b c:Int):zaV a b c=some (decide (b≤a)&&decide (a≤c)):=by
 unfold zaV;by_cases h:b≤a<;>simp[h]
theorem zna(a:Int):zeW a=some (decide (2≤a)&&decide (a≤2000000000)):=by
 unfold zeW;rw[zdX];rfl
theorem zcO(a b:Nat):(a:Int).tmod (b:Int)=((a%b:Nat):Int):=by rw[Int.tmod_eq_emod_of_nonneg (by omega)];exact(Int.natCast_emod _ _).symm
theorem zvU(a b:Nat):(a:Int).tdiv (b:Int)=((a/b:Nat):Int):=by rw[Int.tdiv_eq_ediv_of_nonneg (by omega)];exact(Int.natCast_ediv _ _).symm
theorem zho(a b:Nat):(a:Int)*(b:Int)=((a*b:Nat):Int):=(Int.natCast_mul _ _).symm
theorem zzw{e:Nat}(he:e≤9223372036854775807):i64.wrap (BitVec.ofInt IntKind.i64.bits (e:Int)&&&BitVec.ofInt IntKind.i64.bits 1).toNat=((e%2:Nat):Int):=by
 have h1:(BitVec.ofInt IntKind.i64.bits (e:Int)&&&BitVec.ofInt IntKind.i64.bits 1).toNat=e%2:=by
  rw[BitVec.toNat_and]
  have a1:(BitVec.ofInt IntKind.i64.bits (e:Int)).toNat=e:=by
   rw[BitVec.toNat_ofInt];have:IntKind.i64.bits=64:=rfl;rw[this];omega
  have a2:(BitVec.ofInt IntKind.i64.bits 1).toNat=1:=by decide
  rw[a1,a2,Nat.and_one_is_mod]
 rw[h1,zak (by omega) (by omega)]
theorem zzt{a e:Nat}(ha:a≤2000000000)(hm:1≤m)(hm2:m≤2000000000)(he:e≤9223372036854775807):zcZ (a:Int) (e:Int) (m:Int)=some ((a^e%m:Nat):Int):=by
 unfold zcZ
 refine zaj (zaq (by omega) (zag (φ:=(· =((a^e%m:Nat):Int))) (zk3 (φ:=(· =((a^e%m:Nat):Int))) (fun s=>∃x y o:Nat,s=((x:Int),(y:Int),(o:Int))∧x≤2000000000∧y≤e∧o<m∧o*x^y%m=a^e%m) (fun s=>s.2.1.toNat)
  ⟨a,e,1%m,by rw[show(1:Int)=((1:Nat):Int)from rfl,zcO],ha,Nat.le_refl _,Nat.mod_lt _ (by omega),by rw[Nat.mod_mul_mod,Nat.one_mul]⟩ ?_) fun x hx=>zab hx))
 rintro s ⟨x,y,o,rfl,hx,hy,ho,hi⟩;refine zan (fun h0=>?_) fun h0=>?_
 ·have h0:0<y:=by simpa using h0
  have hox:o*x≤4000000000000000000:=Nat.le_trans (Nat.mul_le_mul (show o≤2000000000 by omega) hx) (by decide);have hxx:x*x≤4000000000000000000:=Nat.le_trans (Nat.mul_le_mul hx hx) (by decide);refine zag (ψ:=fun o'=>∃k:Nat,o'=(k:Int)∧k<m∧k*(x*x)^(y/2)%m=a^e%m) ?_ ?_
  ·simp only[zzw (show y≤9223372036854775807 by omega)];refine zan (fun h1=>zaq (by omega) (zab ⟨o*x%m,?_,Nat.mod_lt _ (by omega),?_⟩)) fun h1=>zab ⟨o,rfl,ho,?_⟩
   ·rw[zho,zak (by omega) (by omega),zcO]
   ·have h1:y%2=1:=by
     have:((y%2:Nat):Int)=1:=by simpa using h1
     omega
    rw[Nat.mod_mul_mod,←hi,←Nat.pow_two,←Nat.pow_mul,Nat.mul_assoc,←Nat.pow_succ'];congr 3;omega
   have h1:y%2=0:=by
    have:¬((y%2:Nat):Int)=1:=by simpa using h1
    omega
   rw[←hi,←Nat.pow_two,←Nat.pow_mul];congr 3;omega
  rintro o' ⟨k,rfl,hk,hk2⟩;refine zaq (by omega) (zab ⟨⟨x*x%m,y/2,k,?_,by have:=Nat.mod_lt (x*x) (show 0<m by omega);omega,by omega,hk,?_⟩,?_⟩)
  ·rw[zho,zak (by omega) (by omega),zcO];have e3:(y:Int).fdiv 2=((y/2:Nat):Int):=by rw[Int.fdiv_eq_ediv_of_nonneg _ (by omega)];rfl
   show(_,(y:Int).fdiv 2,_)=_;rw[e3]
  ·rw[Nat.mul_mod,←Nat.pow_mod,←Nat.mul_mod];exact hk2
  show((y:Int).fdiv 2).toNat<(y:Int).toNat;rw[Int.fdiv_eq_ediv_of_nonneg _ (by omega)];omega
 have h0:y=0:=by
  have:¬(0<y):=by simpa using h0
  omega
 subst h0;refine zab ?_;show(o:Int)=_;rw[Nat.pow_zero,Nat.mul_one,Nat.mod_eq_of_lt ho]at hi;rw[hi]
theorem zxf{a e:Nat}(ha:a≤2000000000)(hm:1≤m)(hm2:m≤2000000000)(he:e≤9223372036854775807):zcy (a:Int) (e:Int) (m:Int)=some ((a^e%m:Nat):Int):=by
 unfold zcy
 refine zaj (zaq (by omega) (zag (φ:=(· =((a^e%m:Nat):Int))) (zk3 (φ:=(· =((a^e%m:Nat):Int))) (fun s=>∃x y o:Nat,s=((x:Int),(y:Int),(o:Int))∧x≤2000000000∧y≤e∧o<m∧o*x^y%m=a^e%m) (fun s=>s.2.1.toNat)
  ⟨a,e,1%m,by rw[show(1:Int)=((1:Nat):Int)from rfl,zcO],ha,Nat.le_refl _,Nat.mod_lt _ (by omega),by rw[Nat.mod_mul_mod,Nat.one_mul]⟩ ?_) fun x hx=>zab hx))
 rintro s ⟨x,y,o,rfl,hx,hy,ho,hi⟩;refine zan (fun h0=>?_) fun h0=>?_
 ·have h0:0<y:=by simpa using h0
  have hox:o*x≤4000000000000000000:=Nat.le_trans (Nat.mul_le_mul (show o≤2000000000 by omega) hx) (by decide);have hxx:x*x≤4000000000000000000:=Nat.le_trans (Nat.mul_le_mul hx hx) (by decide);have e2:(y:Int).tmod 2=((y%2:Nat):Int):=zcO y 2;refine zag (ψ:=fun o'=>∃k:Nat,o'=(k:Int)∧k<m∧k*(x*x)^(y/2)%m=a^e%m) ?_ ?_
  ·simp only[e2];refine zan (fun h1=>zaq (by omega) (zab ⟨o*x%m,?_,Nat.mod_lt _ (by omega),?_⟩)) fun h1=>zab ⟨o,rfl,ho,?_⟩
   ·rw[zho,zak (by omega) (by omega),zcO]
   ·have h1:y%2=1:=by
     have:((y%2:Nat):Int)=1:=by simpa using h1
     omega
    rw[Nat.mod_mul_mod,←hi,←Nat.pow_two,←Nat.pow_mul,Nat.mul_assoc,←Nat.pow_succ'];congr 3;omega
   have h1:y%2=0:=by
    have:¬((y%2:Nat):Int)=1:=by simpa using h1
    omega
   rw[←hi,←Nat.pow_two,←Nat.pow_mul];congr 3;omega
  rintro o' ⟨k,rfl,hk,hk2⟩;have e3:(y:Int).tdiv 2=((y/2:Nat):Int):=zvU y 2;refine zaq (by omega) (zab ⟨⟨x*x%m,y/2,k,?_,by have:=Nat.mod_lt (x*x) (show 0<m by omega);omega,by omega,hk,?_⟩,?_⟩)
  ·simp only[e3];rw[zho,zak (n:=((x*x:Nat):Int)) (by omega) (by omega),zcO,zak (n:=((y/2:Nat):Int)) (by omega) (by omega)]
  ·rw[Nat.mul_mod,←Nat.pow_mod,←Nat.mul_mod];exact hk2
  show(i64.wrap ((y:Int).tdiv 2)).toNat<(y:Int).toNat;rw[e3,zak (by omega) (by omega)];omega
 have h0:y=0:=by
  have:¬(0<y):=by simpa using h0
  omega
 subst h0;refine zab ?_;show(o:Int)=_;rw[Nat.pow_zero,Nat.mul_one,Nat.mod_eq_of_lt ho]at hi;rw[hi]
theorem zCC(h0:0<q)(h1:q≤2000000000):zh7 a q=some (a%q):=by
 unfold zh7;rw[zb9 (by omega),zb9 (by omega)];have b1:a.tmod q<q:=Int.tmod_lt_of_pos a h0
 have b2: -q<a.tmod q:=by
  have:=Int.lt_tmod_of_pos a h0;omega
 rw[zak (by omega) (by omega),Int.tmod_eq_emod_of_nonneg (by omega)];congr 1;rw[Int.add_emod_right];rw[Int.tmod_def,Int.sub_emod,Int.mul_emod_right,Int.sub_zero,Int.emod_emod]
theorem zws(h0:0<q)(h1:q≤2000000000):zg8 a q=some (a%q):=by
 unfold zg8;rw[zb9 (by omega),zb9 (by omega)];have b1:a.tmod q<q:=Int.tmod_lt_of_pos a h0
 have b2: -q<a.tmod q:=by
  have:=Int.lt_tmod_of_pos a h0;omega
 rw[zak (by omega) (by omega),Int.tmod_eq_emod_of_nonneg (by omega)];congr 1;rw[Int.add_emod_right];rw[Int.tmod_def,Int.sub_emod,Int.mul_emod_right,Int.sub_zero,Int.emod_emod]
def Pr(n:Nat):Prop:=2≤n∧∀d,2≤d→d*d≤n→n%d≠0
open Classical in
noncomputable def prB(n:Int):Bool:=decide (Pr n.toNat)
theorem zix :prB (n:Int)=true↔Pr n:=by simp[prB]
theorem zrk(n:Int)(h:n≤2000000000):ze9 n=some (prB n):=by
 unfold ze9;refine zaj (zan (fun h0=>zab ?_) fun h0=>?_)
 ·have h0:n<2:=by simpa using h0
  symm;unfold prB;rw[decide_eq_false_iff_not];intro hp;have:=hp.1;omega
 have h0:¬n<2:=by simpa using h0
 obtain⟨n,rfl⟩:=Int.eq_ofNat_of_zero_le (show 0≤n by omega);refine zag (ψ:=fun b=>(b=.inl ()∧Pr n)∨(b=.inr false∧¬Pr n)) (zk3 (fun s=>∃d:Nat,s=(d:Int)∧2≤d∧d≤44723∧∀k,2≤k→k<d→k*k≤n→n%k≠0) (fun s=>50000-s.toNat) ⟨2,rfl,by omega,by omega,fun k h1 h2=>by omega⟩ ?_) ?_
 ·rintro s ⟨d,rfl,hd,hd2,hi⟩;have hdd:d*d≤2000146729:=Nat.le_trans (Nat.mul_le_mul hd2 hd2) (by decide);rw[zho,zak (by omega) (by omega)];refine zan (fun h1=>zaq (by omega) (zan (fun h2=>zab (.inr ⟨rfl,?_⟩)) fun h2=>zab ?_)) fun h1=>zab (.inl ⟨rfl,by omega,fun k hk hkn=>?_⟩)
  ·have h1:d*d≤n:=by have:=of_decide_eq_true h1;omega
   rw[zcO]at h2
   have h2 : n % d = 0 := by have:((n%d:Nat):Int)=0:=by simpa using h2
                             omega
   exact fun hp=>hp.2 d hd h1 h2
  ·have h1:d*d≤n:=by have:=of_decide_eq_true h1;omega
   rw[zcO]at h2
   have h2 : n % d ≠ 0 := by have:¬((n%d:Nat):Int)=0:=by simpa using h2
                             omega
   have hd3:d≤44722:=by
    rcases Nat.lt_or_ge d 44723 with h|h
    ·omega
    ·have:44723*44723≤d*d:=Nat.mul_le_mul h h;omega
   rw[zak (by omega) (by omega)];refine⟨⟨d+1,rfl,by omega,by omega,fun k h3 h4 h5=>?_⟩,by omega⟩;rcases Nat.lt_or_ge k d with h|h
   ·exact hi k h3 h h5
   have:k=d:=by omega
   subst this;exact h2
  have h1:n<d*d:=by have:=of_decide_eq_false h1;omega
  rcases Nat.lt_or_ge k d with h|h
  ·exact hi k hk h hkn
  have:=Nat.mul_le_mul h h;omega
 rintro b (⟨rfl,hp⟩|⟨rfl,hp⟩)
 ·exact zab (zix.2 hp).symm
 refine zab ?_;symm;unfold prB;rw[decide_eq_false_iff_not];exact hp
theorem zp1(n:Int):zeI n=some (decide (n≤2000000000)&&prB n):=by
 unfold zeI;by_cases h:2≤n∧n≤2000000000
 ·obtain⟨n,rfl⟩:=Int.eq_ofNat_of_zero_le (show 0≤n by omega);have e2:((n:Int)).tmod 2=((n%2:Nat):Int):=zcO n 2;have em:(decide (2≤(n:Int))&&decide ((n:Int)≤2000000000))=true:=by simp only[Bool.and_eq_true,decide_eq_true_eq];exact h
  rw[show(decide ((n:Int)≤2000000000)&&prB (n:Int))=prB (n:Int)by simp[h.2]];refine zaj (zag (ψ:=fun b=>b=decide (n%2=0∧n≠2)) (zae (zna _) ?_) ?_)
  ·rw[em];refine zbf rfl ?_;rw[e2];refine zan (fun h1=>zab ?_) fun h1=>zab ?_
   ·have h1 : n % 2 = 0 := by have:((n%2:Nat):Int)=0:=by simpa using h1
                              omega
    have:((n:Int) !=2)=decide (n≠2):=by
     by_cases hn:n=2
     ·subst hn;rfl
     ·have hn':¬(n:Int)=2:=by omega
      simp[hn,hn']
    rw[this];simp[h1]
   have h1 : n % 2 ≠ 0 := by have:¬((n%2:Nat):Int)=0:=by simpa using h1
                             omega
   simp[h1]
  rintro b rfl;refine zan (fun h1=>zab ?_) fun h1=>?_
  ·have h1:=of_decide_eq_true h1;symm;unfold prB;rw[decide_eq_false_iff_not];intro hp;have hn:4≤n:=by omega
   exact hp.2 2 (by omega) hn h1.1
  have h1:=of_decide_eq_false h1;refine zag (ψ:=fun b=>(b=.inl ()∧Pr n)∨(b=.inr false∧¬Pr n)) (zk3 (fun s=>∃d:Nat,s=(d:Int)∧3≤d∧d%2=1∧d≤44725∧∀k,2≤k→k<d→k*k≤n→n%k≠0) (fun s=>50000-s.toNat) ⟨3,rfl,by omega,by omega,by omega,fun k h2 h3 h4=>?_⟩ ?_) ?_
  ·have:k=2:=by omega
   subst this;intro h5;exact h1 ⟨h5,by omega⟩
  ·rintro s ⟨d,rfl,hd,hodd,hd2,hi⟩;have hdd:d*d≤2000325625:=Nat.le_trans (Nat.mul_le_mul hd2 hd2) (by decide);rw[zho,zak (by omega) (by omega)];refine zan (fun h1=>zaq (by omega) (zan (fun h2=>zab (.inr ⟨rfl,?_⟩)) fun h2=>zab ?_)) fun h1=>zab (.inl ⟨rfl,by omega,fun k hk hkn=>?_⟩)
   ·have h1:d*d≤n:=by have:=of_decide_eq_true h1;omega
    rw[zcO]at h2
    have h2 : n % d = 0 := by have:((n%d:Nat):Int)=0:=by simpa using h2
                              omega
    exact fun hp=>hp.2 d (by omega) h1 h2
   ·have h3:d*d≤n:=by have:=of_decide_eq_true h1;omega
    rw[zcO]at h2
    have h2 : n % d ≠ 0 := by have:¬((n%d:Nat):Int)=0:=by simpa using h2
                              omega
    have hd3:d≤44722:=by
     rcases Nat.lt_or_ge d 44723 with h|h
     ·omega
     ·have:44723*44723≤d*d:=Nat.mul_le_mul h h;omega
    rw[zak (by omega) (by omega)];refine⟨⟨d+2,rfl,by omega,by omega,by omega,fun k h4 h5 h6 h7=>?_⟩,by omega⟩;rcases Nat.lt_or_ge k d with h|h
    ·exact hi k h4 h h6 h7
    rcases(show k=d∨k=d+1 by omega)with e|e
    ·subst e;exact h2 h7
    have h8:n%2=0:=by
     have a1:k∣n:=Nat.dvd_of_mod_eq_zero h7;have a2:2∣k:=Nat.dvd_of_mod_eq_zero (by omega);exact Nat.mod_eq_zero_of_dvd (Nat.dvd_trans a2 a1)
    have h9:2*2≤n:=by
     have:=Nat.mul_le_mul h4 h4;omega
    exact hi 2 (by omega) (by omega) h9 h8
   have h1:n<d*d:=by have:=of_decide_eq_false h1;omega
   rcases Nat.lt_or_ge k d with h|h
   ·exact hi k hk h hkn
   have:=Nat.mul_le_mul h h;omega
  rintro b (⟨rfl,hp⟩|⟨rfl,hp⟩)
  ·exact zab (zix.2 hp).symm
  refine zab ?_;symm;unfold prB;rw[decide_eq_false_iff_not];exact hp
 have em:(decide (2≤n)&&decide (n≤2000000000))=false:=by
  rw[Bool.and_eq_false_iff,decide_eq_false_iff_not,decide_eq_false_iff_not];omega
 rw[zna,em];simp only[Option.bind_some,Bool.not_false,if_true];congr 1;symm;rw[Bool.and_eq_false_iff,decide_eq_false_iff_not];by_cases hn:n≤2000000000
 ·right;unfold prB;rw[decide_eq_false_iff_not];intro hp;have:=hp.1;omega
 exact .inl hn
structure OkG (gr:Group):Prop where
 p:3≤gr.P∧gr.P≤2000000000
 q:2≤gr.Q∧gr.Q≤gr.P-1
 d:(gr.P.toNat-1)%gr.Q.toNat=0
 g:2≤gr.G∧gr.G≤gr.P-1
 pp:Pr gr.P.toNat
 pq:Pr gr.Q.toNat
 o:gr.G.toNat^gr.Q.toNat%gr.P.toNat=1
open Classical in
noncomputable def okG(gr:Group):Bool:=decide (OkG gr)
theorem zqK :okG gr=true↔OkG gr:=by simp[okG]
theorem zgL(h:¬OkG gr):okG gr=false:=by simp[okG,h]
theorem zwv{b:Bool}(h1:b=true→OkG gr)(h2:OkG gr→b=true):b=okG gr:=by
 cases hb:b with
 |true=>exact(zqK.2 (h1 hb)).symm
 |false=>exact(zgL fun h=>by rw[h2 h]at hb;cases hb).symm
theorem zdW(h:0≤a):a=((a.toNat:Nat):Int):=by omega
theorem zjF{e m:Int}(ha:0≤a)(ha2:a≤2000000000)(hm:1≤m)(hm2:m≤2000000000)(he:0≤e)(he2:e≤9223372036854775807):zcZ a e m=some ((a.toNat^e.toNat%m.toNat:Nat):Int)∧zcy a e m=some ((a.toNat^e.toNat%m.toNat:Nat):Int):=by
 have h1:=zzt (a:=a.toNat) (e:=e.toNat) (m:=m.toNat) (by omega) (by omega) (by omega) (by omega);have h2:=zxf (a:=a.toNat) (e:=e.toNat) (m:=m.toNat) (by omega) (by omega) (by omega) (by omega);rw[←zdW ha,←zdW he,←zdW (show 0≤m by omega)]at h1 h2;exact⟨h1,h2⟩
theorem zjL{a b:Bool}:(a&&b)=true↔a=true∧b=true:=by simp
theorem zw6(gr:Group):zdM gr=some (okG gr):=by
 unfold zdM;refine zaj (zag (ψ:=fun b=>b=okG gr) ?_ fun b hb=>zab hb);refine zae (zdX _ _ _) (zan (fun h=>?_) fun h=>?_)
 ·have hp:3≤gr.P∧gr.P≤2000000000:=by simpa using h
  rw[zak (n:=gr.P-1) (by omega) (by omega)];refine zae (zdX _ _ _) (zan (fun h=>?_) fun h=>?_)
  ·have hq:2≤gr.Q∧gr.Q≤gr.P-1:=by simpa using h
   have ed:(gr.P-1).tmod gr.Q=(((gr.P.toNat-1)%gr.Q.toNat:Nat):Int):=by
    rw[zdW (show 0≤gr.P-1 by omega),zdW (show 0≤gr.Q by omega),zcO];simp only[Int.toNat_natCast];congr 2;omega
   refine zaq (by omega) ?_;rw[ed];refine zan (fun h=>?_) fun h=>?_
   ·have hd:(gr.P.toNat-1)%gr.Q.toNat=0:=by
     have:(((gr.P.toNat-1)%gr.Q.toNat:Nat):Int)=0:=by simpa using h
     omega
    refine zae (zdX _ _ _) (zan (fun h=>?_) fun h=>?_)
    ·have hg:2≤gr.G∧gr.G≤gr.P-1:=by simpa using h
     refine zae (zp1 _) (zan (fun h=>?_) fun h=>?_)
     ·have hpp:Pr gr.P.toNat:=by
       rw[zjL,zdW (show 0≤gr.P by omega),zix]at h;exact h.2
      refine zae (zp1 _) (zan (fun h=>?_) fun h=>?_)
      ·have hpq:Pr gr.Q.toNat:=by
        rw[zjL,zdW (show 0≤gr.Q by omega),zix]at h;exact h.2
       refine zae (zjF (a:=gr.G) (e:=gr.Q) (m:=gr.P) (by omega) (by omega) (by omega) (by omega) (by omega) (by omega)).1 (zab (zwv (fun h=>⟨hp,hq,hd,hg,hpp,hpq,?_⟩) fun h=>?_))
       ·have:((gr.G.toNat^gr.Q.toNat%gr.P.toNat:Nat):Int)=1:=by simpa using h
        omega
       rw[h.o];rfl
      refine zab (zgL fun hk=>?_).symm
      have:(decide (gr.Q≤2000000000)&&prB gr.Q)=true:=by
       rw[zjL,zdW (show 0≤gr.Q by omega),zix];exact⟨by simp;omega,hk.pq⟩
      rw[this]at h;cases h
     refine zab (zgL fun hk=>?_).symm
     have:(decide (gr.P≤2000000000)&&prB gr.P)=true:=by
      rw[zjL,zdW (show 0≤gr.P by omega),zix];exact⟨by simp;omega,hk.pp⟩
     rw[this]at h;cases h
    refine zab (zgL fun hk=>?_).symm;have:=hk.g;simp at h;omega
   refine zab (zgL fun hk=>?_).symm;rw[hk.d]at h;cases h
  refine zab (zgL fun hk=>?_).symm;have:=hk.q;simp at h;omega
 refine zab (zgL fun hk=>?_).symm;have:=hk.p;simp at h;omega
theorem zjt(gr:Group):zdE gr=some (okG gr):=by
 unfold zdE;refine zaj (zag (ψ:=fun b=>b=okG gr) ?_ fun b hb=>zab hb);refine zae (zg7 _ _ _) (zan (fun h=>?_) fun h=>?_)
 ·have hp:3≤gr.P∧gr.P≤2000000000:=by simpa using h
  rw[zak (n:=gr.P-1) (by omega) (by omega)];refine zae (zg7 _ _ _) (zan (fun h=>?_) fun h=>?_)
  ·have hq:2≤gr.Q∧gr.Q≤gr.P-1:=by simpa using h
   have ed:(gr.P-1).tmod gr.Q=(((gr.P.toNat-1)%gr.Q.toNat:Nat):Int):=by
    rw[zdW (show 0≤gr.P-1 by omega),zdW (show 0≤gr.Q by omega),zcO];simp only[Int.toNat_natCast];congr 2;omega
   refine zaq (by omega) ?_;rw[ed];refine zan (fun h=>?_) fun h=>?_
   ·have hd:(gr.P.toNat-1)%gr.Q.toNat=0:=by
     have:(((gr.P.toNat-1)%gr.Q.toNat:Nat):Int)=0:=by simpa using h
     omega
    refine zae (zg7 _ _ _) (zan (fun h=>?_) fun h=>?_)
    ·have hg:2≤gr.G∧gr.G≤gr.P-1:=by simpa using h
     refine zae (zjF (a:=gr.G) (e:=gr.Q) (m:=gr.P) (by omega) (by omega) (by omega) (by omega) (by omega) (by omega)).2 (zan (fun h=>?_) fun h=>?_)
     ·have ho:gr.G.toNat^gr.Q.toNat%gr.P.toNat=1:=by
       have:((gr.G.toNat^gr.Q.toNat%gr.P.toNat:Nat):Int)=1:=by simpa using h
       omega
      refine zae (zrk _ (by omega)) (zan (fun h=>?_) fun h=>?_)
      ·have hpq:Pr gr.Q.toNat:=by
        rw[zdW (show 0≤gr.Q by omega),zix]at h;exact h
       refine zae (zrk _ (by omega)) (zab (zwv (fun h=>⟨hp,hq,hd,hg,?_,hpq,ho⟩) fun h=>?_))
       ·rw[zdW (show 0≤gr.P by omega),zix]at h;exact h
       rw[zdW (show 0≤gr.P by omega),zix];exact h.pp
      refine zab (zgL fun hk=>?_).symm
      have:prB gr.Q=true:=by
       rw[zdW (show 0≤gr.Q by omega),zix];exact hk.pq
      rw[this]at h;cases h
     refine zab (zgL fun hk=>?_).symm;rw[hk.o]at h;cases h
    refine zab (zgL fun hk=>?_).symm;have:=hk.g;simp at h;omega
   refine zab (zgL fun hk=>?_).symm;rw[hk.d]at h;cases h
  refine zab (zgL fun hk=>?_).symm;have:=hk.q;simp at h;omega
 refine zab (zgL fun hk=>?_).symm;have:=hk.p;simp at h;omega
def zar(gr:Group)(x:Int):Bool:=decide (1≤x)&&decide (x≤gr.P-1)&&decide (x.toNat^gr.Q.toNat%gr.P.toNat=1)
def zgf(gr:Group)(x:Int):Bool:=decide (0≤x)&&decide (x≤gr.Q-1)
theorem zuo(k:OkG gr)(x:Int):zc9 gr x=some (zar gr x):=by
 have hp:=k.p;have hq:=k.q;unfold zc9 zar;rw[zak (n:=gr.P-1) (by omega) (by omega),zdX];refine zaj (zag (ψ:=fun b=>b=_) ?_ fun b hb=>zab hb);refine zae rfl (zan (fun h=>?_) fun h=>?_)
 ·have hx:1≤x∧x≤gr.P-1:=by simpa using h
  refine zae (zjF (a:=x) (e:=gr.Q) (m:=gr.P) (by omega) (by omega) (by omega) (by omega) (by omega) (by omega)).1 (zab ?_);rw[h,Bool.true_and];by_cases h1:x.toNat^gr.Q.toNat%gr.P.toNat=1
  ·simp[h1]
  have:¬((x.toNat^gr.Q.toNat%gr.P.toNat:Nat):Int)=1:=by omega
  rw[beq_false_of_ne this,decide_eq_false h1]
 rw[h];exact zab rfl
theorem zqN(k:OkG gr)(l:List Int):zfh gr l=some (l.all (zar gr)):=by
 have hp:=k.p;have hq:=k.q;unfold zfh;rw[zak (n:=gr.P-1) (by omega) (by omega)];refine zaj (zag (ψ:=fun b=>(b=.inl ()∧l.all (zar gr)=true)∨(b=.inr false∧l.all (zar gr)=false)) (zaP (fun i s=>(l.take i).all (zar gr)=true) rfl ?_ ?_) ?_)
 ·rintro i s hi hI;refine zbm hi (zag (ψ:=fun b=>b= !zar gr l[i]) ?_ ?_)
  ·refine zae (zg7 _ _ _) (zan (fun h=>zab ?_) fun h=>?_)
   ·have h:(decide (1≤l[i])&&decide (l[i]≤gr.P-1))=false:=by rwa [Bool.not_eq_true']at h
    simp[zar,h]
   have h:(decide (1≤l[i])&&decide (l[i]≤gr.P-1))=true:=by simpa using h
   have hx:1≤l[i]∧l[i]≤gr.P-1:=by simpa using h
   refine zae (zjF (a:=l[i]) (e:=gr.Q) (m:=gr.P) (by omega) (by omega) (by omega) (by omega) (by omega) (by omega)).2 (zab ?_);simp only[zar,h,Bool.true_and];by_cases h1:l[i].toNat^gr.Q.toNat%gr.P.toNat=1
   ·simp[h1]
   have:¬((l[i].toNat^gr.Q.toNat%gr.P.toNat:Nat):Int)=1:=by omega
   simp only[bne,beq_false_of_ne this,decide_eq_false h1]
  rintro b rfl;refine zan (fun h=>zab (.inr ⟨rfl,?_⟩)) fun h=>zab ?_
  ·have h:zar gr l[i]=false:=by simpa using h
   rw[List.all_eq_false];exact⟨l[i],List.getElem_mem hi,by simp[h]⟩
  have h:zar gr l[i]=true:=by simpa using h
  show(l.take (i+1)).all (zar gr)=true;rw[List.take_succ_eq_append_getElem hi,List.all_append,hI];simp[h]
 ·rintro s hI;rw[List.take_length]at hI;exact .inl ⟨rfl,hI⟩
 rintro b (⟨rfl,h⟩|⟨rfl,h⟩)
 ·exact zab h.symm
 exact zab h.symm
theorem zo7(l:List Int)(a b:Int):zd4 l a b=some (l.all fun x=>decide (a≤x)&&decide (x≤b)):=by
 unfold zd4;refine zaj (zag (ψ:=fun c=>(c=.inl ()∧(l.all fun x=>decide (a≤x)&&decide (x≤b))=true)∨(c=.inr false∧(l.all fun x=>decide (a≤x)&&decide (x≤b))=false)) (zaP (fun i s=>((l.take i).all fun x=>decide (a≤x)&&decide (x≤b))=true) rfl ?_ ?_) ?_)
 ·rintro i s hi hI;refine zbm hi (zae (zg7 _ _ _) (zan (fun h=>zab (.inr ⟨rfl,?_⟩)) fun h=>zab ?_))
  ·rw[List.all_eq_false];exact⟨l[i],List.getElem_mem hi,by rw[Bool.not_eq_true']at h;rw[h];simp⟩
  show((l.take (i+1)).all fun x=>decide (a≤x)&&decide (x≤b))=true;rw[List.take_succ_eq_append_getElem hi,List.all_append,hI];simpa using h
 ·rintro s hI;rw[List.take_length]at hI;exact .inl ⟨rfl,hI⟩
 rintro c (⟨rfl,h⟩|⟨rfl,h⟩)
 ·exact zab h.symm
 exact zab h.symm
theorem zts(h:0≤gr.Q)(h2:gr.Q≤2000000000)(l:List Int):zeP gr l=some (l.all (zgf gr)):=by
 unfold zeP;rw[zak (by omega) (by omega),zo7];rfl
theorem zzk(h:0≤gr.Q)(h2:gr.Q≤2000000000)(x:Int):zec gr x=some (zgf gr x):=by
 unfold zec;rw[zak (by omega) (by omega),zdX];rfl
def za6(gr:Group)(x e:Int):Int:=((x.toNat^(e%gr.Q).toNat%gr.P.toNat:Nat):Int)
theorem zga(k:OkG gr)(x e:Int):0≤za6 gr x e∧za6 gr x e≤gr.P-1:=by
 have hp:=k.p;unfold za6;have:=Nat.mod_lt (x.toNat^(e%gr.Q).toNat) (y:=gr.P.toNat) (by omega);omega
theorem zn0(k:OkG gr)(h0:0≤x)(h1:x≤2000000000)(e:Int):za4 gr x e=some (za6 gr x e)∧zbL gr x e=some (za6 gr x e):=by
 have hp:=k.p;have hq:=k.q;have b1:0≤e%gr.Q:=Int.emod_nonneg _ (by omega);have b2:e%gr.Q<gr.Q:=Int.emod_lt_of_pos _ (by omega);have hw:=zjF (a:=x) (e:=e%gr.Q) (m:=gr.P) (by omega) (by omega) (by omega) (by omega) b1 (by omega);unfold za4 zbL;rw[zCC (by omega) (by omega),zws (by omega) (by omega),Option.bind_some,Option.bind_some,hw.1,hw.2];exact⟨rfl,rfl⟩
theorem zqY(k:OkG gr)(h0:0≤x)(h1:x≤2000000000)(e:Int):zbL gr x e=some (za6 gr x e):=by
 have hp:=k.p;have hq:=k.q;have b1:0≤e%gr.Q:=Int.emod_nonneg _ (by omega);have b2:e%gr.Q<gr.Q:=Int.emod_lt_of_pos _ (by omega);have hw:=zjF (a:=x) (e:=e%gr.Q) (m:=gr.P) (by omega) (by omega) (by omega) (by omega) b1 (by omega);unfold zbL;rw[zws (by omega) (by omega),Option.bind_some,hw.2];rfl
def zeU(gr:Group)(l:List Int):Int:=l.foldl (fun o x=>o*x%gr.P) 1
theorem zrx(h:1≤gr.P):∀(l:List Int) (o:Int),0≤o→o≤gr.P→(∀x∈l,0≤x)→0≤l.foldl (fun o x=>o*x%gr.P) o∧l.foldl (fun o x=>o*x%gr.P) o≤gr.P:=by
 intro l;induction l with
 |nil=>intro o h0 h1 _;exact⟨h0,h1⟩
 |cons x l ih=>
  intro o h0 h1 h2;exact ih _ (Int.emod_nonneg _ (by omega)) (Int.le_of_lt (Int.emod_lt_of_pos (o*x) (show 0<gr.P by omega))) fun y hy=>h2 y (List.mem_cons_of_mem _ hy)
theorem zBn(gr:Group)(l:List Int):zci gr l=zaU gr l:=rfl
theorem zmJ(k:OkG gr)(hl:∀x∈l,0≤x∧x≤2000000000):zaU gr l=some (zeU gr l):=by
 have hp:=k.p;unfold zaU;refine zaj (zag (ψ:=fun b=>b=zeU gr l) (zaP (fun i s=>s=(l.take i).foldl (fun o x=>o*x%gr.P) 1) rfl ?_ ?_) fun b hb=>zab hb)
 ·rintro i s hi rfl;have hb:=zrx (gr:=gr) (by omega) (l.take i) 1 (by omega) (by omega) fun x hx=>(hl x (List.mem_of_mem_take hx)).1
  have hx:=hl l[i] (List.getElem_mem hi);refine zbm hi (zaq (by omega) (zab ?_));show _=(l.take (i+1)).foldl _ _;rw[List.take_succ_eq_append_getElem hi,List.foldl_append];generalize (l.take i).foldl (fun o x=>o*x%gr.P) 1=o at hb⊢;have b1:0≤o*l[i]:=Int.mul_nonneg hb.1 hx.1;have b2:o*l[i]≤2000000000*2000000000:=Int.mul_le_mul (by omega) hx.2 hx.1 (by omega);show(i64.wrap (o*l[i])).tmod gr.P=o*l[i]%gr.P;rw[zak (by omega) (by omega),Int.tmod_eq_emod_of_nonneg b1]
 rintro s rfl;rw[List.take_length];rfl
theorem zvm(k:OkG gr)(hl:∀x∈l,0≤x∧x≤2000000000):zci gr l=some (zeU gr l):=by rw[zBn];exact zmJ k hl
theorem zy7(k:OkG gr)(hl:∀x∈l,0≤x∧x≤2000000000):0≤zeU gr l∧zeU gr l≤gr.P:=by
 have hp:=k.p;exact zrx (by omega) l 1 (by omega) (by omega) fun x hx=>(hl x hx).1
theorem znR(k:OkG gr)(l:List Int):zcl gr l=some (l.all (zar gr)):=by
 unfold zcl zco zaM zaS;refine zaj (zag (ψ:=fun b=>b=l.all (zar gr)) (zag (ψ:=fun b=>b= !l.all (zar gr)) (zag (ψ:=fun j=>(j=-1∧l.all (zar gr)=true)∨(0≤j∧l.all (zar gr)=false)) (zag (ψ:=fun b=>(b=.inl ()∧l.all (zar gr)=true)∨(∃j,b=.inr j∧0≤j∧l.all (zar gr)=false)) (zaP (fun i s=>(l.take i).all (zar gr)=true) rfl ?_ ?_) ?_) ?_) ?_) ?_)
 ·rintro i s hi hI
  have hc:zbB l[i] gr=some (!zar gr l[i]):=by
   unfold zbB;rw[zuo k];rfl
  refine zbm hi (zae hc (zan (fun h=>zab (.inr ⟨i,rfl,by omega,?_⟩)) fun h=>zab ?_))
  ·rw[List.all_eq_false];exact⟨l[i],List.getElem_mem hi,by rw[Bool.not_eq_true']at h;rw[h];simp⟩
  show(l.take (i+1)).all (zar gr)=true;rw[List.take_succ_eq_append_getElem hi,List.all_append,hI];simpa using h
 ·rintro s hI;rw[List.take_length]at hI;exact .inl ⟨rfl,hI⟩
 ·rintro b (⟨rfl,h⟩|⟨j,rfl,h0,h⟩)
  ·exact zab (.inl ⟨rfl,h⟩)
  exact zab (.inr ⟨h0,h⟩)
 ·rintro j (⟨rfl,h⟩|⟨h0,h⟩)
  ·exact zab (by rw[h];rfl)
  exact zab (by rw[h];simpa using h0)
 ·rintro b rfl;exact zab (by simp)
 rintro b rfl;exact zab rfl
theorem zmn(h:zar gr x=true):1≤x∧x≤gr.P-1:=by
 simp only[zar,Bool.and_eq_true,decide_eq_true_eq]at h;exact h.1
theorem zqT{α:Type}(b:Bool)(u v:α):(if b=true then some u else some v)=some (if(!b)=true then v else u):=by cases b<;>rfl
theorem zuk{α:Type}(b:Bool)(u v:α):(if(!b)=true then some u else some v)=some (if b=true then v else u):=by cases b<;>rfl
theorem zpg{β:Type}{body:Int→Unit→Option (Stp Unit (Unit ⊕ β))}(m:Nat)(p:Nat→Bool)(val:Nat→β)(h:∀k,k<m→body (k:Int) ()=some (if p k=true then .go ()else .out (.inr (val k)))):
 (zat body (fun _=>.inl ()) m 0 ()=some (.inl ())∧∀k,k<m→p k=true)∨∃k,k<m∧p k=false∧(∀j,j<k→p j=true)∧zat body (fun _=>.inl ()) m 0 ()=some (.inr (val k)):=by
 have key:Rn (zat body (fun _=>Sum.inl ()) m 0 ()) (fun b=>(b=.inl ()∧∀k,k<m→p k=true)∨∃k,k<m∧p k=false∧(∀j,j<k→p j=true)∧b=.inr (val k)):=by
  refine zaP (fun k _=>∀j,j<k→p j=true) (fun j hj=>by omega) ?_ fun s hs=>.inl ⟨rfl,hs⟩
  intro k s hk hI;refine⟨_,h k hk,?_⟩;cases hp:p k with
  |true=>
   intro j hj;rcases Nat.lt_or_ge j k with h|h
   ·exact hI j h
   ·have:j=k:=by omega
    rw[this];exact hp
  |false=>exact .inr ⟨k,hk,hp,hI,rfl⟩
 obtain⟨b,e,h1|⟨k,h1,h2,h3,h4⟩⟩:=key
 ·exact .inl ⟨by rw[e,h1.1],h1.2⟩
 exact .inr ⟨k,h1,h2,h3,by rw[e,h4]⟩
theorem zEM{α:Type}(l:List α)(p:α→Bool)(c:Bool){body:Int→Unit→Option (Stp Unit (Unit ⊕ Bool))}(h:∀k (hk:k<l.length),body (k:Int) ()=some (if p l[k]=true then .go ()else .out (.inr c))):
 (zat body (fun _=>.inl ()) l.length 0 ()).bind (Sum.elim (fun _=>some (!c)) some)=some (if l.all p=true then !c else c):=by
 rcases zpg (body:=body) l.length (fun k=>(l[k]?).any p) (fun _=>c) (fun k hk=>by rw[h k hk,List.getElem?_eq_getElem hk];rfl)with⟨e,h1⟩|⟨k,h1,h2,h3,e⟩
 ·rw[e]
  have:l.all p=true:=by
   rw[List.all_eq_true];intro x hx;obtain⟨k,hk,rfl⟩:=List.mem_iff_getElem.1 hx;have:=h1 k hk;rw[List.getElem?_eq_getElem hk]at this;exact this
  rw[this];rfl
 rw[e]
 have:l.all p=false:=by
  rw[List.all_eq_false];refine⟨l[k],List.getElem_mem h1,?_⟩;rw[List.getElem?_eq_getElem h1]at h2;simpa using h2
 rw[this];rfl
theorem zi5{p:Int→Bool}{f:Int→Option Bool}(hf:∀x∈l,f x=some (!p x)):
 ((((zat (σ:=Unit) (β:=Unit ⊕ Int) (fun i8 s7=>(ix l i8).bind fun x17=>(f x17).bind fun z20=>if z20=true then(some (.out (.inr i8)))else(some (.go ()))) (fun s7=>.inl ()) (l.length) 0 ():Option (Unit ⊕ Int)).bind (Sum.elim (fun(x5:Unit)=>some (-1)) some)).bind fun z1=>some (decide (0≤z1))).bind fun z1=>some (!z1))=some (l.all p):=by
 rcases zpg l.length (fun k=>(l[k]?).any p) (fun k=>(k:Int)) (body:=fun i8 s7=>(ix l i8).bind fun x17=>(f x17).bind fun z20=>if z20=true then(some (.out (.inr i8)))else(some (.go ()))) (fun k hk=>by
  rw[za3 hk,Option.bind_some,hf _ (List.getElem_mem hk),Option.bind_some,List.getElem?_eq_getElem hk]
  exact zuk _ _ _)with⟨e,h1⟩|⟨k,h1,h2,h3,e⟩
 ·rw[e]
  have:l.all p=true:=by
   rw[List.all_eq_true];intro x hx;obtain⟨k,hk,rfl⟩:=List.mem_iff_getElem.1 hx;have:=h1 k hk;rw[List.getElem?_eq_getElem hk]at this;exact this
  rw[this];rfl
 rw[e]
 have:l.all p=false:=by
  rw[List.all_eq_false];refine⟨l[k],List.getElem_mem h1,?_⟩;rw[List.getElem?_eq_getElem h1]at h2;simpa using h2
 rw[this];simp
def dg(q:Nat):Nat→Nat→List Int
 |0,_=>[]
 |k+1,n=>((n%q:Nat):Int)::dg q k (n/q)
theorem zsM(k:OkG gr)(c:Cipher):zcX gr c=some (zar gr c.A&&zar gr c.B):=by
 unfold zcX;rw[zuo k,zuo k];cases zar gr c.A<;>simp
theorem zp5(h:0≤gr.Q)(h2:gr.Q≤2000000000)(l:List Int):zca gr l=some (l.all (zgf gr)):=by
 have h1:zcg l gr=some (l.all (zgf gr)):=zi5 (f:=fun x=>zbo x gr) fun x _=>by
  unfold zbo;rw[zzk h h2];rfl
 unfold zca;rw[h1];rfl
theorem zkx{a p e:Nat}(h:a^n%p=1):a^(e%n)%p=a^e%p:=by
 have hp:1%p=1:=by rw[←h,Nat.mod_mod]
 conv=>rhs;rw[←Nat.div_add_mod e n]
 rw[Nat.pow_add,Nat.pow_mul,Nat.mul_mod,Nat.pow_mod (a^n),h,Nat.one_pow,hp,Nat.one_mul,Nat.mod_mod]
theorem zmA(h:zar gr x=true):1≤x∧x≤gr.P-1∧x.toNat^gr.Q.toNat%gr.P.toNat=1:=by
 unfold zar at h;simp only[Bool.and_eq_true,decide_eq_true_eq]at h;exact⟨h.1.1,h.1.2,h.2⟩
theorem zxg(k:OkG gr)(h:zar gr x=true){s l:Int}(hs:0≤s)(hl:0≤l):za6 gr (za6 gr x s) l=za6 gr x (s*l):=by
 obtain⟨_,_,h3⟩:=zmA h;have hq:=k.q;obtain⟨a,rfl⟩:=Int.eq_ofNat_of_zero_le hs;obtain⟨b,rfl⟩:=Int.eq_ofNat_of_zero_le hl;obtain⟨n,hn⟩:=Int.eq_ofNat_of_zero_le (show 0≤gr.Q by omega);unfold za6;rw[hn]at h3⊢;rw[Int.toNat_natCast]at h3;have e:∀c:Nat,((c:Int)%(n:Int)).toNat=c%n:=fun c=>by rw[←Int.natCast_emod,Int.toNat_natCast]
 rw[zho,e,e,e,Int.toNat_natCast,zkx h3,zkx h3,←Nat.pow_mod,←Nat.pow_mul];congr 1;rw[Nat.pow_mul,Nat.pow_mod,zkx (n:=n) (e:=b)]
 ·rw[←Nat.pow_mod,←Nat.pow_mul]
 rw[←Nat.pow_mod,←Nat.pow_mul,Nat.mul_comm,Nat.pow_mul,Nat.pow_mod,h3,Nat.one_pow,←h3,Nat.mod_mod]
theorem zwx{d:Nat}(h:Pr n)(hd:d%n≠0):Nat.gcd n d=1:=by
 obtain⟨k,hk⟩:=Nat.gcd_dvd_left n d;have hn:=h.1;have h0:0<Nat.gcd n d:=Nat.gcd_pos_of_pos_left d (by omega);have hdv:=Nat.gcd_dvd_right n d;generalize Nat.gcd n d=g at hk h0 hdv;apply Classical.byContradiction;intro hg;have hg2:2≤g:=by omega
 have hk2:2≤k:=by
  rcases Nat.lt_or_ge k 2 with h|h
  ·have:k=0∨k=1:=by omega
   rcases this with rfl|rfl
   ·omega
   ·rw[Nat.mul_one]at hk;rw[←hk]at hdv;exact absurd (Nat.mod_eq_zero_of_dvd hdv) hd
  ·exact h
 rcases Nat.le_total g k with h'|h'
 ·exact h.2 g hg2 (by rw[hk];exact Nat.mul_le_mul_left g h') (by rw[hk];exact Nat.mul_mod_right g k)
 exact h.2 k hk2 (by rw[hk];exact Nat.mul_le_mul_right k h') (by rw[hk];exact Nat.mul_mod_left g k)
theorem zwM(h:Pr n)(hab:(a*b)%(n:Int)=0):a%(n:Int)=0∨b%(n:Int)=0:=by
 have h1:n∣a.natAbs*b.natAbs:=by
  rw[←Int.natAbs_mul];exact Int.ofNat_dvd_left.1 (Int.dvd_of_emod_eq_zero hab)
 by_cases ha:a.natAbs%n=0
 ·exact .inl (Int.emod_eq_zero_of_dvd (Int.ofNat_dvd_left.2 (Nat.dvd_of_mod_eq_zero ha)))
 exact .inr (Int.emod_eq_zero_of_dvd (Int.ofNat_dvd_left.2 (Nat.Coprime.dvd_of_dvd_mul_left (zwx h ha) h1)))
def evP(f:List Int)(x:Int):Int:=f.foldr (fun c a=>a*x+c) 0
theorem zrr(c:Int)(f:List Int)(x:Int):evP (c::f) x=evP f x*x+c:=rfl
def dvP(r:Int):List Int→List Int
 |[]=>[]
 |[_]=>[]
 |_::c::f=>evP (c::f) r::dvP r (c::f)
theorem ztX(r:Int):∀f:List Int,(dvP r f).length=f.length-1
 |[]=>rfl
 |[_]=>rfl
 |_::c::f=>by
  show(dvP r (c::f)).length+1=_;rw[ztX r (c::f)];simp
theorem zv6(r x:Int):∀f:List Int,evP f x=evP (dvP r f) x*(x-r)+evP f r
 |[]=>by simp[dvP,evP]
 |[c]=>by simp[dvP,evP]
 |d::c::f=>by
  have ih:=zv6 r x (c::f);show evP (c::f) x*x+d=(evP (dvP r (c::f)) x*x+evP (c::f) r)*(x-r)+(evP (c::f) r*r+d);rw[ih];grind
theorem zrA(r:Int):∀f:List Int,2≤f.length→(dvP r f).getLastD 0=f.getLastD 0
 |[],h=>absurd h (by simp)
 |[_],h=>absurd h (by simp)
 |[d,c],_=>by simp[dvP,evP]
 |e::d::c::f,_=>by
  have ih:=zrA r (d::c::f) (by simp);show(evP (d::c::f) r::evP (c::f) r::dvP r (c::f)).getLastD 0=_;have:dvP r (d::c::f)=evP (c::f) r::dvP r (c::f):=rfl;rw[this]at ih;simpa[List.getLastD]using ih
theorem zwo{p:Nat}(hp:Pr p):∀(n:Nat) (f:List Int),f.length=n+1→f.getLastD 0%(p:Int)≠0→∀rs:List Int,rs.Pairwise (fun a b=>(b-a)%(p:Int)≠0)→(∀r∈rs,evP f r%(p:Int)=0)→rs.length≤n
 |0,f,hl,hf,rs,hd,hr=>by
  match f,hl with
  |[c],_=>
   cases rs with
   |nil=>simp
   |cons r rs=>
    have:=hr r (List.mem_cons_self ..);simp[evP]at this;exact absurd (by first|exact this|exact Int.emod_eq_zero_of_dvd this) (by simpa[List.getLastD]using hf)
 |n+1,f,hl,hf,rs,hd,hr=>by
  cases rs with
  |nil=>simp
  |cons r rs=>
   have h1:=List.pairwise_cons.1 hd
   have:=zwo hp n (dvP r f) (by rw[ztX];omega) (by rw[zrA r f (by omega)];exact hf) rs h1.2 fun s hs=>by
    have e:=zv6 r s f;have hs0:=hr s (List.mem_cons_of_mem _ hs);have hr0:=hr r (List.mem_cons_self ..)
    have hm:(evP (dvP r f) s*(s-r))%(p:Int)=0:=by
     rw[show evP (dvP r f) s*(s-r)=evP f s-evP f r by omega,Int.sub_emod,hs0,hr0];simp
    rcases zwM hp hm with h|h
    ·exact h
    ·exact absurd h (h1.1 s hs)
   simpa using this
theorem zx0(k:Nat)(x:Int):evP (List.replicate k 0++[1]) x=x^k:=by
 induction k with
 |zero=>simp[evP]
 |succ k ih=>rw[List.replicate_succ,List.cons_append,zrr,ih,Int.pow_succ];omega
theorem zsW{p:Nat}(hp:Pr p)(hn:1≤n)(rs:List Int)(hd:rs.Pairwise (fun a b=>(b-a)%(p:Int)≠0))(hr:∀r∈rs,r^n%(p:Int)=1):rs.length≤n:=by
 have h2:=hp.1;have hone:(1:Int)%(p:Int)=1:=Int.emod_eq_of_lt (by omega) (by omega);obtain⟨k,rfl⟩:∃k,n=k+1:=⟨n-1,by omega⟩
 refine zwo hp (k+1) (-1::(List.replicate k 0++[1])) (by simp) ?_ rs hd fun r hr'=>?_
 ·have:(-1::(List.replicate k (0:Int)++[1])).getLastD 0=1:=by
   rw[←List.cons_append,List.getLastD_concat]
  rw[this,hone];omega
 rw[zrr,zx0,←Int.pow_succ,Int.add_emod,hr r hr']
 have:((-1:Int)%(p:Int))=p-1:=by
  have:=Int.add_mul_emod_self_left (-1) (p:Int) 1;rw[←this,Int.mul_one,Int.emod_eq_of_lt (by omega) (by omega)];omega
 rw[this,show 1+((p:Int)-1)=p by omega,Int.emod_self]
theorem znj{a p:Nat}(hp:2≤p)(h:a^m%p=1)(k r:Nat):a^(m*k+r)%p=a^r%p:=by
 rw[Nat.pow_add,Nat.pow_mul,Nat.mul_mod,Nat.pow_mod (a^m),h,Nat.one_pow,Nat.mod_eq_of_lt (show 1<p by omega),Nat.one_mul,Nat.mod_mod]
theorem zy3{a p:Nat}(hp:2≤p):∀m n,a^m%p=1→a^n%p=1→a^(Nat.gcd m n)%p=1:=by
 intro m n;induction m,n using Nat.gcd.induction with
 |H0 n=>intro _ h;simpa using h
 |H1 m n hm ih=>
  intro h1 h2;rw[Nat.gcd_rec];refine ih ?_ h1;rw[←znj hp h1 (n/m) (n%m),Nat.div_add_mod];exact h2
theorem zzU{a p q:Nat}(hp:2≤p)(hq:Pr q)(ha:a^q%p=1)(ha1:a%p≠1){i j:Nat}(hij:i<j)(hj:j<q):a^i%p≠a^j%p:=by
 intro e
 have h1:a^(j-i)%p=1:=by
  have e1:a^(j-i)%p=a^(q*1+(j-i))%p:=(znj hp ha 1 (j-i)).symm;rw[e1,show q*1+(j-i)=j+(q-i)by omega,Nat.pow_add,Nat.mul_mod,←e,←Nat.mul_mod,←Nat.pow_add,show i+(q-i)=q by omega];exact ha
 have h2:=zy3 hp q (j-i) ha h1;rw[zwx hq (by rw[Nat.mod_eq_of_lt (by omega)];omega),Nat.pow_one]at h2;exact ha1 h2
theorem znE(h:zar gr x=true):x.toNat^gr.Q.toNat%gr.P.toNat=1:=by
 simp only[zar,Bool.and_eq_true,decide_eq_true_eq]at h;exact h.2
theorem ztA(k:OkG gr)(h:zar gr x=true):x.toNat<gr.P.toNat∧1≤x.toNat:=by
 have:=zmn h;have:=k.p;omega
theorem zAY(k:OkG gr){h:Int}(hh:zar gr h=true)(h1:h≠1)(hx:zar gr x=true):∃s:Nat,h.toNat^s%gr.P.toNat=x.toNat:=by
 have hp2:2≤gr.P.toNat:=by have:=k.p;omega
 have hb:=ztA k hh;have hbx:=ztA k hx;have ha1:h.toNat%gr.P.toNat≠1:=by rw[Nat.mod_eq_of_lt hb.1];have:=zmn hh;omega
 apply Classical.byContradiction;intro hn;have hn':∀s:Nat,h.toNat^s%gr.P.toNat≠x.toNat:=fun s e=>hn ⟨s,e⟩
 have key:∀a b:Nat,a<gr.P.toNat→b<gr.P.toNat→a≠b→((b:Int)-(a:Int))%(gr.P.toNat:Int)≠0:=by
  intro a b ha hb' hab he;have h3:((gr.P.toNat:Nat):Int)∣(b:Int)-(a:Int):=Int.dvd_of_emod_eq_zero he;obtain⟨c,hc⟩:=h3;rcases Int.lt_trichotomy c 0 with h4|h4|h4
  ·have:(gr.P.toNat:Int)*c≤(gr.P.toNat:Int)*(-1):=Int.mul_le_mul_of_nonneg_left (by omega) (by omega);omega
  ·subst h4;simp at hc;omega
  ·have:(gr.P.toNat:Int)*1≤(gr.P.toNat:Int)*c:=Int.mul_le_mul_of_nonneg_left (by omega) (by omega);omega
 have hlt:∀s,h.toNat^s%gr.P.toNat<gr.P.toNat:=fun s=>Nat.mod_lt _ (by omega)
 have hlen:=zsW (p:=gr.P.toNat) (n:=gr.Q.toNat) k.pp (by have:=k.q;omega) ((x.toNat:Int)::(List.range gr.Q.toNat).map fun i=>((h.toNat^i%gr.P.toNat:Nat):Int)) ?_ ?_
 ·simp at hlen;omega
 ·rw[List.pairwise_cons];refine⟨fun y hy=>?_,?_⟩
  ·obtain⟨i,hi,rfl⟩:=List.mem_map.1 hy;exact key _ _ hbx.1 (hlt i) fun e=>hn' i e.symm
  rw[List.pairwise_map];refine List.Pairwise.imp_of_mem ?_ List.pairwise_lt_range;intro i j hi hj hij;exact key _ _ (hlt i) (hlt j) (zzU hp2 k.pq (znE hh) ha1 hij (List.mem_range.1 hj))
 intro r hr;rcases List.mem_cons.1 hr with rfl|hr
 ·have:=znE hx;rw[←Int.natCast_pow,←Int.natCast_emod,this];rfl
 obtain⟨i,hi,rfl⟩:=List.mem_map.1 hr
 have h5:(h.toNat^i%gr.P.toNat)^gr.Q.toNat%gr.P.toNat=1:=by
  rw[←Nat.pow_mod,←Nat.pow_mul,Nat.mul_comm,Nat.pow_mul,Nat.pow_mod,znE hh,Nat.one_pow,Nat.mod_eq_of_lt (by omega)]
 rw[←Int.natCast_pow,←Int.natCast_emod,h5];rfl
def zcC(gr:Group)(c:Cipher):Bool:=zar gr c.A&&zar gr c.B
theorem zA5(k:OkG gr)(l:List Cipher):Rn (zas l gr.P gr.Q gr.G) (fun x=>(x=-1∧l.all (zcC gr)=true)∨(0≤x∧l.all (zcC gr)=false)):=by
 unfold zas;refine zag (ψ:=fun x=>(x=.inl ()∧l.all (zcC gr)=true)∨(∃j:Nat,x=.inr (j:Int)∧l.all (zcC gr)=false)) (zaP (fun n _=>∀m,m<n→∀h:m<l.length,zcC gr l[m]=true) (fun m hm=>by omega) ?_ fun s hs=>.inl ⟨rfl,?_⟩) ?_
 ·rintro n s hn hI;refine zbm hn ?_;unfold zc4;refine zag (ψ:=fun b=>b= !zcC gr l[n]) (zae (zsM k l[n]) (zab rfl)) ?_;rintro _ rfl;refine zan (fun h=>zab (.inr ⟨n,rfl,?_⟩)) fun h=>zab fun m hm hl=>?_
  ·rw[List.all_eq_false];exact⟨l[n],List.getElem_mem hn,by simpa using h⟩
  rcases Nat.lt_or_ge m n with h1|h1
  ·exact hI m h1 hl
  have:m=n:=by omega
  subst this;simpa using h
 ·rw[List.all_eq_true];intro x hx;obtain⟨m,hm,rfl⟩:=List.mem_iff_getElem.1 hx;exact hs m hm hm
 rintro x (⟨rfl,h⟩|⟨j,rfl,h⟩)
 ·exact zab (.inl ⟨rfl,h⟩)
 exact zab (.inr ⟨by show(0:Int)≤(j:Int);omega,h⟩)
theorem zq3(k:OkG gr)(l:List Cipher):zcG gr l=some (decide (l.length≤24)&&l.all (zcC gr)):=by
 unfold zcG;refine zaj (zag (ψ:=fun b=>b=(decide (l.length≤24)&&l.all (zcC gr))) (zan (fun h=>?_) fun h=>zab ?_) fun b hb=>zab hb)
 ·have h:l.length≤24:=by simp at h;omega
  unfold zaz;refine zag (ψ:=fun b=>b= !l.all (zcC gr)) (zag (zA5 k l) fun x hx=>zab ?_) ?_
  ·rcases hx with⟨rfl,h⟩|⟨h0,h⟩
   ·rw[h];rfl
   rw[h];simpa using h0
  rintro _ rfl;exact zab (by simp[h])
 have h:¬l.length≤24:=by simp at h;omega
 simp[h]
theorem zzM(k:OkG gr)(l:List Cipher):zgD gr l=some (decide (l.length≤24)&&l.all (zcC gr)):=by
 unfold zgD;by_cases h:24<(l.length:Int)
 ·rw[if_pos (by simpa using h)];have h:¬l.length≤24:=by omega
  simp[h]
 rw[if_neg (by simpa using h)];refine(zEM l (zcC gr) false (fun n hn=>?_)).trans ?_
 ·rw[za3 hn,Option.bind_some,zqN k,Option.bind_some];have e:([l[n].A,l[n].B].all (zar gr))=zcC gr l[n]:=by simp[zcC]
  rw[e];cases zcC gr l[n]<;>rfl
 have h:l.length≤24:=by omega
 cases l.all (zcC gr)<;>simp[h]
def byL(s:ByteArray):List Int:=s.data.toList.map fun b=>(b.toNat:Int)
theorem zii(s:ByteArray):(byL s).length=s.size:=by
 show(s.data.toList.map _).length=s.data.size;rw[List.length_map,Array.length_toList]
theorem zwR(s:ByteArray):∀x∈byL s,0≤x∧x≤255:=by
 intro x hx;obtain⟨b,_,rfl⟩:=List.mem_map.1 hx;have:=b.toNat_lt;omega
theorem zBG(h:k<s.size):ixs s (k:Int)=some ((byL s)[k]'(by rw[zii];exact h)):=by
 have h2:k<s.data.size:=h;simp[ixs,byL,h];rfl
theorem zwz(s:ByteArray)(l:List Int)(hs:s.size≤1000000)(hl:l.length≤1000000000000):zfZ s l=some ((s.size:Int)::byL s++l):=by
 unfold zfZ;refine zaj (zag (ψ:=fun x=>x=(s.size:Int)::byL s) (zbe s.size (fun n p=>n≤s.size∧p=((s.size:Int)::(byL s).take n,(n:Int))) ⟨by omega,by simp⟩ ?_ ?_) ?_)
 ·rintro n p hn ⟨_,rfl⟩;have hn2:n<(byL s).length:=by rw[zii];exact hn
  have hb:=zwR s _ (List.getElem_mem hn2);refine zan (fun _=>?_) fun h=>absurd h (by simp;omega)
  refine zae (zBG hn) (zaq ?_ (zab ⟨by omega,?_⟩))
  ·simp only[List.length_cons,List.length_take,zii];omega
  show((s.size:Int)::(byL s).take n++[_],_)=_;rw[zak (by omega) (by omega),zak (by omega) (by omega),List.cons_append,List.take_append_getElem hn2];rfl
 ·rintro p ⟨_,rfl⟩;refine zan (fun h=>absurd h (by simp)) fun _=>zab ?_
  show(s.size:Int)::(byL s).take s.size=_;rw[List.take_of_length_le (by rw[zii];omega)]
 rintro _ rfl;refine zaq ?_ (zab rfl);simp only[List.length_cons,zii];omega
theorem zuJ(s:ByteArray)(l:List Int)(hs:s.size≤1000000)(hl:l.length≤1000000000000):zgp s l=some ((s.size:Int)::byL s++l):=zwz s l hs hl
def zaO(x:Int):Bool:=decide (0≤x)&&decide (x≤4611686018427387903)
theorem zbn :zaO x=true↔0≤x∧x≤4611686018427387903:=by simp[zaO]
theorem zh4(x:Int):zdq x=some (zaO x):=by
 unfold zdq;rw[zdX];rfl
theorem zk8(x:Int):zdr x=some (zaO x):=by
 unfold zdr;rw[zg7];rfl
theorem zzQ(s:ByteArray):(byL s).all zaO=true:=by
 rw[List.all_eq_true];intro x hx;have:=zwR s x hx;exact zbn.2 ⟨by omega,by omega⟩
def hs1(c s k:Int):Int:=(c*s+k+1)%2147483647
def zjn(p:Int×Int)(x:Int):Int×Int:=(hs1 48271 (hs1 48271 p.1 (x%2147483648)) (x/2147483648),hs1 69621 (hs1 69621 p.2 (x%2147483648)) (x/2147483648))
def zmy(l:List Int):Int:=let p:=(((l.length:Int)::l).foldl zjn (1,2));p.1*2147483648+p.2
theorem zke(c s k:Int):0≤hs1 c s k∧hs1 c s k≤2147483646:=by unfold hs1;omega
theorem ziI{s k:Int}(hc:c=48271∨c=69621)(hs:0≤s∧s≤2147483646)(hk:0≤k∧k≤2147483648):(i64.wrap ((i64.wrap ((i64.wrap (c*s))+k))+1)).tmod 2147483647=hs1 c s k:=by
 rcases hc with rfl|rfl
 ·rw[zak (n:=48271*s) (by omega) (by omega),zak (n:=48271*s+k) (by omega) (by omega),zak (by omega) (by omega),Int.tmod_eq_emod_of_nonneg (by omega)];rfl
 rw[zak (n:=69621*s) (by omega) (by omega),zak (n:=69621*s+k) (by omega) (by omega),zak (by omega) (by omega),Int.tmod_eq_emod_of_nonneg (by omega)];rfl
def okP(p:Int×Int):Prop:=(0≤p.1∧p.1≤2147483646)∧(0≤p.2∧p.2≤2147483646)
theorem zzG(p:Int×Int)(x:Int):okP (zjn p x):=⟨zke _ _ _,zke _ _ _⟩
theorem zi7:∀(l:List Int) (p:Int×Int),okP p→okP (l.foldl zjn p)
 |[],_,h=>h
 |x::l,p,_=>zi7 l _ (zzG p x)
theorem zwQ(l:List Int):zaO (zmy l)=true:=by
 obtain⟨h1,h2⟩:=zi7 ((l.length:Int)::l) (1,2) ⟨by decide,by decide⟩;refine zbn.2 ?_;unfold zmy;dsimp only;omega
theorem zq6{p:Int×Int}(hp:okP p)(hx:zaO x=true):zbF p.1 p.2 x=some (zjn p x):=by
 obtain⟨h1,h2⟩:=hp;have hx:=zbn.1 hx;have e1:x.tmod 2147483648=x%2147483648:=Int.tmod_eq_emod_of_nonneg hx.1
 have e2:i64.wrap (x.tdiv 2147483648)=x/2147483648:=by
  rw[Int.tdiv_eq_ediv_of_nonneg hx.1,zak (by omega) (by omega)]
 have b1:0≤x%2147483648∧x%2147483648≤2147483648:=by omega
 have b2:0≤x/2147483648∧x/2147483648≤2147483648:=by omega
 have h0:ix [x%2147483648,x/2147483648] 0=some (x%2147483648):=rfl;have h1':ix [x%2147483648,x/2147483648] 1=some (x/2147483648):=rfl;unfold zbF;rw[e1,e2,Option.bind_some,zkX];simp only[List.length_cons,List.length_nil,show decide ((0:Int)<((0+1+1:Nat):Int))=true from rfl,if_true,h0,Option.bind_some,ziI (.inl rfl) h1 b1,ziI (.inr rfl) h2 b1];rw[zkX];simp only[show i64.wrap (0+1)=1 from rfl,show decide ((1:Int)<((0+1+1:Nat):Int))=true from rfl,if_true,h1',Option.bind_some,ziI (.inl rfl) (zke _ _ _) b2,ziI (.inr rfl) (zke _ _ _) b2];rw[zkX];simp only[show i64.wrap (1+1)=2 from rfl,show decide ((2:Int)<((0+1+1:Nat):Int))=false from rfl,Bool.false_eq_true,if_false,Option.bind_some];rfl
theorem ztB(h:l.all zaO=true)(hk:k<l.length):zaO l[k]=true:=List.all_eq_true.1 h _ (List.getElem_mem hk)
theorem zyX(hl:l.length≤1000000000000)(hd:l.all zaO=true):zgz l=some (zmy l):=by
 unfold zgz;have e0:=zq6 (p:=(1,2)) (x:=(l.length:Int)) ⟨by decide,by decide⟩ (zbn.2 ⟨by omega,by omega⟩);refine zaj (zae e0 (zag (ψ:=fun p=>p=((l.length:Int)::l).foldl zjn (1,2)) (zaP (fun n p=>p=((l.length:Int)::l.take n).foldl zjn (1,2)) rfl ?_ ?_) ?_))
 ·rintro n p hn rfl;refine zbm hn (zae (zq6 (zi7 _ _ ⟨by decide,by decide⟩) (ztB hd hn)) (zab ?_));show zjn _ _=_;rw[←List.take_append_getElem hn,←List.cons_append,List.foldl_append];rfl
 ·rintro p rfl;show(((l.length:Int)::l.take l.length).foldl zjn (1,2))=_;rw[List.take_length]
 rintro p rfl;obtain⟨h1,h2⟩:=zi7 ((l.length:Int)::l) (1,2) ⟨by decide,by decide⟩;refine zab ?_;rw[zak (n:=_*2147483648) (by omega) (by omega),zak (by omega) (by omega)];rfl
theorem zw3(hx:zaO x=true):i64.wrap (BitVec.ofInt IntKind.i64.bits x&&&BitVec.ofInt IntKind.i64.bits 2147483647).toNat=x%2147483648:=by
 have hx:=zbn.1 hx;obtain⟨n,rfl⟩:=Int.eq_ofNat_of_zero_le hx.1
 have h1:(BitVec.ofInt IntKind.i64.bits ((n:Nat):Int)&&&BitVec.ofInt IntKind.i64.bits 2147483647).toNat=n%2147483648:=by
  rw[BitVec.toNat_and]
  have a1:(BitVec.ofInt IntKind.i64.bits (n:Int)).toNat=n:=by
   rw[BitVec.toNat_ofInt];have:IntKind.i64.bits=64:=rfl;rw[this];omega
  have a2:(BitVec.ofInt IntKind.i64.bits 2147483647).toNat=2^31-1:=by decide
  rw[a1,a2,Nat.and_two_pow_sub_one_eq_mod]
 rw[h1,zak (by omega) (by omega)];omega
theorem zBL(hl:l.length≤1000000000000)(hd:l.all zaO=true):zg4 l=some (zmy l):=by
 unfold zg4
 have hd2:((l.length:Int)::l).all zaO=true:=by
  rw[List.all_cons,hd,Bool.and_true];exact zbn.2 ⟨by omega,by omega⟩
 refine zaj (zaq (by simp only[List.length_cons,List.length_nil];omega) (zae rfl (zag (ψ:=fun p=>p=((l.length:Int)::l).foldl zjn (1,2)) (zaP (fun n p=>p=(((l.length:Int)::l).take n).foldl zjn (1,2)) rfl ?_ ?_) ?_)))
 ·rintro n p hn rfl;have ok:=zi7 ((((l.length:Int)::l)).take n) (1,2) ⟨by decide,by decide⟩;have dg:=ztB hd2 hn;have b:=zbn.1 dg;have ef:(((l.length:Int)::l)[n]).fdiv 2147483648=((l.length:Int)::l)[n]/2147483648:=Int.fdiv_eq_ediv_of_nonneg _ (by omega);have hn':n<((l.length:Int)::l).length:=hn;refine zbm hn (zab ?_);show(_,_)=_;simp only[List.singleton_append]
  rw[zw3 dg,ef,ziI (.inl rfl) ok.1 (by omega),ziI (.inr rfl) ok.2 (by omega),ziI (.inl rfl) (zke _ _ _) (by omega),ziI (.inr rfl) (zke _ _ _) (by omega),
   ←List.take_append_getElem hn',List.foldl_append]
  rfl
 ·rintro p rfl;show((((l.length:Int)::l).take ([(l.length:Int)]++l).length).foldl zjn (1,2))=_;rw[List.singleton_append,List.take_length]
 rintro p rfl;obtain⟨h1,h2⟩:=zi7 ((l.length:Int)::l) (1,2) ⟨by decide,by decide⟩;refine zab ?_;rw[zak (n:=_*2147483648) (by omega) (by omega),zak (by omega) (by omega)];rfl
def zg2(s:ByteArray)(l:List Int):Int:=zmy ((s.size:Int)::byL s++l)
theorem zjj(s:ByteArray)(l:List Int):zaO (zg2 s l)=true:=zwQ _
def zhq(s:ByteArray)(l:List Int):Bool:=decide (s.size≤40)&&decide (1+s.size+l.length≤400)&&l.all zaO
theorem ztK(hs:s.size≤1000000):((s.size:Int)::byL s++l).all zaO=l.all zaO:=by
 rw[List.cons_append,List.all_cons,List.all_append,zzQ,zbn.2 ⟨by omega,by omega⟩,Bool.true_and,Bool.true_and]
theorem ziE(hs:s.size≤1000000)(hl:l.length≤100000000000)(hd:l.all zaO=true):zcv s l=some (zg2 s l):=by
 unfold zcv;rw[zwz s l hs (by omega),Option.bind_some,zyX (by simp[zii];omega) (by rw[ztK hs];exact hd)];rfl
theorem zsw(l:List Int):zeq l=some (decide (l.length≤400)&&l.all zaO):=by
 unfold zeq
 have h1:zaY l=some (l.all zaO):=zi5 (f:=zaJ) fun x _=>by
  unfold zaJ;rw[zh4];rfl
 rw[h1];by_cases h:l.length≤400
 ·rw[if_pos (by simp;omega)];simp[h]
 rw[if_neg (by simp;omega)];simp[h]
theorem zt5(l:List Int):zfg l=some (if(decide (l.length≤400)&&l.all zaO)=true then(zmy l,true)else(0,false)):=by
 unfold zfg;rw[zsw,Option.bind_some];cases h:(decide (l.length≤400)&&l.all zaO)with
 |true=>
  simp only[Bool.and_eq_true,decide_eq_true_eq]at h;rw[zBL (by omega) h.2];rfl
 |false=>rfl
theorem zgK(s:ByteArray)(l:List Int):zbv s l=some (if zhq s l=true then(zg2 s l,true)else(0,false)):=by
 unfold zbv;by_cases h1:s.size≤40
 ·by_cases h2:l.length≤400
  ·rw[if_neg (by simp;omega),Option.bind_some,if_neg (by simp;omega),zuJ s l (by omega) (by omega),Option.bind_some,zt5,ztK (by omega)];have e:((s.size:Int)::byL s++l).length=1+s.size+l.length:=by simp[zii];omega
   rw[e];have e2:zhq s l=(decide (1+s.size+l.length≤400)&&l.all zaO):=by simp[zhq,h1]
   rw[e2];cases decide (1+s.size+l.length≤400)<;>cases l.all zaO<;>rfl
  rw[if_neg (by simp;omega),Option.bind_some,if_pos (by simp;omega)]
  have:zhq s l=false:=by
   have:¬1+s.size+l.length≤400:=by omega
   simp[zhq,this]
  rw[this];rfl
 rw[if_pos (by simp;omega),Option.bind_some,if_pos rfl];have:zhq s l=false:=by simp[zhq,h1]
 rw[this];rfl
theorem zv3{p:Nat}(hp:Pr p){b:Nat}(h1:1≤b)(h2:b<p):∀e:Nat,b^e%p≠0
 |0=>by
  have:=hp.1;rw[Nat.pow_zero,Nat.mod_eq_of_lt (by omega)];omega
 |e+1=>fun h=>by
  have hb:((b^e:Nat):Int)%(p:Int)=0∨(b:Int)%(p:Int)=0:=zwM hp (by
   rw[←Int.natCast_mul,←Nat.pow_succ,←Int.natCast_emod,h];rfl)
  rcases hb with h3|h3
  ·exact zv3 hp h1 h2 e (by rw[←Int.natCast_emod]at h3;omega)
  ·rw[←Int.natCast_emod,Nat.mod_eq_of_lt h2]at h3;omega
def zmi(gr:Group)(s:ByteArray)(k c:Int):Int:=1+zg2 s [gr.P,gr.Q,gr.G,k,c]%(gr.P-1)
def zfS(gr:Group)(s:ByteArray)(k c:Int):Int:=(((zmi gr s k c).toNat^((gr.P-1)/gr.Q).toNat%gr.P.toNat:Nat):Int)
theorem ztQ(k:OkG gr)(s:ByteArray)(i c:Int):1≤zmi gr s i c∧zmi gr s i c≤gr.P-1:=by
 have hp:=k.p;have h1:=Int.emod_nonneg (zg2 s [gr.P,gr.Q,gr.G,i,c]) (show gr.P-1≠0 by omega);have h2:=Int.emod_lt_of_pos (zg2 s [gr.P,gr.Q,gr.G,i,c]) (show 0<gr.P-1 by omega);unfold zmi;omega
theorem zti(k:OkG gr)(s:ByteArray)(i c:Int):1≤zfS gr s i c∧zfS gr s i c≤gr.P-1:=by
 have hp:=k.p;have hx:=ztQ k s i c;have h1:=zv3 k.pp (b:=(zmi gr s i c).toNat) (by omega) (by omega) ((gr.P-1)/gr.Q).toNat;have h2:=Nat.mod_lt ((zmi gr s i c).toNat^((gr.P-1)/gr.Q).toNat) (show 0<gr.P.toNat by omega);unfold zfS;omega
theorem ztV(k:OkG gr)(s:ByteArray)(i c:Int):
 zcZ (i64.wrap (1+((zg2 s [gr.P,gr.Q,gr.G,i,c]).tmod (i64.wrap (gr.P-1))))) (i64.wrap ((i64.wrap (gr.P-1)).tdiv gr.Q)) gr.P=some (zfS gr s i c)∧
 zcy (i64.wrap (1+((zg2 s [gr.P,gr.Q,gr.G,i,c]).tmod (i64.wrap (gr.P-1))))) (i64.wrap ((i64.wrap (gr.P-1)).tdiv gr.Q)) gr.P=some (zfS gr s i c):=by
 have hp:=k.p;have hq:=k.q;have hd:=zbn.1 (zjj s [gr.P,gr.Q,gr.G,i,c]);have hx:=ztQ k s i c;have e1:i64.wrap (gr.P-1)=gr.P-1:=zak (by omega) (by omega)
 have e2:i64.wrap (1+((zg2 s [gr.P,gr.Q,gr.G,i,c]).tmod (gr.P-1)))=zmi gr s i c:=by
  rw[Int.tmod_eq_emod_of_nonneg hd.1];unfold zmi at hx⊢;exact zak (by omega) (by omega)
 have h3:(gr.P-1)/gr.Q≤gr.P-1:=Int.ediv_le_self _ (by omega);have h4:0≤(gr.P-1)/gr.Q:=Int.ediv_nonneg (by omega) (by omega)
 have e3:i64.wrap ((gr.P-1).tdiv gr.Q)=(gr.P-1)/gr.Q:=by
  rw[Int.tdiv_eq_ediv_of_nonneg (by omega),zak (by omega) (by omega)]
 rw[e1,e2,e3];exact zjF (by omega) (by omega) (by omega) (by omega) h4 (by omega)
theorem ztn(k:OkG gr)(hi:zaO i=true)(hc:0≤c∧c≤1000):[gr.P,gr.Q,gr.G,i,c].all zaO=true:=by
 have hp:=k.p;have hq:=k.q;have hg:=k.g;simp only[List.all_cons,List.all_nil,Bool.and_true,Bool.and_eq_true];exact⟨zbn.2 (by omega),zbn.2 (by omega),zbn.2 (by omega),hi,zbn.2 (by omega)⟩
def zju(gr:Group)(s:ByteArray)(i y:Int):Prop:=(∃c:Nat,c<1000∧y=zfS gr s i c∧zfS gr s i c≠1∧∀j:Nat,j<c→zfS gr s i j=1)∨(y=0∧∀j:Nat,j<1000→zfS gr s i j=1)
theorem zlJ(k:OkG gr)(h1:zju gr s i x)(h2:zju gr s i y):x=y:=by
 rcases h1 with⟨c,hc,rfl,h3,h4⟩|⟨rfl,h4⟩<;>rcases h2 with⟨d,hd,rfl,h5,h6⟩|⟨rfl,h6⟩
 ·rcases Nat.lt_trichotomy c d with h|h|h
  ·exact absurd (h6 c h) h3
  ·rw[h]
  exact absurd (h4 d h) h5
 ·exact absurd (h6 c hc) h3
 ·exact absurd (h4 d hd) h5
 rfl
theorem zzm(k:OkG gr)(h1:zju gr s i x):0≤x∧x≤gr.P-1:=by
 have hp:=k.p;rcases h1 with⟨c,hc,rfl,h3,h4⟩|⟨rfl,h4⟩
 ·have:=zti k s i c;omega
 omega
theorem zuu(k:OkG gr)(hs:s.size≤40)(hi:zaO i=true):Rn (zcR gr s i) (zju gr s i):=by
 have hp:=k.p;have hq:=k.q;unfold zcR
 refine zag (ψ:=fun x=>(x=.inl ()∧∀j:Nat,j<1000→zfS gr s i j=1)∨∃c:Nat,c<1000∧x=.inr (zfS gr s i c)∧zfS gr s i c≠1∧∀j:Nat,j<c→zfS gr s i j=1)
  (zbe 1000 (fun n p=>p=(n:Int)∧n≤1000∧∀j:Nat,j<n→zfS gr s i j=1) ⟨rfl,by omega,fun j hj=>by omega⟩ ?_ ?_) ?_
 ·rintro n p hn ⟨rfl,_,hI⟩;refine zan (fun _=>?_) fun h=>absurd h (by simp;omega)
  refine zae (ziE (by omega) (by simp) (ztn k hi (by omega))) (zaq (by rw[zak (by omega) (by omega)];omega) (zaq (by omega) (zae (ztV k s i n).2 (zan (fun h=>zab (.inr ⟨n,hn,rfl,by simpa using h,hI⟩)) fun h=>zab ⟨by rw[zak (by omega) (by omega)];rfl,hn,fun j hj=>?_⟩))));rcases Nat.lt_or_ge j n with h1|h1
  ·exact hI j h1
  have:j=n:=by omega
  subst this;simpa using h
 ·rintro p ⟨rfl,_,hI⟩;refine zan (fun h=>absurd h (by simp)) fun _=>zab (.inl ⟨rfl,hI⟩)
 rintro x (⟨rfl,h⟩|⟨c,hc,rfl,h⟩)
 ·exact zab (.inr ⟨rfl,h⟩)
 exact zab (.inl ⟨c,hc,rfl,h⟩)
theorem zxI(k:OkG gr)(hs:s.size≤40)(hi:zaO i=true):Rn (zbu gr s i) (fun x=>zju gr s i x.1∧x.2=decide (0<x.1)):=by
 have hp:=k.p;have hq:=k.q;unfold zbu
 refine zag (ψ:=fun x=>(x=.inl ()∧∀j:Nat,j<1000→zfS gr s i j=1)∨∃c:Nat,c<1000∧x=.inr (zfS gr s i c,true)∧zfS gr s i c≠1∧∀j:Nat,j<c→zfS gr s i j=1)
  (zbe 1000 (fun n p=>p=(n:Int)∧n≤1000∧∀j:Nat,j<n→zfS gr s i j=1) ⟨rfl,by omega,fun j hj=>by omega⟩ ?_ ?_) ?_
 ·rintro n p hn ⟨rfl,_,hI⟩;refine zan (fun _=>?_) fun h=>absurd h (by simp;omega)
  have hl:zhq s [gr.P,gr.Q,gr.G,i,(n:Int)]=true:=by
   have:=ztn k (i:=i) (c:=n) hi (by omega);simp only[zhq,this,Bool.and_true,List.length_cons,List.length_nil,Bool.and_eq_true,decide_eq_true_eq];omega
  have eh:zbv s [gr.P,gr.Q,gr.G,i,(n:Int)]=some (zg2 s [gr.P,gr.Q,gr.G,i,(n:Int)],true):=by rw[zgK,if_pos hl]
  refine zae eh (zbf rfl (zaq (by rw[zak (by omega) (by omega)];omega) (zaq (by omega) (zae (ztV k s i n).1 (zan (fun h=>zab (.inr ⟨n,hn,rfl,by simpa using h,hI⟩)) fun h=>zab ⟨by rw[zak (by omega) (by omega)];rfl,hn,fun j hj=>?_⟩)))));rcases Nat.lt_or_ge j n with h1|h1
  ·exact hI j h1
  have:j=n:=by omega
  subst this;simpa using h
 ·rintro p ⟨rfl,_,hI⟩;refine zan (fun h=>absurd h (by simp)) fun _=>zab (.inl ⟨rfl,hI⟩)
 rintro x (⟨rfl,h⟩|⟨c,hc,rfl,h⟩)
 ·exact zab ⟨.inr ⟨rfl,h⟩,rfl⟩
 have:=zti k s i c;exact zab ⟨.inl ⟨c,hc,rfl,h⟩,by symm;simp;omega⟩
theorem zys(k:OkG gr)(hs:s.size≤40)(hi:zaO i=true):∃y,zcR gr s i=some y∧zbu gr s i=some (y,decide (0<y))∧zju gr s i y:=by
 obtain⟨y,h1,h2⟩:=zuu k hs hi;obtain⟨⟨z,t⟩,h3,h4,h5⟩:=zxI k hs hi;refine⟨y,h1,?_,h2⟩;simp only at h4 h5;have:z=y:=zlJ k h4 h2;subst this;rw[h3,h5]
theorem ztj{α:Type}{R:Nat→α→Prop}{l:List α}{z:α}(hl:l.length=n)(h:∀j (h:j<l.length),R j l[j])(hz:R n z):∀j (h:j<(l++[z]).length),R j (l++[z])[j]:=by
 intro j hj;rw[List.getElem_append];split
 ·exact h j _
 have hj:j<n+1:=by simpa[hl]using hj
 have e:j=n:=by omega
 subst e;simpa[hl]using hz
def zpj(gr:Group)(n:Nat)(l:List Int):Prop:=l.length=n∧∀j (h:j<l.length),zju gr ⟨#[104,115]⟩ j l[j]
theorem zyP(k:OkG gr)(hn:n≤24):∃b t,zdS gr (n:Int)=some (b,t)∧zcd gr (n:Int)=some (b,t)∧
 (t=true→zju gr ⟨#[104]⟩ 0 b.H∧0<b.H∧zpj gr n b.Hs∧∀x∈b.Hs,0<x):=by
 have hp:=k.p;obtain⟨y,hy1,hy2,hy3⟩:=zys k (s:=⟨#[104]⟩) (by decide) (i:=0) rfl;have hok:okG gr=true:=zqK.2 k;have D:∀m:Nat,m<24→∃z,zcR gr ⟨#[104,115]⟩ m=some z∧zbu gr ⟨#[104,115]⟩ m=some (z,decide (0<z))∧zju gr ⟨#[104,115]⟩ m z:=fun m hm=>zys k (by decide) (zbn.2 ⟨by omega,by omega⟩)
 have S:Rn (zdb gr ⟨#[104,115]⟩ (n:Int)) (fun x=>(x.2=true∧zpj gr n x.1∧∀z∈x.1,0<z)∨(x=([],false)∧∃m:Nat,m<n∧zju gr ⟨#[104,115]⟩ m 0)):=by
  unfold zdb;refine zag (ψ:=fun b=>b=false) ?_ ?_
  ·refine zae (zjt gr) (zbf (by rw[hok];rfl) (zbf rfl (zae (zg7 _ _ _) (zab ?_))));simp;omega
  ·rintro _ rfl;refine zbf rfl (zag (ψ:=fun x=>(∃l,x=.inl l∧zpj gr n l∧∀z∈l,0<z)∨(x=.inr ([],false)∧∃m:Nat,m<n∧zju gr ⟨#[104,115]⟩ m 0)) (zbe n (fun m p=>p.2=(m:Int)∧m≤n∧zpj gr m p.1∧∀z∈p.1,0<z) ⟨rfl,by omega,⟨rfl,fun j hj=>by simp at hj⟩,fun z hz=>by simp at hz⟩ ?_ ?_) ?_)
   ·rintro m ⟨l,c⟩ hm ⟨h1,_,hD,hpos⟩;simp only at h1 hD hpos;subst h1;obtain⟨z,z1,z2,z3⟩:=D m (by omega);have zb:=zzm k z3;refine zan (fun _=>?_) fun h=>absurd h (by simp;omega)
    refine zae z1 (zan (fun h=>zab (.inr ⟨rfl,m,hm,?_⟩)) fun h=>zaq ?_ (zab ⟨?_,hm,⟨by simp[hD.1],ztj hD.1 hD.2 z3⟩,fun w hw=>?_⟩))
    ·have:z=0:=by simpa using h
     rw[←this];exact z3
    ·have:=hD.1;simp only;omega
    ·show i64.wrap _=_;rw[zak (by omega) (by omega)];rfl
    ·rcases List.mem_append.1 hw with h1|h1
     ·exact hpos w h1
     ·have:w=z:=by simpa using h1
      subst this;have:¬w=0:=by simpa using h
      omega
   ·rintro⟨l,_⟩ ⟨rfl,_,hD⟩;exact zan (fun h=>absurd h (by simp)) fun _=>zab (.inl ⟨l,rfl,hD⟩)
   ·rintro x (⟨l,rfl,h⟩|⟨rfl,h⟩)
    ·exact zab (.inl ⟨rfl,h⟩)
    ·exact zab (.inr ⟨rfl,h⟩)
 have I:Rn (zau (σ:=Int×List Int×Bool×Int) (β:=Int×List Int×Bool) (fun s16=>
 if decide (s16.2.2.2<(n:Int))=true then(
 (zbu gr (⟨#[104,115]⟩:ByteArray) s16.2.2.2).bind fun z22=>
 ((if s16.2.2.1=true then(
 some z22.2)else(
 some false):Option Bool).bind fun x25=>
 gd ((s16.2.1.length+1)*8≤140737488355328∧s16.2.1.length+1≤4611686018427387904)<|
 some (.go (s16.1,s16.2.1++[z22.1],x25,i64.wrap (s16.2.2.2+1)))))else(
 some (.out (s16.1,s16.2.1,s16.2.2.1)))) (y,[],true,0)) (fun x=>x.1=y∧zpj gr n x.2.1∧x.2.2=x.2.1.all (fun z=>decide (0<z))):=by
  refine zbe n (fun m p=>p.1=y∧p.2.2.2=(m:Int)∧m≤n∧zpj gr m p.2.1∧p.2.2.1=p.2.1.all (fun z=>decide (0<z))) ⟨rfl,rfl,by omega,⟨rfl,fun j hj=>by simp at hj⟩,rfl⟩ ?_ ?_
  ·rintro m ⟨w,l,t,c⟩ hm ⟨h1,h2,_,hD,h3⟩;simp only at h1 h2 hD h3;subst h1 h2 h3;obtain⟨z,z1,z2,z3⟩:=D m (by omega);refine zan (fun _=>?_) fun h=>absurd h (by simp;omega)
   refine zae z2 (zag (ψ:=fun b=>b=(l.all (fun z=>decide (0<z))&&decide (0<z))) (zan (fun h=>zab ?_) fun h=>zab ?_) ?_)
   ·simp only at h;rw[h];rfl
   ·simp only at h;rw[h];rfl
   ·rintro _ rfl;refine zaq (by have:=hD.1;dsimp only;omega) (zab ⟨rfl,?_,hm,⟨by simp[hD.1],ztj hD.1 hD.2 z3⟩,?_⟩)
    ·show i64.wrap ((m:Int)+1)=_;rw[zak (by omega) (by omega)];rfl
    ·show _=(l++[z]).all _;simp
  ·rintro⟨w,l,t,c⟩ ⟨h1,h2,_,hD,h3⟩;simp only at h1 h2 hD h3;subst h1 h2 h3;exact zan (fun h=>absurd h (by simp)) fun _=>zab ⟨rfl,hD,rfl⟩
 obtain⟨⟨b,l,t⟩,i1,i2,i3,i4⟩:=I;simp only at i2 i3 i4;subst i2;obtain⟨⟨l2,t2⟩,s1,s2⟩:=S
 have E:t2=t∧(t=true→l2=l∧∀z∈l,0<z):=by
  rcases s2 with⟨h1,h2,h3⟩|⟨h1,m,hm,h3⟩
  ·simp only at h1 h2 h3;have e:l2=l:=List.ext_getElem (h2.1.trans i3.1.symm) fun j a c=>zlJ k (h2.2 j a) (i3.2 j c)
   subst e;have:l2.all (fun z=>decide (0<z))=true:=by simpa using h3
   rw[this]at i4;exact⟨by rw[h1,i4],fun _=>⟨rfl,h3⟩⟩
  ·cases h1;have hml:m<l.length:=by rw[i3.1];exact hm
   have:l[m]=0:=zlJ k (i3.2 m hml) h3
   have hf:l.all (fun z=>decide (0<z))=false:=by
    rw[List.all_eq_false];exact⟨l[m],List.getElem_mem hml,by simp[this]⟩
   rw[hf]at i4;exact⟨i4.symm,fun h=>by rw[i4]at h;cases h⟩
 have S0:zdS gr (n:Int)=some (if(decide (0<b)&&t2)=true then(⟨b,l2⟩,true)else(⟨0,[]⟩,false)):=by
  have hD:zdn gr ⟨#[104]⟩ 0=some (b,decide (0<b)):=by
   unfold zdn;rw[zjt,hok];simp only[Option.bind_some,Bool.not_true,Bool.false_eq_true,if_false];rw[if_neg (show¬(decide (40<(((⟨#[104]⟩:ByteArray).size:Nat):Int))=true)by decide),zk8,Option.bind_some,Option.bind_some,if_neg (by decide),hy1,Option.bind_some]
  unfold zdS;rw[zjt,hok];simp only[Option.bind_some,Bool.not_true,Bool.false_eq_true,if_false];rw[zg7,Option.bind_some,Option.bind_some,if_neg (by simp;omega),hD,Option.bind_some,s1,Option.bind_some];cases decide (0<b)<;>cases t2<;>rfl
 have I0:zcd gr (n:Int)=some (if(decide (0<b)&&t)=true then(⟨b,l⟩,true)else(⟨0,[]⟩,false)):=by
  unfold zcd;rw[hy2,Option.bind_some,i1,Option.bind_some];cases decide (0<b)<;>cases t<;>rfl
 obtain⟨rfl,E2⟩:=E;cases hb:(decide (0<b)&&t2)with
 |false=>
  rw[hb]at S0 I0;exact⟨_,_,S0,I0,fun h=>by cases h⟩
 |true=>
  rw[hb]at S0 I0;simp only[Bool.and_eq_true,decide_eq_true_eq]at hb;obtain⟨rfl,hpos⟩:=E2 hb.2;exact⟨_,_,S0,I0,fun _=>⟨hy3,hb.1,i3,hpos⟩⟩
theorem ceq{n:Int}(h:n=(k:Int))(hk:k≤4194304):i64.wrap n=(k:Int):=by rw[zak (by omega) (by omega),h]
theorem inc(hk:k<4194304):i64.wrap ((k:Int)+1)=((k+1:Nat):Int):=ceq (by omega) (by omega)
theorem zFn{σ β:Type}{step:σ×Int→Option (Stp (σ×Int) β)}{f:Nat→σ→σ}{out:σ→β}(n:Nat){s0:σ}(I:Nat→σ→Prop)(h0:I 0 s0)
(hs:∀k s,k<n→I k s→step (s,(k:Int))=some (.go (f k s,((k+1:Nat):Int)))∧I (k+1) (f k s))(he:∀s,I n s→step (s,(n:Int))=some (.out (out s))):∃s,zau step (s0,0)=some (out s)∧I n s:=by
 obtain⟨b,h1,s,h2,h3⟩:=zbe (step:=step) (s0:=(s0,0)) (φ:=fun b=>∃s,b=out s∧I n s) n (fun k p=>p.2=(k:Int)∧I k p.1) ⟨rfl,h0⟩
  (by
    rintro k ⟨s,c⟩ hk ⟨rfl,hI⟩;obtain⟨h1,h2⟩:=hs k s hk hI
    exact⟨_,h1,rfl,h2⟩)
  (by
    rintro⟨s,c⟩ ⟨rfl,hI⟩
    exact⟨_,he s hI,s,rfl,hI⟩)
 exact⟨s,by rw[h1,h2],h3⟩
theorem zAQ{α β γ:Type}{l:List α}{f:α→β}{body:Int→List β→Option (Stp (List β) γ)}{stop:List β→γ}(a0:List β)(hs:∀k (h:k<l.length) (s:List β),s.length=a0.length+k→body (k:Int) s=some (.go (s++[f l[k]]))):
 zat body stop l.length 0 a0=some (stop (a0++l.map f)):=by
 refine zaj (zaP (fun k s=>s=a0++(l.take k).map f∧k≤l.length) ⟨by simp,by omega⟩ ?_ ?_)
 ·rintro k s hk ⟨rfl,_⟩;refine⟨_,hs k hk _ (by simp;omega),?_,hk⟩;rw[List.take_succ_eq_append_getElem hk,List.map_append,List.append_assoc];rfl
 rintro s ⟨rfl,_⟩;simp
theorem zyU{α:Type}{l:List α}{d:α}{step:List α×Int→Option (Stp (List α×Int) (List α))}(hs:∀k (h:k<l.length) (r:List α),r.length=l.length→step (r,(k:Int))=some (.go (r.set k l[k],((k+1:Nat):Int))))
(he:∀r,step (r,(l.length:Int))=some (.out r)):zau step (List.replicate l.length d,0)=some l:=by
 obtain⟨s,h1,h2,h3⟩:=zFn (step:=step) (out:=fun r=>r) (f:=fun k r=>if h:k<l.length then r.set k l[k]else r) l.length (s0:=List.replicate l.length d) (fun k r=>r.length=l.length∧r.take k=l.take k) ⟨by simp,by simp⟩
  (by
    rintro k r hk ⟨h1,h2⟩;refine⟨by rw[hs k hk r h1,dif_pos hk],by rw[dif_pos hk];simpa using h1,?_⟩;rw[dif_pos hk];apply List.ext_getElem (by simp;omega);intro i hi hi2;simp only[List.length_take]at hi2;rw[List.getElem_take,List.getElem_take,List.getElem_set];split
    ·rename_i e;subst e;rfl
    ·have:i<k:=by omega
     have e:=congrArg (fun z=>z[i]?) h2;simp only[List.getElem?_take,this,if_true]at e;rw[List.getElem?_eq_getElem (by omega),List.getElem?_eq_getElem (by omega)]at e
     exact Option.some.inj e) (fun s _=>he s)
 rw[h1];have e1:s.take l.length=s:=List.take_of_length_le (by omega);rw[←e1,h3,List.take_length]
theorem zBI{β:Type}{step:Int→Option (Stp Int (Unit ⊕ β))}(n:Nat)(hs:∀k:Nat,k<n→step (k:Int)=some (.go ((k+1:Nat):Int)))(he:step (n:Int)=some (.out (.inl ()))):zau step 0=some (.inl ()):=by
 refine zaj (zbe n (fun k s=>s=(k:Int)) rfl ?_ ?_)
 ·rintro k s hk rfl;exact⟨_,hs k hk,rfl⟩
 rintro s rfl;exact⟨_,he,rfl⟩
structure OkC (ct:Contest):Prop where
 lo:0≤ct.Least∧ct.Least≤ct.Most
 k:((ct.Kind=1∨ct.Kind=3)∧(1≤ct.Options∧ct.Options≤8)∧ct.Most≤ct.Options∧ct.Points=0)∨(ct.Kind=2∧(1≤ct.Options∧ct.Options≤8)∧(1≤ct.Points∧ct.Points≤5)∧ct.Most≤ct.Options*ct.Points)∨(ct.Kind=4∧ct.Options=0∧ct.Most≤5∧ct.Points=0)
open Classical in
noncomputable def okC(ct:Contest):Bool:=decide (OkC ct)
theorem zqx :okC ct=true↔OkC ct:=by simp[okC]
theorem zAZ(h:1≤a∧a≤8)(h2:1≤b∧b≤5):1≤a*b∧a*b≤40:=by
 have h3:a*b≤8*5:=Int.mul_le_mul h.2 h2.2 (by omega) (by omega);have h4:1*1≤a*b:=Int.mul_le_mul h.1 h2.1 (by omega) (by omega);omega
theorem zjm(ct:Contest):zcm ct=some (okC ct):=by
 have e:∀b:Bool,(b=true↔OkC ct)→b=okC ct:=fun b h=>by
  rw[Bool.eq_iff_iff,h,zqx]
 have f:¬OkC ct→okC ct=false:=fun h=>by simp[okC,h]
 unfold zcm;simp only[zdX,Option.bind_some];by_cases l1:ct.Least<0
 ·simp[l1];exact f fun h=>by have:=h.lo;omega
 by_cases l2:ct.Most<ct.Least
 ·simp[l1,l2];exact f fun h=>by have:=h.lo;omega
 simp only[l1,l2,decide_false,Bool.false_eq_true,if_false,Option.bind_some];by_cases k13:ct.Kind=1∨ct.Kind=3
 ·have:(if(ct.Kind==1)=true then some (ct.Kind==1)else some (ct.Kind==3))=some true:=by
   rcases k13 with h|h<;>simp[h]
  rw[this,Option.bind_some,if_pos rfl];by_cases o:1≤ct.Options∧ct.Options≤8
  ·by_cases m:ct.Most≤ct.Options
   ·simp[o,m];refine e _ ⟨fun h=>⟨by omega,.inl ⟨k13,o,m,by simpa using h⟩⟩,fun h=>?_⟩;rcases h.k with h|h|h
    ·simp[h.2.2.2]
    ·omega
    omega
   simp[o,m];exact f fun h=>by rcases h.k with h|h|h<;>omega
  have:(decide (1≤ct.Options)&&decide (ct.Options≤8))=false:=by simp;omega
  rw[this];simp;exact f fun h=>by rcases h.k with h|h|h<;>omega
 have:(if(ct.Kind==1)=true then some (ct.Kind==1)else some (ct.Kind==3))=some false:=by
  simp only[not_or]at k13;simp[k13]
 rw[this,Option.bind_some,if_neg (by simp)];by_cases k2:ct.Kind=2
 ·simp only[k2];by_cases o:1≤ct.Options∧ct.Options≤8
  ·by_cases p:1≤ct.Points∧ct.Points≤5
   ·have b:=zAZ o p;simp only[o,p];simp[zak (n:=ct.Options*ct.Points) (by omega) (by omega)];refine e _ ⟨fun h=>⟨by omega,.inr (.inl ⟨k2,o,p,by simpa using h⟩)⟩,fun h=>?_⟩;rcases h.k with h|h|h
    ·omega
    ·simpa using h.2.2.2
    omega
   have:(decide (1≤ct.Points)&&decide (ct.Points≤5))=false:=by simp;omega
   rw[this];simp[o];exact f fun h=>by rcases h.k with h|h|h<;>omega
  have:(decide (1≤ct.Options)&&decide (ct.Options≤8))=false:=by simp;omega
  rw[this];simp;exact f fun h=>by rcases h.k with h|h|h<;>omega
 have k2':(ct.Kind==2)=false:=by simpa using k2
 simp only[k2',Bool.false_eq_true,if_false];by_cases k4:ct.Kind=4
 ·have k4':(ct.Kind==4)=true:=by simpa using k4
  simp only[k4',if_true];by_cases o:ct.Options=0
  ·by_cases m:ct.Most≤5
   ·simp[o,m];refine e _ ⟨fun h=>⟨by omega,.inr (.inr ⟨k4,o,m,by simpa using h⟩)⟩,fun h=>?_⟩;rcases h.k with h|h|h
    ·omega
    ·omega
    simp[h.2.2.2]
   simp[o,m];exact f fun h=>by rcases h.k with h|h|h<;>omega
  simp[o];exact f fun h=>by rcases h.k with h|h|h<;>omega
 have k4':(ct.Kind==4)=false:=by simpa using k4
 simp only[k4',Bool.false_eq_true,if_false];rw[f fun h=>by rcases h.k with h|h|h<;>omega]
theorem zob(ct:Contest):zfi ct=some (okC ct):=by
 rw[←zjm];unfold zfi zcm;simp only[zdX,zg7,Option.bind_some];cases h:ct.Kind==4<;>simp
theorem zjD{γ:Type}(p:Nat→Bool)(c d:γ){body:Int→Unit→Option (Stp Unit (Unit ⊕ γ))}(h:∀k,k<m→body (k:Int) ()=some (if p k=true then .go ()else .out (.inr c))):
 (zat body (fun _=>.inl ()) m 0 ()).bind (Sum.elim (fun _=>some d) some)=some (if(List.range m).all p=true then d else c):=by
 rcases zpg (body:=body) m p (fun _=>c) h with⟨e,h1⟩|⟨k,h1,h2,h3,e⟩
 ·have:(List.range m).all p=true:=by
   rw[List.all_eq_true];intro x hx;exact h1 x (List.mem_range.1 hx)
  rw[e,this];rfl
 have:(List.range m).all p=false:=by
  rw[List.all_eq_false];exact⟨k,List.mem_range.2 h1,by simp[h2]⟩
 rw[e,this];rfl
def inB(a b x:Int):Bool:=decide (a≤x)&&decide (x≤b)
theorem zfl :inB a b x=true↔a≤x∧x≤b:=by simp[inB]
theorem zil(a b:Bool):(if a=true then some b else some false)=some (a&&b):=by cases a<;>rfl
theorem zeT(a b:Bool):(if a=true then some true else some b)=some (a||b):=by cases a<;>rfl
theorem zqV(x a b:Int):zaV x a b=some (inB a b x):=zg7 x a b
theorem zlZ(x a b:Int):zax x a b=some (inB a b x):=zdX x a b
theorem zxS{a' b':Int}(ha:a'≤a)(hb:b≤b')(h:l.all (inB a b)=true):l.all (inB a' b')=true:=by
 rw[List.all_eq_true]at h⊢;intro x hx;have:=zfl.1 (h x hx);exact zfl.2 (by omega)
def num(b:Int):List Int→Int
 |[]=>0
 |d::l=>num b l*b+d
theorem zv9{b:Int}(hb:0≤b∧b≤40):∀{l:List Int},l.all (inB 0 40)=true→0≤num b l∧num b l≤64^(l.length+1)
 |[],_=>by simp[num]
 |d::l,h=>by
  rw[List.all_cons,Bool.and_eq_true]at h;have h1:=zfl.1 h.1;have h2:=zv9 hb h.2;have h3:num b l*b≤64^(l.length+1)*40:=Int.mul_le_mul h2.2 hb.2 hb.1 (by omega);have h4:=Int.mul_nonneg h2.1 hb.1;have h5:(1:Int)≤64^(l.length+1):=Int.pow_pos (by omega);simp only[num,List.length_cons];rw[Int.pow_succ (64:Int) (l.length+1)];omega
theorem zy1(hb:0≤b∧b≤40)(hl:l.length≤8)(h:l.all (inB 0 40)=true):0≤num b l∧num b l≤18014398509481984:=by
 have:=zv9 hb h;have h2:(64:Nat)^(l.length+1)≤64^9:=Nat.pow_le_pow_right (by omega) (by omega);have h3:((64^(l.length+1):Nat):Int)=(64:Int)^(l.length+1):=Int.natCast_pow 64 _;omega
theorem zrM{m:Int}(hb:0≤b∧b≤40)(hl:l.length≤8)(h:(l.map (· +m)).all (inB 0 40)=true){step:Int×Int→Option (Stp (Int×Int) Int)}
(hs:∀(k:Nat) (h:k<l.length) (a:Int),0≤a→a≤18014398509481984→step (a,(k:Int))=some (.go (a*b+(l[k]+m),(k:Int)-1)))(he:∀a,step (a,-1)=some (.out a)):
 zau step (0,(l.length:Int)-1)=some (num b (l.map (· +m))):=by
 refine zaj (zbe l.length (fun j p=>p=(num b ((l.drop (l.length-j)).map (· +m)),((l.length-j:Nat):Int)-1)∧j≤l.length) ⟨by simp[num],by omega⟩ ?_ ?_)
 ·rintro j p hj ⟨rfl,_⟩;obtain⟨k,hk,e1,e2⟩:∃k:Nat,k<l.length∧l.length-j=k+1∧l.length-(j+1)=k:=⟨l.length-j-1,by omega,by omega,by omega⟩
  rw[e1]
  have hd:((l.drop (k+1)).map (· +m)).all (inB 0 40)=true:=by
   rw[List.all_eq_true]at h⊢;intro x hx;obtain⟨y,hy,rfl⟩:=List.mem_map.1 hx;exact h _ (List.mem_map.2 ⟨y,List.mem_of_mem_drop hy,rfl⟩)
  have bd:=zy1 hb (by simp;omega) hd;refine⟨.go (num b ((l.drop (k+1)).map (· +m))*b+(l[k]+m),(k:Int)-1),by rw[show((k+1:Nat):Int)-1=(k:Int)by omega];exact hs k hk _ bd.1 bd.2,?_,hj⟩;rw[e2,List.drop_eq_getElem_cons hk];rfl
 rintro p ⟨rfl,_⟩;refine⟨.out (num b (l.map (· +m))),?_,rfl⟩;rw[Nat.sub_self,List.drop_zero];exact he _
theorem zwd{m:Int}(h:(l.map (· +m)).all (inB a b)=true)(hk:k<l.length):a≤l[k]+m∧l[k]+m≤b:=by
 rw[List.all_eq_true]at h;exact zfl.1 (h _ (List.mem_map.2 ⟨l[k],List.getElem_mem hk,rfl⟩))
theorem zjU{m:Int}(hb:0≤b∧b≤40)(hm:0≤m∧m≤1)(hl:l.length≤8)(h:(l.map (· +m)).all (inB 0 40)=true):zdc l b m=some (num b (l.map (· +m))):=by
 unfold zdc;rw[zak (n:=(l.length:Int)-1) (by omega) (by omega),zrM hb hl h,Option.bind_some]
 ·intro k hk a h0 h1;have h2:a*b≤18014398509481984*40:=Int.mul_le_mul h1 hb.2 hb.1 (by omega);have h3:=Int.mul_nonneg h0 hb.1;have h4:=zwd h hk;rw[if_pos (by simp),za3 hk,Option.bind_some,zak (n:=a*b) (by omega) (by omega),zak (n:=a*b+l[k]) (by omega) (by omega),zak (n:=a*b+l[k]+m) (by omega) (by omega),zak (n:=(k:Int)-1) (by omega) (by omega),Int.add_assoc]
 intro a;rfl
theorem zk0(hb:0≤b∧b≤40)(hl:l.length≤8)(h:l.all (inB 0 40)=true):zf9 l b=some (num b l):=by
 have e:l.map (· +0)=l:=by simp
 unfold zf9;rw[zak (n:=(l.length:Int)-1) (by omega) (by omega),zrM (m:=0) hb hl (by rw[e];exact h),Option.bind_some,e]
 ·intro k hk a h0 h1;have h2:a*b≤18014398509481984*40:=Int.mul_le_mul h1 hb.2 hb.1 (by omega);have h3:=Int.mul_nonneg h0 hb.1;have h4:=zwd (m:=0) (by rw[e];exact h) hk;rw[if_pos (by simp),za3 hk,Option.bind_some,zak (n:=a*b) (by omega) (by omega),zak (n:=a*b+l[k]) (by omega) (by omega),zak (n:=(k:Int)-1) (by omega) (by omega),Int.add_zero]
 intro a;rfl
def ziy(n:Nat)(v:List Int):List Int:=(List.range n).map fun(i:Nat)=>if v.contains (i:Int)=true then 1 else 0
theorem zpN(n:Nat)(v:List Int):(ziy n v).length=n:=by simp[ziy]
theorem zxV(ho:0≤ct.Options∧ct.Options≤8){v:List Int}(h:v.all (inB 0 (ct.Options-1))=true):zf1 ct v=some (ziy ct.Options.toNat v):=by
 unfold zf1;refine zaj (zaq (by omega) (zae rfl (zag (ψ:=fun b=>b=_) (zaP (fun k s=>s=ziy ct.Options.toNat (v.take k)) ?_ ?_ ?_) fun b hb=>zab hb)))
 ·simp[ziy,List.map_const']
 ·rintro k s hk rfl;have hv:=zfl.1 (List.all_eq_true.1 h _ (List.getElem_mem hk));obtain⟨x,hx⟩:∃x:Nat,v[k]=(x:Int):=⟨v[k].toNat,by omega⟩
  refine zbm hk ?_;rw[hx];refine zbm (by rw[zpN];omega) (zab ?_);show(ziy _ (v.take k)).set x 1=ziy _ (v.take (k+1));rw[List.take_succ_eq_append_getElem hk];apply List.ext_getElem (by simp[zpN]);intro i hi hi2;rw[List.getElem_set];simp only[ziy,List.getElem_map,List.getElem_range,List.contains_eq_mem,List.mem_append,List.mem_singleton,decide_eq_true_eq];by_cases e:x=i
  ·subst e;simp[hx]
  have:¬(i:Int)=v[k]:=by omega
  simp[e,this]
 rintro s rfl;rw[List.take_length]
def rng(a:Int)(n:Nat):List Int:=(List.range n).map fun(i:Nat)=>a+(i:Int)
theorem ztx(a:Int)(n:Nat):(rng a n).length=n:=by simp[rng]
theorem ztF :x∈rng a n↔a≤x∧x<a+n:=by
 simp only[rng,List.mem_map,List.mem_range];constructor
 ·rintro⟨i,hi,rfl⟩;omega
 exact fun h=>⟨(x-a).toNat,by omega,by omega⟩
theorem ztJ(h1:b≤a)(h2:a+n-1≤c):(rng a n).all (inB b c)=true:=by
 rw[List.all_eq_true];intro x hx;have:=ztF.1 hx;exact zfl.2 (by omega)
theorem zoo{β:Type}{step:List Int×Int→Option (Stp (List Int×Int) β)}{f:Nat→Int}{out:List Int→β}(n:Nat)(hs:∀(k:Nat) (s:List Int),k<n→s.length=k→step (s,a+(k:Int))=some (.go (s++[f k],a+(k:Int)+1)))(he:∀s,step (s,a+(n:Int))=some (.out (out s))):
 zau step ([],a)=some (out ((List.range n).map f)):=by
 refine zaj (zbe n (fun k p=>p=((List.range k).map f,a+(k:Int))) (by simp) ?_ ?_)
 ·rintro k p hk rfl;refine⟨_,hs k _ hk (by simp),?_⟩;show(_,_)=_;rw[List.range_succ,List.map_append];have e:a+(k:Int)+1=a+((k+1:Nat):Int):=by omega
  rw[e];rfl
 rintro p rfl;exact⟨_,he _,rfl⟩
theorem zBB{step:List Int×Int×Int→Option (Stp (List Int×Int×Int) (List Int))}{m:Int}(hn:n≤8)(p:Int)(hp:0≤p∧p≤5)(hm:0≤m)
(hs:∀(k:Nat) (s:List Int) (r:Int),k<n→s.length=n→0≤r→r≤m→step (s,r,(k:Int))=some (.go (s.set k (if p<r then p else r),r-(if p<r then p else r),(k:Int)-1)))(he:∀s r,step (s,r,-1)=some (.out s)):
 ∃l,zau step (List.replicate n 0,m,(n:Int)-1)=some l∧l.length=n∧l.all (inB 0 5)=true:=by
 refine zbe n (fun j x=>x.1.length=n∧x.1.all (inB 0 5)=true∧(0≤x.2.1∧x.2.1≤m)∧x.2.2=((n-j:Nat):Int)-1∧j≤n) ⟨by simp,?_,⟨hm,Int.le_refl _⟩,by simp,by omega⟩ ?_ ?_
 ·rw[List.all_eq_true];intro x hx;have:x=0:=(List.mem_replicate.1 hx).2;subst this;rfl
 ·rintro j ⟨s,r,c⟩ hj ⟨h1,h2,h3,h4,_⟩;simp only at h1 h2 h3 h4;obtain⟨k,hk,e1,e2⟩:∃k:Nat,k<n∧n-j=k+1∧n-(j+1)=k:=⟨n-j-1,by omega,by omega,by omega⟩
  have:c=(k:Int):=by omega
  subst this;have b:0≤(if p<r then p else r)∧(if p<r then p else r)≤5∧(if p<r then p else r)≤r:=by split<;>omega
  refine⟨.go (s.set k (if p<r then p else r),r-(if p<r then p else r),(k:Int)-1),hs k s r hk h1 h3.1 h3.2,by simpa using h1,?_,⟨by dsimp only;omega,by dsimp only;omega⟩,by dsimp only;omega,hj⟩;rw[List.all_eq_true]at h2⊢;intro x hx;rcases List.mem_or_eq_of_mem_set hx with h|rfl
  ·exact h2 x h
  exact zfl.2 ⟨b.1,b.2.1⟩
 rintro⟨s,r,c⟩ ⟨h1,h2,h3,h4,_⟩;simp only at h1 h2 h3 h4;have:c=-1:=by omega
 subst this;exact⟨_,he s r,h1,h2⟩
theorem zor(k:OkC ct):∃n,zdT ct=some n∧zb8 ct=some n:=by
 have lo:=k.lo;unfold zdT zb8;rcases k.k with⟨k13,ho,hm,hp⟩|⟨k2,ho,hp,hm⟩|⟨k4,ho,hm,hp⟩
 ·obtain⟨o,eo⟩:∃o:Nat,ct.Options=(o:Int):=⟨ct.Options.toNat,by omega⟩
  obtain⟨m,em⟩:∃m:Nat,ct.Most=(m:Int):=⟨ct.Most.toNat,by omega⟩
  have w:i64.wrap (ct.Options-ct.Most)=ct.Options-ct.Most:=zak (by omega) (by omega)
  have e1:∀{β:Type}(out:List Int→β),zau (fun s5:List Int×Int=>if decide (s5.2<ct.Options)=true then(gd ((s5.1.length+1)*8≤140737488355328∧s5.1.length+1≤4611686018427387904)<|some (.go (s5.1++[s5.2],i64.wrap (s5.2+1))))else(some (.out (out s5.1)))) ([],ct.Options-ct.Most)=some (out (rng (ct.Options-ct.Most) m)):=fun{β} out=>by
   refine zoo m ?_ ?_
   ·intro c s hc hs;rw[if_pos (by simp;omega),zb9 (by rw[hs];omega),zak (by dsimp only;omega) (by dsimp only;omega)]
   ·intro s;rw[if_neg (by simp;omega)]
  have hall:(rng (ct.Options-ct.Most) m).all (inB 0 (ct.Options-1))=true:=ztJ (by omega) (by omega);rcases k13 with k1|k3
  ·rw[k1];simp only[show((1:Int)==1)=true from rfl,if_true,w]
   have e2:zau (σ:=List Int×Int) (β:=List Int) (fun s5=>if decide (s5.2<ct.Options)=true then(((if decide (ct.Options-ct.Most≤s5.2)=true then(some 1)else(some 0):Option Int).bind fun x13=>
    gd ((s5.1.length+1)*8≤140737488355328∧s5.1.length+1≤4611686018427387904)<|some (.go (s5.1++[x13],i64.wrap (s5.2+1)))))else(some (.out s5.1))) ([],0)=some ((List.range o).map fun(i:Nat)=>if decide (ct.Options-ct.Most≤(i:Int))=true then 1 else 0):=by
    refine zoo (out:=fun s=>s) (a:=0) o ?_ ?_
    ·intro c s hc hs
     have hg:∀x:Int,gd ((s.length+1)*8≤140737488355328∧s.length+1≤4611686018427387904) (some (Stp.go (β:=List Int) (s++[x],i64.wrap (0+(c:Int)+1))))=some (.go (s++[x],0+(c:Int)+1)):=fun x=>by
      rw[zb9 (by rw[hs];omega),zak (by omega) (by omega)]
     rw[if_pos (by simp;omega)];dsimp only;by_cases h:ct.Options-ct.Most≤(c:Int)
     ·rw[if_pos (by simpa using h),Option.bind_some,hg,if_pos (by simpa using h)]
     ·rw[if_neg (by simpa using h),Option.bind_some,hg,if_neg (by simpa using h)]
    ·intro s;rw[if_neg (by simp;omega)]
   have em2:ziy ct.Options.toNat (rng (ct.Options-ct.Most) m)=(List.range o).map fun(i:Nat)=>if decide (ct.Options-ct.Most≤(i:Int))=true then 1 else 0:=by
    have:ct.Options.toNat=o:=by omega
    rw[this];unfold ziy;refine List.map_congr_left fun i hi=>?_
    have hi:=List.mem_range.1 hi;congr 1;rw[List.contains_eq_mem,decide_eq_true_eq,decide_eq_true_eq,ztF];exact propext ⟨fun h=>h.1,fun h=>⟨h,by omega⟩⟩
   have ha:((List.range o).map fun(i:Nat)=>if decide (ct.Options-ct.Most≤(i:Int))=true then(1:Int)else 0).all (inB 0 40)=true:=by
    rw[List.all_map,List.all_eq_true];intro i _;show inB 0 40 (if _ then _ else _)=true;split<;>rfl
   have hb:zbc ct=some 2:=by unfold zbc;rw[k1];rfl
   refine⟨?_,?_,?_⟩
   rotate_left 2
   ·rw[e2,Option.bind_some,hb,Option.bind_some,zk0 (by omega) (by simp;omega) ha];rfl
   rw[e1 (fun s=>s),Option.bind_some];unfold zeX;rw[k1,if_pos (show((1:Int)==1)=true from rfl),zxV (by omega) hall,Option.bind_some,em2,zjU (by omega) (by omega) (by simp;omega) (by simpa using ha)];simp;rfl
  rw[k3];simp only[show((3:Int)==1)=false from rfl,show((3:Int)==2)=false from rfl,show((3:Int)==3)=true from rfl,Bool.false_eq_true,if_false,if_true,w]
  have ee:(rng (ct.Options-ct.Most) m).map (· +1)=rng (ct.Options-ct.Most+1) m:=by
   simp only[rng,List.map_map];refine List.map_congr_left fun i hi=>?_
   show ct.Options-ct.Most+(i:Int)+1=ct.Options-ct.Most+1+(i:Int);omega
  have e2:zau (σ:=List Int×Int) (β:=List Int) (fun s40=>if decide (s40.2<ct.Most)=true then(gd ((s40.1.length+1)*8≤140737488355328∧s40.1.length+1≤4611686018427387904)<|
   some (.go (s40.1++[i64.wrap ((i64.wrap (ct.Options-ct.Most+1))+s40.2)],i64.wrap (s40.2+1))))else(some (.out s40.1))) ([],0)=some (rng (ct.Options-ct.Most+1) m):=by
   refine zoo (out:=fun s=>s) (a:=0) (f:=fun i=>ct.Options-ct.Most+1+(i:Int)) m ?_ ?_
   ·intro c s hc hs;rw[if_pos (by simp;omega),zb9 (by rw[hs];omega),zak (n:=ct.Options-ct.Most+1) (by omega) (by omega),zak (n:=0+(c:Int)+1) (by omega) (by omega),zak (by dsimp only;omega) (by dsimp only;omega),Int.zero_add]
   ·intro s;rw[if_neg (by simp;omega)]
  have ha:(rng (ct.Options-ct.Most+1) m).all (inB 0 40)=true:=ztJ (by omega) (by omega);have hb:zbc ct=some (ct.Options+1):=by unfold zbc;rw[k3,zak (n:=ct.Options+1) (by omega) (by omega)];rfl
  refine⟨?_,?_,?_⟩
  rotate_left 2
  ·rw[e2,Option.bind_some,hb,Option.bind_some,zk0 (by omega) (by rw[ztx];omega) ha];rfl
  rw[e1 (fun s=>s),Option.bind_some];unfold zeX;rw[k3,zak (n:=ct.Options+1) (by omega) (by omega)];simp only[show((3:Int)==1)=false from rfl,show((3:Int)==2)=false from rfl,show((3:Int)==3)=true from rfl,Bool.false_eq_true,if_false,if_true];rw[zjU (by omega) (by omega) (by rw[ztx];omega) (by rw[ee];exact ha),ee];rfl
 ·obtain⟨o,eo⟩:∃o:Nat,ct.Options=(o:Int):=⟨ct.Options.toNat,by omega⟩
  have mb:=zAZ ho hp;rw[k2];simp only[show((2:Int)==1)=false from rfl,show((2:Int)==2)=true from rfl,Bool.false_eq_true,if_false,if_true];rw[zb9 (by omega),zb9 (by omega),Option.bind_some,Option.bind_some,zak (n:=ct.Options-1) (by omega) (by omega)];have hl:∀a b:Int,zdZ a b=some (if a<b then a else b):=fun a b=>by unfold zdZ;by_cases h:a<b<;>simp[h]
  have hmin:∀a b:Int,(if b<a then b else a)=(if a<b then a else b):=fun a b=>by split<;>split<;>omega
  have eS:=zBB (step:=fun s26:List Int×Int×Int=>
   if decide (0≤s26.2.2)=true then(
   (zdZ s26.2.1 ct.Points).bind fun z32=>
   (ix s26.1 s26.2.2).bind fun x33=>
   (ix (s26.1.set s26.2.2.toNat z32) s26.2.2).bind fun x34=>
   some (.go (s26.1.set s26.2.2.toNat z32,i64.wrap (s26.2.1-x34),i64.wrap (s26.2.2-1))))else(
   some (.out s26.1))) (n:=o) (m:=ct.Most) (by omega) ct.Points (by omega) (by omega) ?_ (fun s r=>rfl)
  ·obtain⟨l,h1,h2,h3⟩:=eS
   have e:(fun s26:List Int×Int×Int=>
    if decide (0≤s26.2.2)=true then(
    (zdZ s26.2.1 ct.Points).bind fun z32=>
    (ix s26.1 s26.2.2).bind fun x33=>
    (ix (s26.1.set s26.2.2.toNat z32) s26.2.2).bind fun x34=>
    some (.go (s26.1.set s26.2.2.toNat z32,i64.wrap (s26.2.1-x34),i64.wrap (s26.2.2-1))))else(
    some (.out s26.1)))=(fun s29:List Int×Int×Int=>
    if decide (0≤s29.2.2)=true then(
    (ix s29.1 s29.2.2).bind fun x35=>
    (ix (s29.1.set s29.2.2.toNat (if ct.Points<s29.2.1 then ct.Points else s29.2.1)) s29.2.2).bind fun x36=>
    some (Stp.go (s29.1.set s29.2.2.toNat (if ct.Points<s29.2.1 then ct.Points else s29.2.1),i64.wrap (s29.2.1-x36),i64.wrap (s29.2.2-1))))else(
    some (.out s29.1))):=by
    funext s;simp only[hl,hmin,Option.bind_some]
   rw[←e];have:ct.Options.toNat=o:=by omega
   rw[this,eo,h1,Option.bind_some,Option.bind_some];have hb:zbc ct=some (ct.Points+1):=by unfold zbc;rw[k2,zak (by omega) (by omega)];rfl
   have ha:=zxS (a:=0) (a':=0) (b:=5) (b':=40) (by omega) (by omega) h3;refine⟨?_,?_,?_⟩
   rotate_left 2
   ·rw[hb,Option.bind_some,zk0 (by omega) (by omega) ha];rfl
   unfold zeX;rw[k2,zak (n:=ct.Points+1) (by omega) (by omega)];simp only[show((2:Int)==1)=false from rfl,show((2:Int)==2)=true from rfl,Bool.false_eq_true,if_false,if_true];rw[zjU (by omega) (by omega) (by omega) (by simpa using ha)];simp
  intro c s r hc hs h0 h1;have hc2:c<(s.set c (if ct.Points<r then ct.Points else r)).length:=by simp;omega
  dsimp only;rw[if_pos (by simp),hl,Option.bind_some,za3 (by omega),Option.bind_some,←hmin,Int.toNat_natCast,za3 hc2,Option.bind_some];have b:0≤(if ct.Points<r then ct.Points else r)∧(if ct.Points<r then ct.Points else r)≤r:=by split<;>omega
  rw[List.getElem_set_self,zak (by omega) (by omega),zak (by omega) (by omega)]
 obtain⟨m,em⟩:∃m:Nat,ct.Most=(m:Int):=⟨ct.Most.toNat,by omega⟩
 rw[k4];simp only[show((4:Int)==1)=false from rfl,show((4:Int)==2)=false from rfl,show((4:Int)==3)=false from rfl,Bool.false_eq_true,if_false,if_true]
 have e1:zau (σ:=List Int×Int) (β:=List Int) (fun s46=>if decide (s46.2<ct.Most)=true then(gd ((s46.1.length+1)*8≤140737488355328∧s46.1.length+1≤4611686018427387904)<|
  some (.go (s46.1++[26],i64.wrap (s46.2+1))))else(some (.out s46.1))) ([],0)=some ((List.range m).map fun _=>26):=by
  refine zoo (out:=fun s=>s) (a:=0) m ?_ ?_
  ·intro c s hc hs;rw[if_pos (by simp;omega),zb9 (by rw[hs];omega),zak (by dsimp only;omega) (by dsimp only;omega)]
  ·intro s;rw[if_neg (by simp;omega)]
 have ha:((List.range m).map fun _=>(26:Int)).all (inB 0 40)=true:=by
  rw[List.all_map,List.all_eq_true];intro i _;rfl
 have hb:zbc ct=some 27:=by unfold zbc;rw[k4];rfl
 rw[e1,Option.bind_some,Option.bind_some];refine⟨?_,?_,?_⟩
 rotate_left 2
 ·rw[hb,Option.bind_some,zk0 (by omega) (by simp;omega) ha];rfl
 unfold zeX;rw[k4];simp only[show((4:Int)==1)=false from rfl,show((4:Int)==2)=false from rfl,show((4:Int)==3)=false from rfl,Bool.false_eq_true,if_false,if_true];rw[zjU (by omega) (by omega) (by simp;omega) (by simpa using ha)];simp;rfl
theorem zmU(ct:Contest):zbx ct=some (ct.Kind==1||ct.Kind==2):=by
 unfold zbx;rw[zeT];rfl
theorem zkE(ct:Contest):zd7 ct=some (ct.Kind==1||ct.Kind==2):=by
 unfold zd7;rw[zeT];rfl
theorem zn5(gr:Group)(ct:Contest):∃b,zea gr ct=some b∧zet gr ct=some b∧(b=true→OkG gr∧OkC ct):=by
 unfold zea zet;rw[zjt,zw6];simp only[zob,zjm,zkE,zmU,Option.bind_some];cases hg:okG gr with
 |false=>exact⟨false,rfl,rfl,fun h=>by cases h⟩
 |true=>
  cases hc:okC ct with
  |false=>exact⟨false,rfl,rfl,fun h=>by cases h⟩
  |true=>
   obtain⟨n,h1,h2⟩:=zor (zqx.1 hc);simp only[h1,h2,Bool.not_true,Bool.false_eq_true,if_false,Option.bind_some];have k:=And.intro (zqK.1 hg) (zqx.1 hc);simp only[zeT,zil,Option.bind_some];cases decide (100000<n)||decide (gr.Q≤n)with
   |true=>exact⟨false,rfl,rfl,fun h=>by cases h⟩
   |false=>exact⟨_,rfl,rfl,fun _=>k⟩
theorem zvw(p:Plan):∃b,zd6 p=some b∧zee p=some b∧(b=true→OkG p.Gr∧OkC p.Ct∧7<p.Gr.Q∧(1≤p.Threshold∧p.Threshold≤p.Trustees∧p.Trustees≤4)∧(0≤p.Mixers∧p.Mixers≤3)∧(1≤p.Voters∧p.Voters≤12)∧zaO p.Seed=true):=by
 obtain⟨b,s1,s2,s3⟩:=zn5 p.Gr p.Ct;unfold zd6 zee;simp only[s1,s2,zqV,zlZ,zh4,zk8,zkE,zmU,Option.bind_some,zeT]
 have e:(!b||(!inB 1 p.Trustees p.Threshold||(decide (4<p.Trustees)||(decide (p.Gr.Q≤7)||(!inB 0 3 p.Mixers||(!inB 1 12 p.Voters|| !zaO p.Seed))))))=(!b||(decide (p.Gr.Q≤7)||(!inB 1 4 p.Trustees||(!inB 1 p.Trustees p.Threshold||(!inB 0 3 p.Mixers||(!inB 1 12 p.Voters|| !zaO p.Seed)))))):=by
  rw[Bool.eq_iff_iff];generalize zaO p.Seed=d;simp only[Bool.or_eq_true,Bool.not_eq_true',decide_eq_true_eq,inB,Bool.and_eq_false_iff,decide_eq_false_iff_not];cases b<;>cases d<;>simp<;>omega
 rw[←e];cases hb:(!b||(!inB 1 p.Trustees p.Threshold||(decide (4<p.Trustees)||(decide (p.Gr.Q≤7)||(!inB 0 3 p.Mixers||(!inB 1 12 p.Voters|| !zaO p.Seed))))))with
 |true=>exact⟨false,rfl,rfl,fun h=>by cases h⟩
 |false=>
  simp only[Bool.or_eq_false_iff,Bool.not_eq_false',decide_eq_false_iff_not,zfl]at hb;obtain⟨h1,h2,h3,h4,h5,h6,h7⟩:=hb;obtain⟨kg,kc⟩:=s3 h1;obtain⟨bs,t,n1,n2,_⟩:=zyP kg (n:=12) (by omega);simp only[Bool.false_eq_true,if_false]
  have et:∀a,zdm p.Ct=some a→(p.Ct.Kind==1||p.Ct.Kind==2)=true→zbU p.Ct=some a:=by
   intro a ha hk;unfold zdm at ha;unfold zbU;simp only[Bool.or_eq_true,beq_iff_eq]at hk;rcases hk with h|h<;>simp[h]at ha⊢<;>exact ha
  obtain⟨a,ha⟩:∃a,zdm p.Ct=some a:=by unfold zdm;split<;>exact⟨_,rfl⟩
  have fin:OkG p.Gr∧OkC p.Ct∧7<p.Gr.Q∧(1≤p.Threshold∧p.Threshold≤p.Trustees∧p.Trustees≤4)∧(0≤p.Mixers∧p.Mixers≤3)∧(1≤p.Voters∧p.Voters≤12)∧zaO p.Seed=true:=⟨kg,kc,by omega,by omega,h5,h6,h7⟩
  have n1':zdS p.Gr 12=some (bs,t):=n1;have n2':zcd p.Gr 12=some (bs,t):=n2;cases hk:(p.Ct.Kind==1||p.Ct.Kind==2)with
  |false=>
   simp only[Bool.false_eq_true,if_false,Option.bind_some,n1',n2'];exact⟨t,rfl,rfl,fun _=>fin⟩
  |true=>
   simp only[if_true,ha,et a ha hk,Option.bind_some,n1',n2'];cases decide (p.Gr.Q≤i64.wrap (p.Voters*a))with
   |true=>exact⟨false,rfl,rfl,fun h=>by cases h⟩
   |false=>exact⟨t,rfl,rfl,fun _=>fin⟩
theorem zzj{step:Int×Int→Option (Stp (Int×Int) (Int ⊕ Int))}{a0:Int}(n:Nat)(h0:0≤a0∧a0≤1048576)(hs:∀(k:Nat) (a:Int),k<n→0≤a→a≤1048576→∃z,z≤1048576∧step (a,(k:Int))=if decide (z<0)=true then some (.out (.inr (-1)))else some (.go (z,((k+1:Nat):Int))))
(he:∀a,step (a,(n:Int))=some (.out (.inl a))):∃z,(zau step (a0,0)).bind (Sum.elim (fun x=>some x) some)=some z∧z≤1048576:=by
 obtain⟨b,h1,h2⟩:=zbe (step:=step) (s0:=(a0,0)) (φ:=fun b=>Sum.elim (fun z=>z≤1048576) (fun z=>z≤1048576) b) n (fun k p=>p.2=(k:Int)∧0≤p.1∧p.1≤1048576) ⟨rfl,h0⟩
  (by
    rintro k ⟨a,c⟩ hk ⟨rfl,h1,h2⟩;obtain⟨z,hz,e⟩:=hs k a hk h1 h2;by_cases h:z<0
    ·exact⟨.out (.inr (-1)),by rw[e,if_pos (by simpa using h)],by show(-1:Int)≤_;omega⟩
    ·exact⟨.go (z,((k+1:Nat):Int)),by rw[e,if_neg (by simpa using h)],rfl,by dsimp only;omega,hz⟩)
  (by
    rintro⟨a,c⟩ ⟨rfl,h1,h2⟩
    exact⟨_,he a,h2⟩)
 rw[h1,Option.bind_some];cases b with
 |inl z=>exact⟨z,rfl,h2⟩
 |inr z=>exact⟨z,rfl,h2⟩
theorem zyO{α:Type}{step:List α×Int×Int→Option (Stp (List α×Int×Int) (List α×Int))}{l:List α}{a0 K:Int}(P:α→Prop)(hP:∀x∈l,P x)(hK:0≤K)(h0:1≤a0)
(hs:∀(k:Nat) (r:List α) (a:Int) (h:k<r.length),r.length=l.length→P r[k]→1≤a→a≤a0+k*K→∃x a',step (r,a,(k:Int))=some (.go (r.set k x,a',((k+1:Nat):Int)))∧P x∧a≤a'∧a'≤a+K)
(he:∀r a,r.length=l.length→step (r,a,(l.length:Int))=some (.out (r,a))):∃z,zau step (l,a0,0)=some z∧1≤z.2∧z.2≤a0+l.length*K∧z.1.length=l.length∧∀x∈z.1,P x:=by
 refine zbe l.length (fun k p=>p.2.2=(k:Int)∧p.1.length=l.length∧(∀x∈p.1,P x)∧1≤p.2.1∧p.2.1≤a0+k*K) ⟨rfl,rfl,hP,h0,by simp⟩ ?_ ?_
 ·rintro k ⟨r,a,c⟩ hk ⟨rfl,h1,h2,h3,h4⟩;simp only at h1 h2 h3 h4;obtain⟨x,a',e,h5,h6,h7⟩:=hs k r a (by omega) h1 (h2 _ (List.getElem_mem (by omega))) h3 h4;refine⟨_,e,rfl,by simpa using h1,fun y hy=>?_,by dsimp only;omega,?_⟩
  ·rcases List.mem_or_eq_of_mem_set hy with h|rfl
   ·exact h2 y h
   exact h5
  show a'≤a0+((k+1:Nat):Int)*K;rw[show(((k+1:Nat):Int))*K=(k:Int)*K+K by rw[Int.natCast_add,Int.add_mul];omega];omega
 rintro⟨r,a,c⟩ ⟨rfl,h1,h2,h3,h4⟩;exact⟨_,he r a h1,h3,h4,h1,h2⟩
theorem zyZ(h:l.length≤1048576):zhR l=some l:=zb9 (by omega)
theorem zzR(h:l.length≤1048576):zcY l=some l:=zb9 (by omega)
theorem zhO{α:Type}{L:List (List α)}{i:Nat}(h:i<L.length):(L.take (i+1)).flatten=(L.take i).flatten++L[i]:=by
 rw[List.take_succ_eq_append_getElem h,List.flatten_append];simp
theorem znA{α:Type}(L:List (List α))(i:Nat):(L.take i).flatten.length≤L.flatten.length:=by
 have e:L.flatten=(L.take i).flatten++(L.drop i).flatten:=by rw[←List.flatten_append,List.take_append_drop]
 rw[e,List.length_append];omega
theorem zlQ(L:List (List Int))(h:L.flatten.length≤1000000000000):zbE L=some L.flatten:=by
 unfold zbE;refine zaj (zag (ψ:=fun n=>n=(L.flatten.length:Int)) (zaP (fun i s=>s=((L.take i).flatten.length:Int)) rfl ?_ ?_) ?_)
 ·rintro i s hi rfl;have e:=congrArg List.length (zhO hi);rw[List.length_append]at e;have hl:=znA L (i+1);refine zbm hi ?_;rw[zak (by omega) (by omega)];refine zbf (by simp only[decide_eq_false_iff_not];omega) (zab ?_);show _=_;omega
 ·rintro s rfl;rw[List.take_length]
 rintro n rfl;refine zaq (by omega) (zag (ψ:=fun r=>r=L.flatten) (zaP (fun i s=>s=(L.take i).flatten) rfl ?_ ?_) fun r hr=>zab hr)
 ·rintro i s hi rfl;have e:=congrArg List.length (zhO hi);rw[List.length_append]at e;have hl:=znA L (i+1);refine zbm hi (zaq (by omega) (zab ?_));show _=_;rw[zhO hi]
 rintro s rfl;rw[List.take_length]
def chG(gr:Group)(s:ByteArray)(l:List Int):Int:=zg2 s ([gr.P,gr.Q,gr.G]++l)%gr.Q
theorem ztD(k:OkG gr) :([gr.P,gr.Q,gr.G]++l).all zaO=l.all zaO:=by
 have hp:=k.p;have hq:=k.q;have hg:=k.g;rw[List.all_append]
 have:[gr.P,gr.Q,gr.G].all zaO=true:=by
  simp only[List.all_cons,List.all_nil,Bool.and_true,Bool.and_eq_true];exact⟨zbn.2 (by omega),zbn.2 (by omega),zbn.2 (by omega)⟩
 rw[this,Bool.true_and]
theorem zlN(k:OkG gr)(hs:s.size≤1000000)(hl:l.length≤10000000000)(hd:l.all zaO=true):zcK gr s l=some (chG gr s l):=by
 have hq:=k.q;have hb:=zbn.1 (zjj s ([gr.P,gr.Q,gr.G]++l));unfold zcK;rw[zb9 (by simp only[List.length_cons,List.length_nil];omega),ziE hs (by simp only[List.length_append,List.length_cons,List.length_nil];omega) (by rw[ztD k];exact hd),Option.bind_some,zb9 (by omega),Int.tmod_eq_emod_of_nonneg hb.1];rfl
theorem zvS(k:OkG gr)(s:ByteArray)(hl:l.length≤10000000000):zbK gr s l=some (if zhq s ([gr.P,gr.Q,gr.G]++l)=true then(chG gr s l,true)else(0,false)):=by
 have hq:=k.q;have hb:=zbn.1 (zjj s ([gr.P,gr.Q,gr.G]++l));unfold zbK;rw[zb9 (by simp only[List.length_cons,List.length_nil];omega),zgK,Option.bind_some];cases zhq s ([gr.P,gr.Q,gr.G]++l)with
 |false=>rfl
 |true=>
  simp only[if_true,Bool.not_true,Bool.false_eq_true,if_false];rw[zb9 (by omega),Int.tmod_eq_emod_of_nonneg hb.1];rfl
theorem zyF(k:OkG gr)(hs:s.size≤40)(hl:4+s.size+l.length≤400)(hd:l.all zaO=true):zhq s ([gr.P,gr.Q,gr.G]++l)=true:=by
 unfold zhq;rw[ztD k,hd,Bool.and_true,Bool.and_eq_true,decide_eq_true_eq,decide_eq_true_eq];simp only[List.length_append,List.length_cons,List.length_nil];omega
theorem zkB(k:OkG gr)(h:l.all (zar gr)=true):l.all zaO=true:=by
 have hp:=k.p;rw[List.all_eq_true]at h⊢;intro x hx;have:=zmn (h x hx);exact zbn.2 (by omega)
def zfo(gr:Group):List Int→List Int→Int→Int
 |x::l,e::m,o=>zfo gr l m (o*za6 gr x e%gr.P)
 |_,_,o=>o
theorem zmm(gr:Group):∀(l m:List Int) (x e o:Int),l.length=m.length→zfo gr (l++[x]) (m++[e]) o=zfo gr l m o*za6 gr x e%gr.P
 |[],[],x,e,o,_=>rfl
 |y::l,f::m,x,e,o,h=>zmm gr l m x e _ (by simpa using h)
theorem znB(gr:Group):∀(l m:List Int) (o:Int),zfo gr l (m.take l.length) o=zfo gr l m o
 |[],m,o=>by cases m<;>rfl
 |y::l,[],o=>rfl
 |y::l,f::m,o=>znB gr l m _
theorem zpC{gr:Group}(h:0<gr.P):∀(l m:List Int) (o:Int),0≤o∧o<gr.P→0≤zfo gr l m o∧zfo gr l m o<gr.P
 |x::l,e::m,o,_=>zpC h l m _ ⟨Int.emod_nonneg _ (by omega),Int.emod_lt_of_pos _ h⟩
 |[],_,o,ho=>ho
 |_::_,[],o,ho=>ho
theorem ztU(k:OkG gr)(hx:0≤x∧x<gr.P)(hy:0≤y):zeU gr [x,y]=x*y%gr.P:=by
 have hp:=k.p;simp only[zeU,List.foldl_cons,List.foldl_nil,Int.one_mul];rw[Int.emod_eq_of_lt hx.1 hx.2]
theorem zzy(k:OkG gr){m:List Int}(hl:∀x∈l,0≤x∧x≤2000000000)(hm:l.length≤m.length):zgG gr l m=some (zfo gr l m 1):=by
 have hp:=k.p;unfold zgG;refine zaj (zag (ψ:=fun b=>b=zfo gr l m 1) (zaP (fun i s=>s=zfo gr (l.take i) (m.take i) 1) rfl ?_ ?_) fun b hb=>zab hb)
 ·rintro i s hi rfl;have bd:=zpC (gr:=gr) (by omega) (l.take i) (m.take i) 1 (by omega);have hx:=hl l[i] (List.getElem_mem hi);have pb:=zga k l[i] (m[i]'(by omega));refine zbm hi (zbm (show i<m.length by omega) (zae (zqY k hx.1 hx.2 _) (zaq (by omega) (zab ?_))));show _=zfo gr (l.take (i+1)) (m.take (i+1)) 1;rw[List.take_succ_eq_append_getElem hi,List.take_succ_eq_append_getElem (show i<m.length by omega),zmm _ _ _ _ _ _ (by simp;omega)];have b1:=Int.mul_nonneg bd.1 pb.1;have b2:zfo gr (l.take i) (m.take i) 1*za6 gr l[i] (m[i]'(by omega))≤2000000000*2000000000:=Int.mul_le_mul (by omega) (by omega) pb.1 (by omega);rw[zak (by omega) (by omega),Int.tmod_eq_emod_of_nonneg b1]
 rintro s rfl;rw[List.take_length,znB]
theorem zwm(k:OkG gr){m:List Int}(hl:∀x∈l,0≤x∧x≤2000000000)(hm:l.length≤m.length):zdK gr l m=some (zfo gr l m 1):=by
 have hp:=k.p;unfold zdK;refine zaj (zag (ψ:=fun b=>b=zfo gr l m 1) (zaP (fun i s=>s=zfo gr (l.take i) (m.take i) 1) rfl ?_ ?_) fun b hb=>zab hb)
 ·rintro i s hi rfl;have bd:=zpC (gr:=gr) (by omega) (l.take i) (m.take i) 1 (by omega);have hx:=hl l[i] (List.getElem_mem hi);have pb:=zga k l[i] (m[i]'(by omega));refine zbm hi (zbm (show i<m.length by omega) (zae (zn0 k hx.1 hx.2 _).1 (zae (zmJ k ?_) (zab ?_))))
  ·intro y hy;simp only[List.mem_cons,List.not_mem_nil,or_false]at hy;rcases hy with rfl|rfl<;>omega
  show _=zfo gr (l.take (i+1)) (m.take (i+1)) 1;rw[List.take_succ_eq_append_getElem hi,List.take_succ_eq_append_getElem (show i<m.length by omega),zmm _ _ _ _ _ _ (by simp;omega),ztU k bd pb.1]
 rintro s rfl;rw[List.take_length,znB]
structure LinS (gr:Group) (bs:List (List Int)):Prop where
 n:1≤bs.length∧bs.length≤8
 m:1≤(bs.headD []).length∧(bs.headD []).length≤8
 r:∀r∈bs,r.length=(bs.headD []).length∧r.all (zar gr)=true
theorem zpM:∀{bs:List (List Int)}{c:Nat},(∀r∈bs,r.length≤c)→bs.flatten.length≤bs.length*c
 |[],_,_=>by simp
 |r::bs,c,h=>by
  have h1:=h r (List.mem_cons_self ..);have h2:=zpM fun x hx=>h x (List.mem_cons_of_mem r hx)
  rw[List.flatten_cons,List.length_append,List.length_cons,Nat.add_mul];omega
theorem LinS.flat(h:LinS gr bs):bs.flatten.length≤64:=by
 have:=zpM (bs:=bs) (c:=8) fun r hr=>by rw[(h.r r hr).1];exact h.m.2
 have:=h.n;omega
theorem LinS.dig(k:OkG gr)(h:LinS gr bs):bs.flatten.all zaO=true:=by
 rw[List.all_eq_true];intro x hx;obtain⟨r,hr,hx⟩:=List.mem_flatten.1 hx;exact List.all_eq_true.1 (zkB k (h.r r hr).2) x hx
theorem LinS.hd(h:LinS gr bs):ix bs 0=some (bs.headD []):=by
 cases bs with
 |nil=>have:=h.n;simp at this
 |cons r l=>rfl
theorem zhK(k:OkG gr)(h:l.all (zar gr)=true):∀x∈l,0≤x∧x≤2000000000:=fun x hx=>by
 have hp:=k.p;have:=zmn (List.all_eq_true.1 h x hx);omega
theorem zBt{cs:List Int}(h1:bs.flatten.length≤1000000)(h2:im.length≤1048576)(h3:cs.length≤1048576):zew bs im cs=some (bs.flatten++im++cs):=by
 unfold zew;refine zaj (zag (ψ:=fun r=>r=bs.flatten) (zaP (fun i s=>s=(bs.take i).flatten) rfl ?_ ?_) ?_)
 ·rintro i s hi rfl;have e:=congrArg List.length (zhO hi);rw[List.length_append]at e;have hl:=znA bs (i+1);refine zbm hi (zaq (by omega) (zab ?_));show _=_;rw[zhO hi]
 ·rintro s rfl;rw[List.take_length]
 rintro r rfl;exact zaq (by omega) (zaq (by rw[List.length_append];omega) (zab rfl))
theorem zx2(k:OkG gr){es:List Int}(hb:LinS gr bs)(he:es.length=(bs.headD []).length):zdL gr bs es=some (bs.map fun r=>zfo gr r es 1):=by
 unfold zdL;have hn:=hb.n;rw[zAQ (f:=fun r=>zfo gr r es 1) []]
 ·rfl
 intro i hi s hs;have hr:=hb.r _ (List.getElem_mem hi);rw[za3 hi,Option.bind_some,zwm k (zhK k hr.2) (by omega),Option.bind_some,zb9 (by simp at hs;omega)]
def znp(gr:Group)(s:ByteArray)(bs:List (List Int))(im:List Int)(p:Proof):Bool:=
 !(((p.Commits.length:Int) !=(bs.length:Int))||(((p.Challenges.length:Int) !=1)||(((p.Responses.length:Int) !=((bs.headD []).length:Int))||(!p.Commits.all (zar gr)|| !p.Responses.all (zgf gr)))))&&
 (!(p.Challenges.headD 0 !=chG gr s (bs.flatten++im++p.Commits))&&
 (List.range bs.length).all fun i=> !(zfo gr (bs.getD i []) p.Responses 1 !=zeU gr [p.Commits.getD i 0,za6 gr (im.getD i 0) (p.Challenges.headD 0)]))
theorem zpQ(k:OkG gr)(hs:s.size≤40){p:Proof}(hb:LinS gr bs)(hi:im.length=bs.length)(hd:im.all (zar gr)=true)(hc:p.Commits.length≤1048576):
 zeL gr s bs im p=some (znp gr s bs im p):=by
 have hp:=k.p;have hq:=k.q;unfold zeL znp;simp only[hb.hd,zqN k,zts (gr:=gr) (by omega) (by omega),Option.bind_some,zeT];cases hg:(((p.Commits.length:Int) !=(bs.length:Int))||(((p.Challenges.length:Int) !=1)||(((p.Responses.length:Int) !=((bs.headD []).length:Int))||(!p.Commits.all (zar gr)|| !p.Responses.all (zgf gr)))))with
 |true=>rfl
 |false=>
  simp only[Bool.or_eq_false_iff,bne_eq_false_iff_eq,Bool.not_eq_false']at hg;obtain⟨g1,g2,g3,g4,g5⟩:=hg;have hf:=hb.flat;have hn:=hb.n
  obtain⟨c,hce⟩:∃c,p.Challenges=[c]:=by
   match h:p.Challenges,g2 with
   |[c],_=>exact⟨c,rfl⟩
  have hdig:(bs.flatten++im++p.Commits).all zaO=true:=by
   rw[List.all_append,List.all_append,hb.dig k,zkB k hd,zkB k g4];rfl
  simp only[Bool.false_eq_true,if_false,hce,show ix [c] 0=some c from rfl,Option.bind_some,zBt (bs:=bs) (im:=im) (cs:=p.Commits) (by omega) (by omega) hc];rw[zlN k (by omega) (by simp only[List.length_append];omega) hdig,Option.bind_some];show _=some (!false&&(!(c !=_)&&_));by_cases hcc:c=chG gr s (bs.flatten++im++p.Commits)
  ·have e1:(c !=chG gr s (bs.flatten++im++p.Commits))=false:=by simpa using hcc
   rw[e1];simp only[Bool.false_eq_true,if_false,Bool.not_false,Bool.true_and];rw[zjD (fun i=> !(zfo gr (bs.getD i []) p.Responses 1 !=zeU gr [p.Commits.getD i 0,za6 gr (im.getD i 0) c])) false true]
   ·simp only[Bool.if_true_left,Bool.if_false_right,Bool.and_true,Bool.decide_eq_true,Bool.or_false];rfl
   ·intro i hi;have hr:=hb.r _ (List.getElem_mem hi);have h1:i<p.Commits.length:=by omega
    have h2:i<im.length:=by omega
    have ic:=zhK k g4 _ (List.getElem_mem h1);have ii:=zhK k hd _ (List.getElem_mem h2);have pb:=zga k im[i] c;rw[za3 hi,Option.bind_some,za3 h1,Option.bind_some,za3 h2,Option.bind_some,zzy k (zhK k hr.2) (by omega),Option.bind_some,zqY k ii.1 ii.2,Option.bind_some,zvm k ?_,Option.bind_some]
    ·simp only[List.getD_eq_getElem?_getD,List.getElem?_eq_getElem hi,List.getElem?_eq_getElem h1,List.getElem?_eq_getElem h2,Option.getD_some];exact zqT _ _ _
    ·intro y hy;simp only[List.mem_cons,List.not_mem_nil,or_false]at hy;rcases hy with rfl|rfl<;>omega
  ·have e1:(c !=chG gr s (bs.flatten++im++p.Commits))=true:=by simpa using hcc
   rw[e1];rfl
theorem zpZ(k:OkG gr)(hs:s.size≤40){p:Proof}(hb:LinS gr bs)(hi:im.length=bs.length)(hd:im.all (zar gr)=true)(hc:p.Commits.length≤1048576):
 zbR gr s bs im p=some (znp gr s bs im p):=by
 have hp:=k.p;have hq:=k.q;unfold zbR znp;simp only[hb.hd,znR k,zp5 (gr:=gr) (by omega) (by omega),Option.bind_some,zeT];cases hg:(((p.Commits.length:Int) !=(bs.length:Int))||(((p.Challenges.length:Int) !=1)||(((p.Responses.length:Int) !=((bs.headD []).length:Int))||(!p.Commits.all (zar gr)|| !p.Responses.all (zgf gr)))))with
 |true=>rfl
 |false=>
  simp only[Bool.or_eq_false_iff,bne_eq_false_iff_eq,Bool.not_eq_false']at hg;obtain⟨g1,g2,g3,g4,g5⟩:=hg;have hf:=hb.flat;have hn:=hb.n
  obtain⟨c,hce⟩:∃c,p.Challenges=[c]:=by
   match h:p.Challenges,g2 with
   |[c],_=>exact⟨c,rfl⟩
  have hdig:(bs.flatten++im++p.Commits).all zaO=true:=by
   rw[List.all_append,List.all_append,hb.dig k,zkB k hd,zkB k g4];rfl
  have hfl:[bs.flatten,im,p.Commits].flatten=bs.flatten++im++p.Commits:=by simp
  have hl:(bs.flatten++im++p.Commits).length≤80:=by simp only[List.length_append];omega
  simp only[Bool.false_eq_true,if_false,hce,show ix [c] 0=some c from rfl,Option.bind_some,zlQ bs (by omega),zlQ [bs.flatten,im,p.Commits] (by rw[hfl];omega),hfl];rw[zvS k s (by omega),if_pos (zyF k hs (by omega) hdig),Option.bind_some];simp only[Bool.not_true,Bool.false_eq_true,if_false,Option.bind_some];show _=some (!false&&(!(c !=_)&&_));by_cases hcc:c=chG gr s (bs.flatten++im++p.Commits)
  ·have e1:(c !=chG gr s (bs.flatten++im++p.Commits))=false:=by simpa using hcc
   rw[e1,←hcc];simp only[Bool.false_eq_true,if_false,Bool.not_false,Bool.true_and];rw[zx2 k hb (by omega),Option.bind_some,zjD (fun i=> !(zfo gr (bs.getD i []) p.Responses 1 !=zeU gr [p.Commits.getD i 0,za6 gr (im.getD i 0) c])) false true]
   ·simp only[Bool.if_true_left,Bool.if_false_right,Bool.and_true,Bool.decide_eq_true,Bool.or_false,List.length_map];rfl
   ·intro i hi;have hi':i<bs.length:=by simpa using hi
    have h1:i<p.Commits.length:=by omega
    have h2:i<im.length:=by omega
    have ic:=zhK k g4 _ (List.getElem_mem h1);have ii:=zhK k hd _ (List.getElem_mem h2);have pb:=zga k im[i] c;rw[za3 hi,Option.bind_some,za3 h1,Option.bind_some,za3 h2,Option.bind_some,(zn0 k ii.1 ii.2 _).1,Option.bind_some,zmJ k ?_,Option.bind_some]
    ·simp only[List.getElem_map,List.getD_eq_getElem?_getD,List.getElem?_eq_getElem hi',List.getElem?_eq_getElem h1,List.getElem?_eq_getElem h2,Option.getD_some];exact zqT _ _ _
    ·intro y hy;simp only[List.mem_cons,List.not_mem_nil,or_false]at hy;rcases hy with rfl|rfl<;>omega
  ·have e1:(c !=chG gr s (bs.flatten++im++p.Commits))=true:=by simpa using hcc
   rw[e1];rfl
theorem zgH(k:OkG gr):zar gr gr.G=true:=by
 have hg:=k.g;simp only[zar,Bool.and_eq_true,decide_eq_true_eq];exact⟨by omega,k.o⟩
theorem znN(h:zar gr x=true):LinS gr [[x]]:=⟨by simp,by simp,fun r hr=>by
 rw[List.mem_singleton.1 hr]
 simp[h]⟩
def zxq(gr:Group)(s:ByteArray)(key:Int)(p:Proof):Bool:=znp gr s [[gr.G]] [key] p
theorem zxJ(k:OkG gr)(hs:s.size≤40){key:Int}(hk:zar gr key=true){p:Proof}(hc:p.Commits.length≤1048576):zeJ gr s key p=some (zxq gr s key p)∧zdg gr s key p=some (zxq gr s key p):=by
 have hr:=znN (zgH k);have hd:[key].all (zar gr)=true:=by simp[hk]
 unfold zeJ zdg;rw[zpQ k hs hr rfl hd hc,zpZ k hs hr rfl hd hc];exact⟨rfl,rfl⟩
def hxS:ByteArray:=⟨#[48,49,50,51,52,53,54,55,56,57,97,98,99,100,101,102]⟩
def hxC(n:Int):Int:=(ixs hxS n).getD 0
theorem zyp{n:Int}(h:0≤n∧n<16):ixs hxS n=some (hxC n):=by
 obtain⟨k,rfl⟩:=Int.eq_ofNat_of_zero_le h.1;have:∀k:Fin 16,ixs hxS (k.val:Int)=some (hxC (k.val:Int)):=by decide
 exact this ⟨k,by omega⟩
def hxD(d:Int)(k:Nat):Int:=d/16^k%16
theorem zvO(d:Int)(k:Nat):0≤hxD d k∧hxD d k<16:=by unfold hxD;omega
def hxL(d:Int):List Int:=(List.range 16).map fun i=>hxC (hxD d (15-i))
theorem zuC(l:List Int):(zcT l).size=l.length:=by
 show((l.map fun n=>UInt8.ofNat n.toNat).toArray).size=_;simp
def hxT(d:Int):ByteArray:=zcT (hxL d)
theorem znv(d:Int):(hxT d).size=16:=by unfold hxT;rw[zuC];simp[hxL]
theorem zzC(h:zaO d=true):zex d=some (hxT d,true):=by
 have hd:=zbn.1 h;unfold zex;rw[zk8,h,Option.bind_some];simp only[Bool.not_true,Bool.false_eq_true,if_false];rw[zb9 (by omega),Option.bind_some]
 have key:=zbe (σ:=Int×List Int×Int) (β:=List Int) (step:=fun s17=>
  if decide (0≤s17.2.2)=true then(
  (ixs (⟨#[48,49,50,51,52,53,54,55,56,57,97,98,99,100,101,102]⟩:ByteArray) (s17.1.tmod 16)).bind fun x23=>
  (ix s17.2.1 s17.2.2).bind fun x24=>
  some (.go (i64.wrap (s17.1.tdiv 16),s17.2.1.set s17.2.2.toNat x23,i64.wrap (s17.2.2-1))))else(
  some (.out s17.2.1))) (s0:=(d,List.replicate 16 0,15)) (φ:=fun l=>l=hxL d) 16
  (fun j p=>p.1=d/16^j∧p.2.1.length=16∧p.2.2=15-(j:Int)∧∀i (h:i<p.2.1.length),15<i+j→p.2.1[i]=hxC (hxD d (15-i))) ⟨by simp,by simp,rfl,fun i h1 h2=>by simp at h1;omega⟩ ?_ ?_
 ·obtain⟨l,e,rfl⟩:=key;rw[e];rfl
 ·rintro j ⟨a,l,c⟩ hj ⟨rfl,h2,rfl,h4⟩;simp only at h2 h4;have hp:(0:Int)<16^j:=Int.pow_pos (by omega);have h0:0≤d/16^j:=Int.ediv_nonneg hd.1 (by omega);have h1:d/16^j≤d:=Int.ediv_le_self _ hd.1;obtain⟨i,hi,e1⟩:∃i:Nat,i<16∧15-(j:Int)=(i:Int):=⟨15-j,by omega,by omega⟩
  have hil:i<l.length:=by omega
  have e2:(d/16^j).tmod 16=hxD d j:=Int.tmod_eq_emod_of_nonneg h0
  have e3:i64.wrap ((d/16^j).tdiv 16)=d/16^(j+1):=by
   rw[Int.tdiv_eq_ediv_of_nonneg h0,zak (by omega) (by omega),Int.ediv_ediv_of_nonneg (by omega),Int.pow_succ]
  dsimp only;rw[e1];refine zgt (by simp) (zae (by rw[e2];exact zyp (zvO d j)) (zae (za3 hil) (zab ⟨e3,by simpa using h2,?_,fun t ht h5=>?_⟩)))
  ·show i64.wrap ((i:Int)-1)=_;rw[zak (by omega) (by omega)];omega
  simp only[Int.toNat_natCast,List.getElem_set];split
  ·rename_i e;subst e;have:15-i=j:=by omega
   rw[this]
  exact h4 t (by simpa using ht) (by omega)
 rintro⟨a,l,c⟩ ⟨rfl,h2,rfl,h4⟩;simp only at h2 h4;refine⟨.out l,rfl,?_⟩;refine List.ext_getElem (by simp[hxL,h2]) fun i h5 h6=>?_
 rw[h4 i h5 (by omega)];simp[hxL]
theorem zDG(hx:0≤x∧x≤9223372036854775807):i64.wrap (BitVec.ofInt IntKind.i64.bits x&&&BitVec.ofInt IntKind.i64.bits 15).toNat=x%16:=by
 obtain⟨n,rfl⟩:=Int.eq_ofNat_of_zero_le hx.1
 have h1:(BitVec.ofInt IntKind.i64.bits ((n:Nat):Int)&&&BitVec.ofInt IntKind.i64.bits 15).toNat=n%16:=by
  rw[BitVec.toNat_and]
  have a1:(BitVec.ofInt IntKind.i64.bits (n:Int)).toNat=n:=by
   rw[BitVec.toNat_ofInt];have:IntKind.i64.bits=64:=rfl;rw[this];omega
  have a2:(BitVec.ofInt IntKind.i64.bits 15).toNat=2^4-1:=by decide
  rw[a1,a2,Nat.and_two_pow_sub_one_eq_mod]
 rw[h1,zak (by omega) (by omega)];omega
theorem zy5(h:zaO d=true):zey d=some (hxT d,true):=by
 have hd:=zbn.1 h;unfold zey;rw[zh4,h,Option.bind_some];simp only[Bool.not_true,Bool.false_eq_true,if_false];refine zaj (zag (ψ:=fun l=>l=hxL d) (zbe 16 (fun j p=>p=((List.range j).map fun i=>hxC (hxD d (15-i)),15-(j:Int))) rfl ?_ ?_) ?_)
 ·rintro j p hj rfl;obtain⟨i,hi,e1⟩:∃i:Nat,i<16∧15-(j:Int)=(i:Int):=⟨15-j,by omega,by omega⟩
  have ei:15-j=i:=by omega
  have e4:(IntKind.u64.wrap (i64.wrap (4*(i:Int))))=((4*i:Nat):Int):=by
   rw[zak (by omega) (by omega),wrU (by omega) (by omega)];omega
  have hm:min (4*i) IntKind.i64.bits=4*i:=Nat.min_eq_left (by show 4*i≤64;omega);have e16:(2:Int)^(4*i)=16^i:=by rw[Int.pow_mul];rfl
  have hp:(0:Int)<16^i:=Int.pow_pos (by omega);have h0:0≤d/16^i:=Int.ediv_nonneg hd.1 (by omega);have h1:d/16^i≤d:=Int.ediv_le_self _ hd.1;have ed:d.fdiv (16^i)=d/16^i:=Int.fdiv_eq_ediv_of_nonneg _ (by omega);rw[e1];refine zgt (by simp) ?_;dsimp only;rw[e4,Int.toNat_natCast,hm,e16,ed,zDG (by omega)];refine zaq (by omega) (zae (zyp (zvO d i)) (zaq (by simp;omega) (zab ?_)));show(_,_)=_;rw[List.range_succ,List.map_append,zak (by omega) (by omega)];have e5:(i:Int)-1=15-((j+1:Nat):Int):=by omega
  rw[e5,←ei];rfl
 ·rintro p rfl;exact zbf rfl (zab rfl)
 rintro l rfl;exact zab rfl
theorem zy2(h:zaO d=true):zgq d=some (hxT d):=by
 unfold zgq;rw[zzC h];rfl
theorem zsZ(hs:s.size≤1000)(h:zaO d=true):zd0 s d=some (s++hxT d):=by
 unfold zd0;rw[zy5 h,Option.bind_some,zb9 (by rw[znv];omega)]
def zaE(l:List Int):List Int:=(l.length:Int)::l
def zda(p:Proof):List Int:=zaE p.Commits++zaE p.Challenges++zaE p.Responses
theorem zlS(h:l.length≤10000000):zcD l=some (zaE l):=by
 unfold zcD;rw[zb9 (by simp;omega)];rfl
def za5(l:List Int):Bool:=decide ((l.length:Int)≤400)&&l.all zaO
theorem zfT(l:List Int):zcP l=some (za5 l):=by
 unfold zcP
 have h1:zaY l=some (l.all zaO):=zi5 (f:=zaJ) fun x _=>by
  unfold zaJ;rw[zh4];rfl
 rw[h1,Option.bind_some,zil];rfl
theorem zkZ(l:List Int):zdD l=some (if za5 l=true then(l,true)else([],false)):=by
 unfold zdD;rw[zfT];cases za5 l<;>rfl
theorem zqm{p:Proof}(h1:p.Commits.length≤1048576)(h2:p.Challenges.length≤1048576)(h3:p.Responses.length≤1048576):zed p=some (if za5 (zda p)=true then(zda p,true)else([],false)):=by
 have e:[zaE p.Commits,zaE p.Challenges,zaE p.Responses].flatten=zda p:=by simp[zda]
 unfold zed;rw[zlS (by omega),Option.bind_some,zlS (by omega),Option.bind_some,zlS (by omega),Option.bind_some,zlQ _ (by rw[e];simp[zda,zaE];omega),Option.bind_some,e,zkZ];cases za5 (zda p)<;>rfl
theorem zzL{β:Type}{f:Nat→Option β}{b:β}(h:f n=some b)(mono:∀n b,f n=some b→f (n+1)=some b):zpp f=some b:=by
 obtain⟨b',m,h1,h2⟩:=zzi h
 have up:∀k n b,f n=some b→f (n+k)=some b:=by
  intro k;induction k with
  |zero=>intro n b h;exact h
  |succ k ih=>intro n b h;exact mono _ _ (ih n b h)
 have a:=up m n b h;have c:=up n m b' h2;rw[Nat.add_comm m n,a]at c;cases c;exact h1
theorem zxQ(l:List Int):zaY l=some (l.all zaO):=zi5 (f:=zaJ) fun x _=>by
 unfold zaJ;rw[zh4];rfl
theorem zv0(l:List Int):zd4 l 0 4611686018427387903=some (l.all zaO):=zo7 l _ _
def zjG(kind author:Int)(data:List Int):Bool:=inB 1 9 kind&&(inB 0 39 author&&(decide ((data.length:Int)≤380)&&data.all zaO))
abbrev zAz:ByteArray:=⟨#[101,110,116,114,121]⟩
abbrev zuz:ByteArray:=⟨#[101,110,116,114,121,32]⟩
def eD(kind author at_:Int)(data:List Int):Int:=zg2 zAz ([kind,author,at_]++data)
theorem zxT(e:Entry):zf2 e=some (zjG e.Kind e.Author e.Data):=by
 unfold zf2 zjG;simp only[zqV,zv0,Option.bind_some,zil]
theorem zxu(kind author:Int)(data:List Int):zdO kind author data=some (zjG kind author data):=by
 unfold zdO zjG;simp only[zlZ,zxQ,Option.bind_some,zil]
theorem ztr{kind author:Int}{data:List Int}(h:zjG kind author data=true)(hi:0≤i∧i≤63):([kind,author,i]++data).all zaO=true∧data.length≤380:=by
 simp only[zjG,Bool.and_eq_true,decide_eq_true_eq,zfl]at h;obtain⟨h1,h2,h3,h4⟩:=h;refine⟨?_,by omega⟩;rw[List.all_append,h4,Bool.and_true];simp only[List.all_cons,List.all_nil,Bool.and_true,Bool.and_eq_true];exact⟨zbn.2 (by omega),zbn.2 (by omega),zbn.2 (by omega)⟩
theorem zvG(h:zjG e.Kind e.Author e.Data=true)(hi:0≤i∧i≤63):zfB e i=some (eD e.Kind e.Author i e.Data):=by
 obtain⟨h1,h2⟩:=ztr h hi;unfold zfB;rw[zb9 (by simp only[List.length_cons,List.length_nil];omega),ziE (s:=zAz) (by decide) (by simp only[List.length_append,List.length_cons,List.length_nil];omega) h1];rfl
theorem zqn(kind author i:Int){data:List Int}(hl:data.length≤1048576):zd5 kind author i data=some (if(zjG kind author data&&inB 0 63 i)=true then(eD kind author i data,true)else(0,false)):=by
 unfold zd5;simp only[zxu,zlZ,Option.bind_some,zeT];cases hp:zjG kind author data with
 |false=>rfl
 |true=>
  cases hi:inB 0 63 i with
  |false=>rfl
  |true=>
   obtain⟨h1,h2⟩:=ztr hp (zfl.1 hi);simp only[Bool.not_true,Bool.or_self,Bool.false_eq_true,if_false,Bool.and_self,if_true];rw[zb9 (by simp only[List.length_cons,List.length_nil];omega),zgK,if_pos]
   ·rfl
   ·simp only[zhq,h1,Bool.and_true,Bool.and_eq_true,decide_eq_true_eq,List.length_append,List.length_cons,List.length_nil];exact⟨by decide,by show 1+5+_≤400;omega⟩
def znT(gr:Group)(key i:Int)(e:Entry):Bool:=zjG e.Kind e.Author e.Data&&zxq gr (zuz++hxT (eD e.Kind e.Author i e.Data)) key e.Sign
def ziC(p:Proof):Prop:=p.Commits.length≤1048576∧p.Challenges.length≤1048576∧p.Responses.length≤1048576
def zjZ(e:Entry):Prop:=e.Data.length≤1048576∧ziC e.Sign
def ziB(b:Board):Prop:=b.Keys.length≤1048576∧b.Entries.length≤1048576∧∀e∈b.Entries,zjZ e
theorem zxi(s:ByteArray)(d:Int):(s++hxT d).size=s.size+16:=by rw[ByteArray.size_append,znv]
theorem zvn(k:OkG gr){key:Int}(hk:zar gr key=true)(hi:0≤i∧i≤63)(hl:zjZ e):zfn gr key i e=some (znT gr key i e)∧zds gr key i e=some (znT gr key i e):=by
 unfold zfn zds zhj;rw[zxT,zqn _ _ _ hl.1];cases hp:zjG e.Kind e.Author e.Data with
 |false=>simp[znT,hp]
 |true=>
  have hd:zaO (eD e.Kind e.Author i e.Data)=true:=zjj _ _;have hs:(zuz++hxT (eD e.Kind e.Author i e.Data)).size≤40:=by rw[zxi];decide
  obtain⟨s1,s2⟩:=zxJ k hs hk hl.2.1;rw[zfl.2 hi,zvG hp hi];simp only[Bool.and_self,if_true,Option.bind_some];rw[zy2 hd,Option.bind_some,zb9 (by rw[znv];decide),Option.bind_some,show zd0 (⟨#[101,110,116,114,121,32]⟩:ByteArray) (eD e.Kind e.Author i e.Data)=some (zuz++hxT (eD e.Kind e.Author i e.Data))from zsZ (by decide) hd];simp only[Option.bind_some];rw[show zeJ gr ((⟨#[101,110,116,114,121,32]⟩:ByteArray)++hxT (eD e.Kind e.Author i e.Data)) key e.Sign=_ from s1,s2];simp[znT,hp]
noncomputable def zme(gr:Group)(b:Board):Bool:=
 !(decide (40<(b.Keys.length:Int))||(!b.Keys.all (zar gr)||decide (64<(b.Entries.length:Int))))&&
 (List.range b.Entries.length).all fun i=> !(!inB 0 ((b.Keys.length:Int)-1) (b.Entries.getD i ⟨0,0,[],⟨[],[],[]⟩⟩).Author|| !znT gr (b.Keys.getD (b.Entries.getD i ⟨0,0,[],⟨[],[],[]⟩⟩).Author.toNat 0) i (b.Entries.getD i ⟨0,0,[],⟨[],[],[]⟩⟩))
theorem zFT{α:Type}{l:List α}(h0:0≤i)(h:i<l.length):ix l i=some (l[i.toNat]'(by omega)):=by
 obtain⟨k,rfl⟩:=Int.eq_ofNat_of_zero_le h0;exact za3 (by omega)
theorem zzg(k:OkG gr){b:Board}(hl:ziB b):zfY gr b=some (zme gr b)∧zdx gr b=some (zme gr b):=by
 obtain⟨l1,l2,l3⟩:=hl
 have ek:zdw gr b.Keys=some (!(decide (40<(b.Keys.length:Int))|| !b.Keys.all (zar gr))):=by
  unfold zdw;rw[znR k,Option.bind_some,zil,Option.bind_some];by_cases h:(b.Keys.length:Int)≤40
  ·have:¬40<(b.Keys.length:Int):=by omega
   simp[h,this]
  ·have:40<(b.Keys.length:Int):=by omega
   simp[h,this]
 unfold zfY zdx zme;simp only[zqN k,ek,Option.bind_some,zeT];rw[show(!(!(decide (40<(b.Keys.length:Int))|| !b.Keys.all (zar gr)))||decide (64<(b.Entries.length:Int)))=(decide (40<(b.Keys.length:Int))||(!b.Keys.all (zar gr)||decide (64<(b.Entries.length:Int))))by rw[Bool.not_not,Bool.or_assoc]];cases hg:(decide (40<(b.Keys.length:Int))||(!b.Keys.all (zar gr)||decide (64<(b.Entries.length:Int))))with
 |true=>exact⟨rfl,rfl⟩
 |false=>
  simp only[Bool.or_eq_false_iff,decide_eq_false_iff_not,Bool.not_eq_false']at hg;obtain⟨g1,g2,g3⟩:=hg;simp only[Bool.false_eq_true,if_false,Bool.not_false,Bool.true_and];have w:i64.wrap ((b.Keys.length:Int)-1)=(b.Keys.length:Int)-1:=zak (by omega) (by omega);constructor
  all_goals
   rw[zjD (fun i=> !(!inB 0 ((b.Keys.length:Int)-1) (b.Entries.getD i ⟨0,0,[],⟨[],[],[]⟩⟩).Author|| !znT gr (b.Keys.getD (b.Entries.getD i ⟨0,0,[],⟨[],[],[]⟩⟩).Author.toNat 0) i (b.Entries.getD i ⟨0,0,[],⟨[],[],[]⟩⟩))) false true]
   ·simp only[Bool.if_true_left,Bool.if_false_right,Bool.and_true,Bool.decide_eq_true,Bool.or_false]
   ·intro i hi;have he:b.Entries.getD i ⟨0,0,[],⟨[],[],[]⟩⟩=b.Entries[i]:=by simp[hi]
    rw[za3 hi,Option.bind_some,he,w];simp only[zqV,zlZ,Option.bind_some];cases ha:inB 0 ((b.Keys.length:Int)-1) b.Entries[i].Author with
    |false=>rfl
    |true=>
     have ha:=zfl.1 ha;have hal:b.Entries[i].Author.toNat<b.Keys.length:=by omega
     have hx:=List.all_eq_true.1 g2 _ (List.getElem_mem hal);have ha2:=zvn k hx (i:=(i:Int)) (by omega) (l3 _ (List.getElem_mem hi));have hk:b.Keys.getD b.Entries[i].Author.toNat 0=b.Keys[b.Entries[i].Author.toNat]:=by simp[hal]
     rw[zFT ha.1 (by omega),hk];simp only[Bool.not_true,Bool.false_eq_true,if_false,Option.bind_some,ha2.1,ha2.2,Bool.false_or,Bool.not_not];cases znT gr (b.Keys[b.Entries[i].Author.toNat]) (i:Int) b.Entries[i]<;>rfl
def Szs(e:Option Int):Prop:=∃z,z≤1048576∧e=some z
theorem zhp{e:Option Int}{f:Int→Option Int}(h:Szs e)(hf:∀z,0≤z→z≤1048576→Szs (f z)):Szs (e.bind fun z=>if decide (z<0)=true then some (-1)else f z):=by
 obtain⟨z,h1,rfl⟩:=h;rw[Option.bind_some];by_cases h:z<0
 ·rw[if_pos (by simpa using h)];exact⟨-1,by omega,rfl⟩
 rw[if_neg (by simpa using h)];exact hf z (by omega) h1
theorem znw{z:Int}(h:z≤1048576):Szs (some z):=⟨z,h,rfl⟩
theorem zom{n:Int}(h0:0≤n)(h1:n≤1048576)(hl:l.length≤1048576):Szs (zcz l n):=by
 obtain⟨z,h,h2⟩:=zxr h0 h1 hl;exact⟨z,h2,h⟩
theorem zE3{p:Proof}(hl:ziC p){n:Int}(h0:0≤n)(h1:n≤1048576):Szs (zgS p n):=
 zhp (zom h0 h1 hl.1) fun z a b=>zhp (zom a b hl.2.1) fun z a b=>zhp (zom a b hl.2.2) fun z a b=>znw b
theorem zCA(hl:zjZ e){n:Int}(h0:0≤n)(h1:n≤1048576):Szs (zgJ e n):=
 zhp (zom h0 h1 hl.1) fun z a b=>zhp (zE3 hl.2 a b) fun z a b=>znw b
theorem zxh{α:Type}{l:List α}{f:α→Int→Option Int}{n:Int}(h0:0≤n)(h1:n≤1048576)(hl:l.length≤1048576)(hf:∀x∈l,∀z,0≤z→z≤1048576→Szs (f x z)):
 Szs (if decide ((i64.wrap (n-(l.length:Int)))<0)=true then(some (-1))else(
  ((zau (σ:=Int×Int) (fun s5=>
  if decide (s5.2<(l.length:Int))=true then(
  (ix l s5.2).bind fun x11=>
  (f x11 s5.1).bind fun z12=>
  if decide (z12<0)=true then(
  some (.out (.inr (-1))))else(
  some (.go (z12,i64.wrap (s5.2+1)))))else(
  some (.out (.inl s5.1)))) (i64.wrap (n-(l.length:Int)),0):Option (Int ⊕ Int)).bind (Sum.elim (fun x4=>
  some x4) some)))):=by
 rw[zak (by omega) (by omega)];by_cases h:n-(l.length:Int)<0
 ·rw[if_pos (by simpa using h)];exact⟨-1,by omega,rfl⟩
 rw[if_neg (by simpa using h)]
 obtain⟨z,e,hz⟩:=zzj (step:=fun s5:Int×Int=>
  if decide (s5.2<(l.length:Int))=true then(
  (ix l s5.2).bind fun x11=>
  (f x11 s5.1).bind fun z12=>
  if decide (z12<0)=true then(
  some (Stp.out (.inr (-1))))else(
  some (.go (z12,i64.wrap (s5.2+1)))))else(
  some (.out (.inl s5.1)))) (a0:=n-(l.length:Int)) l.length (by omega) (fun k a hk a0 a1=>by
   obtain⟨z,hz,e⟩:=hf _ (List.getElem_mem hk) a a0 a1;refine⟨z,hz,?_⟩
   rw[if_pos (by simpa using hk),za3 hk,Option.bind_some,e,Option.bind_some,inc (by omega)]) (fun a=>by simp)
 exact⟨z,hz,e⟩
theorem zFk{b:Board}(hl:ziB b){n:Int}(h0:0≤n)(h1:n≤1048576):Szs (zgQ b n):=
 zhp (zom h0 h1 hl.1) fun z a c=>zhp (zxh a c hl.2.1 fun e he z a b=>zCA (hl.2.2 e he) a b) fun z a b=>znw b
theorem zLA{p:Proof}(hl:ziC p):zfD p=some p:=by
 unfold zfD;rw[zjH hl.1,zjH hl.2.1,zjH hl.2.2];rfl
theorem zKE(hl:zjZ e):zfy e=some e:=by
 unfold zfy;rw[zjH hl.1,zLA hl.2];rfl
theorem zzv{α:Type}{l:List α}{d:α}{f:α→Option α}(hc:1≤c∧c≤1000)(hl:l.length≤1048576)(hf:∀x∈l,f x=some x):
 (gd (0≤(l.length:Int)∧(l.length:Int)≤(l.length:Int)∧c*(l.length:Int)≤140737488355328∧(l.length:Int)≤4611686018427387904)<|
 (some (List.replicate l.length d)).bind fun x1=>
 ((zau (σ:=(List α)×Int) (fun s16=>
 if decide (s16.2<(l.length:Int))=true then(
 (ix l s16.2).bind fun x22=>
 (f x22).bind fun z23=>
 (ix s16.1 s16.2).bind fun x24=>
 some (.go (s16.1.set s16.2.toNat z23,i64.wrap (s16.2+1))))else(
 some (.out s16.1))) (x1,0):Option ((List α))).bind fun x6=>
 some x6))=some l:=by
 have h:c*(l.length:Int)≤1000*1048576:=Int.mul_le_mul hc.2 (by omega) (by omega) (by omega);rw[zb9 (by omega),Option.bind_some,zyU,Option.bind_some]
 ·intro k hk r hr;have h2:k<r.length:=by omega
  rw[if_pos (by simpa using hk),za3 hk,Option.bind_some,hf _ (List.getElem_mem hk),Option.bind_some,za3 h2,Option.bind_some,inc (by omega)];rfl
 intro r;simp
theorem zFt{l:List Entry}(hl:l.length≤1048576)(hw:∀e∈l,zjZ e):zgi l=some l:=zzv (c:=112) (by omega) hl fun e he=>zKE (hw e he)
theorem zIu{b:Board}(hl:ziB b):zdi b=some b:=by
 unfold zdi;rw[zjH hl.1,zFt hl.2.1 hl.2.2];rfl
theorem zIw{p:Proof}(hl:ziC p):zfA p p=some true:=by
 unfold zfA;rw[zis hl.1,zis hl.2.1,zis hl.2.2];rfl
theorem zLm(hl:zjZ e):zfJ e e=some true:=by
 unfold zfJ;rw[if_neg (by simp),if_neg (by simp),zis hl.1,zIw hl.2];rfl
theorem zzJ{α:Type}{l:List α}{f:α→α→Option Bool}(hl:l.length≤1048576)(hf:∀x∈l,f x x=some true):
 (if((l.length:Int) !=(l.length:Int))=true then(
 some false)else(
 ((zau (σ:=Int) (fun s5=>
 if decide (s5<(l.length:Int))=true then(
 (ix l s5).bind fun x11=>
 (ix l s5).bind fun x12=>
 (f x11 x12).bind fun z13=>
 if(!z13)=true then(
 some (.out (.inr false)))else(
 some (.go (i64.wrap (s5+1)))))else(
 some (.out (.inl ())))) 0:Option (Unit ⊕ Bool)).bind (Sum.elim (fun x4=>
 some true) some))))=some true:=by
 rw[if_neg (by simp),zBI l.length]
 ·rfl
 ·intro k hk;rw[if_pos (by simpa using hk),za3 hk,Option.bind_some,Option.bind_some,hf _ (List.getElem_mem hk),inc (by omega)];rfl
 simp
theorem zId{b:Board}(hl:ziB b):zfG b b=some true:=by
 unfold zfG;rw[zis hl.1,show zgm b.Entries b.Entries=some true from zzJ hl.2.1 fun e he=>zLm (hl.2.2 e he)];rfl
theorem zDs{l:List Entry}(ha:1≤a∧a≤1000000000000)(hl:l.length≤1048576)(hw:∀e∈l,zjZ e):∃z,zc1 l a=some z∧1≤z.1∧z.1≤1000000000000000:=by
 unfold zc1
 have key:=zyO (l:=l) (a0:=a) (K:=10000000) (step:=fun s15=>
  if decide (s15.2.2<(s15.1.length:Int))=true then(
  (ix s15.1 s15.2.2).bind fun x21=>
  (zaK x21.Data (i64.wrap ((i64.wrap (s15.2.1+1))+1))).bind fun z22=>
  (zaK x21.Sign.Commits z22.1).bind fun z23=>
  (zaK x21.Sign.Challenges z23.1).bind fun z24=>
  (zaK x21.Sign.Responses z24.1).bind fun z25=>
  some (.go ((((((s15.1.set s15.2.2.toNat (Entry.mk s15.2.1 x21.Author x21.Data x21.Sign)).set s15.2.2.toNat (Entry.mk s15.2.1 (i64.wrap (s15.2.1+1)) x21.Data x21.Sign)).set s15.2.2.toNat (Entry.mk s15.2.1 (i64.wrap (s15.2.1+1)) z22.2 x21.Sign)).set s15.2.2.toNat (Entry.mk s15.2.1 (i64.wrap (s15.2.1+1)) z22.2 (Proof.mk z23.2 x21.Sign.Challenges x21.Sign.Responses))).set s15.2.2.toNat (Entry.mk s15.2.1 (i64.wrap (s15.2.1+1)) z22.2 (Proof.mk z23.2 z24.2 x21.Sign.Responses))).set s15.2.2.toNat (Entry.mk s15.2.1 (i64.wrap (s15.2.1+1)) z22.2 (Proof.mk z23.2 z24.2 z25.2)),z25.1,i64.wrap (s15.2.2+1))))else(
  some (.out (s15.1,s15.2.1)))) zjZ hw (by omega) ha.1 ?_ ?_
 ·obtain⟨z,h1,h2,h3,_⟩:=key;rw[h1,Option.bind_some];have h4:(l.length:Int)*10000000≤1048576*10000000:=Int.mul_le_mul (by omega) (Int.le_refl _) (by omega) (by omega);exact⟨_,rfl,h2,by show z.2≤_;omega⟩
 ·intro k r a' hk hr hP h1 h2;have hk2:(k:Int)*10000000≤1048576*10000000:=Int.mul_le_mul (by omega) (Int.le_refl _) (by omega) (by omega);obtain⟨c0,c1,c2,c3⟩:=hP;obtain⟨m,m1,m2,_⟩:=zjd r[k].Data (a'+1+1) (by omega) (by omega) c0;obtain⟨n,n1,n2,_⟩:=zjd r[k].Sign.Commits (a'+1+1+r[k].Data.length) (by omega) (by omega) c1;obtain⟨o,o1,o2,_⟩:=zjd r[k].Sign.Challenges (a'+1+1+r[k].Data.length+r[k].Sign.Commits.length) (by omega) (by omega) c2;obtain⟨p,p1,p2,_⟩:=zjd r[k].Sign.Responses (a'+1+1+r[k].Data.length+r[k].Sign.Commits.length+r[k].Sign.Challenges.length) (by omega) (by omega) c3;refine⟨⟨a',a'+1,m,⟨n,o,p⟩⟩,a'+1+1+r[k].Data.length+r[k].Sign.Commits.length+r[k].Sign.Challenges.length+r[k].Sign.Responses.length,?_,⟨by show m.length≤_;omega,by show n.length≤_;omega,by show o.length≤_;omega,by show p.length≤_;omega⟩,?_,?_⟩
  ·dsimp only;rw[if_pos (by simpa using hk),za3 hk,Option.bind_some,zak (n:=a'+1) (by omega) (by omega),zak (n:=a'+1+1) (by omega) (by omega),m1,Option.bind_some,n1,Option.bind_some,o1,Option.bind_some,p1,Option.bind_some,inc (by omega)];simp
  ·omega
  omega
 intro r a hr;simp[hr]
theorem zLo{b:Board}(hl:ziB b):∃z,zdd b 1=some z∧1≤z∧z≤1000000000000000:=by
 obtain⟨c1,c2,c3⟩:=hl;unfold zdd;obtain⟨n,n1,n2,_⟩:=zjd b.Keys 1 (by omega) (by omega) c1;obtain⟨z,e,h1,h2⟩:=zDs (a:=1+b.Keys.length) (by omega) c2 c3;rw[n1,Option.bind_some,e,Option.bind_some];exact⟨_,rfl,h1,h2⟩
theorem zza{e:Option Int}{f:Int→Option Bool}(h:Szs e)(hf:∀z,0≤z→z≤1048576→f z=some true):(e.bind fun z=>if decide (z<0)=true then some true else f z)=some true:=by
 obtain⟨z,h1,rfl⟩:=h;rw[Option.bind_some];by_cases h:z<0
 ·rw[if_pos (by simpa using h)]
 rw[if_neg (by simpa using h)];exact hf z (by omega) h1
theorem zrC(p:Plan):zeZ p=zfk p:=rfl
def zeV(gr:Group)(o l:List Int):List Int:=List.zipWith (fun x y=>zeU gr [x,y]) o l
def zEy{α:Type}(f:α→Int)(L:List α)(T:Nat):List α:=(List.range T).flatMap fun i=>L.filter fun e=>f e==((i+1:Nat):Int)
theorem zFs(k:OkG gr){τ:Type}(q:List Int→τ)(hlen:o.length=l.length)(ho:∀x∈o,0≤x∧x≤2000000000)(hl:∀x∈l,0≤x∧x≤2000000000):
 zat (σ:=List Int) (fun i s=>(ix l i).bind fun x=>(ix s i).bind fun y=>(zaU gr [y,x]).bind fun z=>some (.go (s.set i.toNat z))) q l.length 0 o=some (q (zeV gr o l)):=by
 refine zaj (zaP (fun k s=>s.length=l.length∧∀j,s[j]? =if j<k then(zeV gr o l)[j]? else o[j]?) ⟨hlen,fun j=>by simp⟩ ?_ ?_)
 ·rintro i s hi ⟨h1,h2⟩;have h3:i<s.length:=by omega
  have h5:i<o.length:=by omega
  have h4:s[i]=o[i]:=by
   have:=h2 i;rw[if_neg (Nat.lt_irrefl _),List.getElem?_eq_getElem h3,List.getElem?_eq_getElem h5]at this;injection this
  rw[za3 hi,Option.bind_some,za3 h3,Option.bind_some,zmJ k (by
   intro x hx;rcases List.mem_cons.1 hx with rfl|hx
   ·rw[h4];exact ho _ (List.getElem_mem h5)
   ·rw[List.mem_singleton.1 hx];exact hl _ (List.getElem_mem hi)),Option.bind_some]
  refine⟨_,rfl,by simp[h1],fun j=>?_⟩;rw[Int.toNat_natCast,List.getElem?_set];by_cases e:i=j
  ·subst e;rw[if_pos rfl,if_pos h3,if_pos (Nat.lt_succ_self _),h4];unfold zeV;rw[List.getElem?_zipWith,List.getElem?_eq_getElem h5,List.getElem?_eq_getElem hi]
  rw[if_neg e,h2 j];by_cases h6:j<i
  ·rw[if_pos h6,if_pos (by omega)]
  rw[if_neg h6,if_neg (by omega)]
 rintro s ⟨h1,h2⟩;congr 1;apply List.ext_getElem?;intro j;rw[h2 j];split
 ·rfl
 rename_i h3;rw[List.getElem?_eq_none (by omega),List.getElem?_eq_none (by unfold zeV;simp;omega)]
theorem zBe(k:OkG gr){τ:Type}(q:List Int→τ)(hlen:o.length=l.length)(ho:∀x∈o,0≤x∧x≤2000000000)(hl:∀x∈l,0≤x∧x≤2000000000):
 zat (σ:=List Int) (fun i s=>(ix l i).bind fun x=>(ix s i).bind fun y=>(zci gr [y,x]).bind fun z=>some (.go (s.set i.toNat z))) q l.length 0 o=some (q (zeV gr o l)):=zFs k q hlen ho hl
theorem zzh(k:OkG gr)(hlen:o.length=l.length)(ho:∀x∈o,0≤x∧x≤2000000000)(hl:∀x∈l,0≤x∧x≤2000000000):(zeV gr o l).length=o.length∧∀x∈zeV gr o l,0≤x∧x≤2000000000:=by
 refine⟨by unfold zeV;simp;omega,fun x hx=>?_⟩;obtain⟨i,hi,rfl⟩:=List.getElem_of_mem hx;unfold zeV at hi⊢;rw[List.getElem_zipWith];simp at hi
 have:=zy7 k (l:=[o[i],l[i]]) (by
  intro y hy;rcases List.mem_cons.1 hy with rfl|hy
  ·exact ho _ (List.getElem_mem _)
  ·rw[List.mem_singleton.1 hy];exact hl _ (List.getElem_mem _))
 have:=k.p;omega
def zeD(p:Plan)(s:ByteArray)(d:Int)(m:Nat):List Int:=(List.range m).map fun i:Nat=>zg2 s [p.Seed,d,(i:Int)]%p.Gr.Q
theorem zsp(k:OkG p.Gr)(hs:s.size≤40)(hp:zaO p.Seed=true)(hd:zaO d=true)(hm:m≤200):
 zf4 p s d m=some (zeD p s d m)∧zer p s d m=some (zeD p s d m):=by
 have hq:=k.q
 have hdig:∀i:Nat,i<m→([p.Seed,d,(i:Int)]:List Int).all zaO=true:=fun i hi=>by
  have:zaO (i:Int)=true:=by simp[zaO];omega
  simp[hp,hd,this]
 have ht:∀l,(zg2 s l).tmod p.Gr.Q=zg2 s l%p.Gr.Q:=fun l=>Int.tmod_eq_emod_of_nonneg (zbn.1 (zjj s l)).1
 have hst:∀i:Nat,zeD p s d (i+1)=zeD p s d i++[zg2 s [p.Seed,d,(i:Int)]%p.Gr.Q]:=fun i=>by
  unfold zeD;rw[List.range_succ,List.map_append];rfl
 have hlen:∀i:Nat,(zeD p s d i).length=i:=fun i=>by simp[zeD]
 constructor
 ·unfold zf4;refine zaj (zik (zbe m (fun i z=>z=(zeD p s d i,(i:Int))∧i≤m) ⟨rfl,by omega⟩ ?_ ?_))
  ·rintro i z hi ⟨rfl,_⟩;rw[if_pos (by simp;omega),ziE (by omega) (by simp) (hdig i hi),Option.bind_some,zb9 (by omega),zb9 (by rw[hlen];omega),ht];refine⟨_,rfl,?_,hi⟩;rw[zak (by omega) (by omega),hst];rfl
  rintro z ⟨rfl,_⟩;rw[if_neg (by simp)];exact⟨_,rfl,_,rfl,rfl⟩
 unfold zer;refine zaj (zik (zbe m (fun i z=>z=(zeD p s d i,(i:Int))∧i≤m) ⟨rfl,by omega⟩ ?_ ?_))
 ·rintro i z hi ⟨rfl,_⟩;rw[if_pos (by simp;omega),zgK,if_pos (by simp only[zhq,hdig i hi,Bool.and_true];simp;omega),Option.bind_some,zb9 (by omega),zb9 (by rw[hlen];omega),ht];refine⟨_,rfl,?_,hi⟩;rw[zak (by omega) (by omega),hst];rfl
 rintro z ⟨rfl,_⟩;rw[if_neg (by simp)];exact⟨_,rfl,_,rfl,rfl⟩
theorem zry(k:OkG p.Gr)(s:ByteArray)(d:Int)(m:Nat):∀x∈zeD p s d m,0≤x∧x<p.Gr.Q:=by
 intro x hx;obtain⟨i,_,rfl⟩:=List.mem_map.1 hx;have hq:=k.q;exact⟨Int.emod_nonneg _ (by omega),Int.emod_lt_of_pos _ (by omega)⟩
def zli:ByteArray:=⟨#[100,101,97,108]⟩
theorem zAp(k:OkG gr){τ:Type}(q:List Int→τ)(E:Int→Option Int)(f:Int→Int)(hlen:o.length=l.length)(ho:∀x∈o,0≤x∧x≤2000000000)(hE:∀x∈l,E x=some (f x)∧0≤f x∧f x≤2000000000):
 zat (σ:=List Int) (fun i s=>(ix l i).bind fun x=>(ix s i).bind fun y=>(E x).bind fun e=>(zaU gr [y,e]).bind fun z=>some (.go (s.set i.toNat z))) q l.length 0 o=some (q (zeV gr o (l.map f))):=by
 refine zaj (zaP (fun k s=>s.length=l.length∧∀j,s[j]? =if j<k then(zeV gr o (l.map f))[j]? else o[j]?) ⟨hlen,fun j=>by simp⟩ ?_ ?_)
 ·rintro i s hi ⟨h1,h2⟩;have h3:i<s.length:=by omega
  have h5:i<o.length:=by omega
  have h4:s[i]=o[i]:=by
   have:=h2 i;rw[if_neg (Nat.lt_irrefl _),List.getElem?_eq_getElem h3,List.getElem?_eq_getElem h5]at this;injection this
  obtain⟨e1,e2⟩:=hE _ (List.getElem_mem hi)
  rw[za3 hi,Option.bind_some,za3 h3,Option.bind_some,e1,Option.bind_some,zmJ k (by
   intro x hx;rcases List.mem_cons.1 hx with rfl|hx
   ·rw[h4];exact ho _ (List.getElem_mem h5)
   ·rw[List.mem_singleton.1 hx];exact e2),Option.bind_some]
  refine⟨_,rfl,by simp[h1],fun j=>?_⟩;rw[Int.toNat_natCast,List.getElem?_set];by_cases e:i=j
  ·subst e;rw[if_pos rfl,if_pos h3,if_pos (Nat.lt_succ_self _),h4];unfold zeV;rw[List.getElem?_zipWith,List.getElem?_eq_getElem h5,List.getElem?_map,List.getElem?_eq_getElem hi];rfl
  rw[if_neg e,h2 j];by_cases h6:j<i
  ·rw[if_pos h6,if_pos (by omega)]
  rw[if_neg h6,if_neg (by omega)]
 rintro s ⟨h1,h2⟩;congr 1;apply List.ext_getElem?;intro j;rw[h2 j];split
 ·rfl
 rename_i h3;rw[List.getElem?_eq_none (by omega),List.getElem?_eq_none (by unfold zeV;simp;omega)]
def zhk(p:Plan)(h:Nat)(t:Nat):List Int:=(zeD p zli ((t+1:Nat):Int) h).map (za6 p.Gr p.Gr.G)
theorem zkV(k:OkG p.Gr)(h t:Nat):(zhk p h t).length=h∧∀x∈zhk p h t,0≤x∧x<p.Gr.P:=by
 refine⟨by simp[zhk,zeD],fun x hx=>?_⟩;obtain⟨c,_,rfl⟩:=List.mem_map.1 hx;have:=zga k p.Gr.G c;omega
def zb5(p:Plan)(h n:Nat):List Int:=(List.range n).foldl (fun o t=>zeV p.Gr o (zhk p h t)) (List.replicate h 1)
theorem zmd(k:OkG p.Gr)(h:Nat):∀n,(zb5 p h n).length=h∧∀x∈zb5 p h n,0≤x∧x≤2000000000:=by
 have hp:=k.p;intro n;induction n with
 |zero=>exact⟨by simp[zb5],fun x hx=>by have:=List.eq_of_mem_replicate hx;omega⟩
 |succ n ih=>
  unfold zb5 at ih⊢;rw[List.range_succ,List.foldl_append];obtain⟨d1,d2⟩:=zkV k h n;obtain⟨m1,m2⟩:=zzh k (l:=zhk p h n) (ih.1.trans d1.symm) ih.2 fun x hx=>by have:=d2 x hx;omega
  exact⟨m1.trans ih.1,m2⟩
theorem zul{T:Nat}(k:OkG p.Gr)(hp:zaO p.Seed=true)(hT:p.Trustees=(T:Int))(hh:p.Threshold=(h:Int))(hT4:T≤4)(h1:1≤h)(hh4:h≤4):zdN p=some (zb5 p h T):=by
 have hpp:=k.p;have hg:=k.g
 have hst:∀n,zb5 p h (n+1)=zeV p.Gr (zb5 p h n) (zhk p h n):=fun n=>by
  unfold zb5;rw[List.range_succ,List.foldl_append];rfl
 have hrep:zbl [1] p.Threshold=some (List.replicate h 1):=by
  unfold zbl;rw[zb9 (by simp[hh];omega),hh];rfl
 unfold zdN;rw[hrep,Option.bind_some];refine zaj (zik (zbe T (fun i z=>z=(zb5 p h i,((i+1:Nat):Int))∧i≤T) ⟨rfl,by omega⟩ ?_ ?_))
 ·rintro i z hi ⟨rfl,_⟩;dsimp only;obtain⟨j1,j2⟩:=zmd k h i
  rw[if_pos (by simp[hT];omega),hh,show(⟨#[100,101,97,108]⟩:ByteArray)=zli from rfl,(zsp k (by decide) hp (zbn.2 (by omega)) (by omega)).2,Option.bind_some,
   zAp k (fun s=>s) (fun x=>za4 p.Gr p.Gr.G x) (za6 p.Gr p.Gr.G) (by rw[j1];simp[zeD]) j2 fun x _=>⟨(zn0 k (by omega) (by omega) x).1,by have:=zga k p.Gr.G x;omega⟩,Option.bind_some]
  refine⟨_,rfl,?_,hi⟩;rw[hst,zak (by omega) (by omega)];rfl
 rintro z ⟨rfl,_⟩;dsimp only;rw[if_neg (by simp[hT];omega)];exact⟨_,rfl,_,rfl,rfl⟩
theorem zty{t:Nat}(k:OkG p.Gr)(hp:zaO p.Seed=true)(hh:p.Threshold=(h:Int))(hh4:h≤4)(ht:t≤1000):zfc p ((t+1:Nat):Int)=some (zhk p h t):=by
 have hpp:=k.p;have hg:=k.g;unfold zfc zhc;rw[hh,show(⟨#[100,101,97,108]⟩:ByteArray)=zli from rfl,(zsp k (by decide) hp (zbn.2 (by omega)) (by omega)).1];simp only[Option.bind_some];have hl:(zeD p zli ((t+1:Nat):Int) h).length=h:=by simp[zeD]
 unfold zhk;generalize zeD p zli ((t+1:Nat):Int) h=l at hl⊢;refine zaj (zik (zaP (fun i s=>s=(l.take i).map (za6 p.Gr p.Gr.G)) (by simp) ?_ ?_))
 ·rintro i s hi rfl;rw[za3 hi,Option.bind_some,zqY k (by omega) (by omega),Option.bind_some,zb9 (by simp;omega)];refine⟨_,rfl,?_⟩;show _=_;rw[List.take_succ_eq_append_getElem hi,List.map_append];rfl
 rintro s rfl;rw[List.take_length];exact⟨_,rfl,rfl⟩
theorem zxU :∀(l:List Int),(∀x∈l,0≤x∧x<gr.P)→zeV gr (List.replicate l.length 1) l=l:=by
 intro l;induction l with
 |nil=>intro _;rfl
 |cons x l ih=>
  intro h;have hx:=h x (by simp);show zeU gr [1,x]::zeV gr (List.replicate l.length 1) l=x::l;rw[ih fun y hy=>h y (List.mem_cons_of_mem _ hy)];congr 1;show 1*1%gr.P*x%gr.P=x;rw[Int.mul_emod,Int.emod_emod_of_dvd _ (Int.dvd_refl _),←Int.mul_emod];simp only[Int.one_mul];exact Int.emod_eq_of_lt hx.1 hx.2
theorem zyY{T:Nat}(k:OkG p.Gr)(hp:zaO p.Seed=true)(hT:p.Trustees=(T:Int))(hh:p.Threshold=(h:Int))(hT1:1≤T)(hT4:T≤4)(hh4:h≤4):ze6 p=some (zb5 p h T):=by
 have hpp:=k.p
 have hst:∀n,zb5 p h (n+1)=zeV p.Gr (zb5 p h n) (zhk p h n):=fun n=>by
  unfold zb5;rw[List.range_succ,List.foldl_append];rfl
 have h0:zb5 p h 1=zhk p h 0:=by
  have:=zxU (gr:=p.Gr) (zhk p h 0) (zkV k h 0).2;rw[(zkV k h 0).1]at this;exact this
 unfold ze6;rw[show(1:Int)=((0+1:Nat):Int)from rfl,zty k hp hh hh4 (by omega),Option.bind_some];refine zaj (zik (zbe (T-1) (fun i z=>z=(zb5 p h (i+1),((i+1+1:Nat):Int))∧i≤T-1) ⟨by rw[h0];rfl,by omega⟩ ?_ ?_))
 ·rintro i z hi ⟨rfl,_⟩;dsimp only;obtain⟨j1,j2⟩:=zmd k h (i+1);obtain⟨d1,d2⟩:=zkV k h (i+1);rw[if_pos (by simp[hT];omega),zty k hp hh hh4 (by omega),Option.bind_some,zBe k (fun s=>s) (j1.trans d1.symm) j2 fun x hx=>by have:=d2 x hx;omega,Option.bind_some];refine⟨_,rfl,?_,hi⟩;rw[←hst,show i64.wrap (((i+1+1:Nat):Int)+((0+1:Nat):Int))=((i+1+1+1:Nat):Int)from zak (by omega) (by omega)]
 rintro z ⟨rfl,_⟩;dsimp only;rw[if_neg (by simp[hT];omega)];refine⟨_,rfl,_,rfl,?_⟩;show zb5 p h (T-1+1)=_;rw[Nat.sub_add_cancel hT1]
theorem zmg(k:OkG gr)(ha:0≤a):za6 gr gr.G a=((gr.G.toNat^a.toNat%gr.P.toNat:Nat):Int):=by
 have hq:=k.q;obtain⟨n,rfl⟩:=Int.eq_ofNat_of_zero_le ha;obtain⟨q,hQ⟩:=Int.eq_ofNat_of_zero_le (show 0≤gr.Q by omega);unfold za6;have ho:=k.o;rw[hQ]at ho⊢;rw[Int.toNat_natCast]at ho;rw[←Int.natCast_emod,Int.toNat_natCast,Int.toNat_natCast,zkx ho]
theorem zrV(k:OkG gr)(ha:0≤a)(hb:0≤b):zeU gr [za6 gr gr.G a,za6 gr gr.G b]=za6 gr gr.G (a+b):=by
 have hp:=k.p;obtain⟨P,hP⟩:=Int.eq_ofNat_of_zero_le (show 0≤gr.P by omega);have hx:=zga k gr.G a;rw[ztU k (by omega) (zga k gr.G b).1,zmg k ha,zmg k hb,zmg k (by omega),hP];rw[←Int.natCast_mul,←Int.natCast_emod,Int.toNat_natCast,←Nat.mul_mod,←Nat.pow_add,Int.toNat_add ha hb]
def zjC(a b:List Int):List Int:=List.zipWith (fun x y=>x+y) a b
def znJ(p:Plan)(h n:Nat):List Int:=(List.range n).foldl (fun o t=>zjC o (zeD p zli ((t+1:Nat):Int) h)) (List.replicate h 0)
theorem zpT(p:Plan)(h n:Nat):znJ p h (n+1)=zjC (znJ p h n) (zeD p zli ((n+1:Nat):Int) h):=by
 unfold znJ;rw[List.range_succ,List.foldl_append];rfl
theorem zr6:∀{a b:List Int},(∀x∈a,0≤x)→(∀x∈b,0≤x)→∀x∈zjC a b,0≤x
 |[],b,_,_,x,hx=>by simp[zjC]at hx
 |a::l,[],_,_,x,hx=>by simp[zjC]at hx
 |a::l,b::m,ha,hb,x,hx=>by
  rcases List.mem_cons.1 (show x∈(a+b)::zjC l m from hx)with rfl|hx
  ·have:=ha a (by simp);have:=hb b (by simp);omega
  ·exact zr6 (fun y hy=>ha y (List.mem_cons_of_mem _ hy)) (fun y hy=>hb y (List.mem_cons_of_mem _ hy)) x hx
theorem zpe{p:Plan}(k:OkG p.Gr)(h:Nat):∀n,(znJ p h n).length=h∧∀x∈znJ p h n,0≤x
 |0=>⟨by simp[znJ],fun x hx=>by have:=List.eq_of_mem_replicate hx;omega⟩
 |n+1=>by
  obtain⟨h1,h2⟩:=zpe k h n;rw[zpT];refine⟨by simp[zjC,h1,zeD],zr6 h2 fun x hx=>(zry k _ _ _ x hx).1⟩
theorem zrw{gr:Group}(k:OkG gr):∀{a b:List Int},(∀x∈a,0≤x)→(∀x∈b,0≤x)→zeV gr (a.map (za6 gr gr.G)) (b.map (za6 gr gr.G))=(zjC a b).map (za6 gr gr.G)
 |[],b,_,_=>by simp[zeV,zjC]
 |a::l,[],_,_=>by simp[zeV,zjC]
 |a::l,b::m,ha,hb=>by
  show zeU gr [za6 gr gr.G a,za6 gr gr.G b]::zeV gr (l.map (za6 gr gr.G)) (m.map (za6 gr gr.G))=za6 gr gr.G (a+b)::(zjC l m).map (za6 gr gr.G);rw[zrV k (ha a (by simp)) (hb b (by simp)),zrw k (fun y hy=>ha y (List.mem_cons_of_mem _ hy)) (fun y hy=>hb y (List.mem_cons_of_mem _ hy))]
theorem zpJ(k:OkG gr):za6 gr gr.G 0=1:=by
 have hp:=k.p;rw[zmg k (Int.le_refl 0)];show((1%gr.P.toNat:Nat):Int)=1;rw[Nat.mod_eq_of_lt (by omega)];rfl
theorem zoH{p:Plan}(k:OkG p.Gr)(h:Nat):∀n,zb5 p h n=(znJ p h n).map (za6 p.Gr p.Gr.G)
 |0=>by
  show List.replicate h 1=(List.replicate h 0).map _;rw[List.map_replicate,zpJ k]
 |n+1=>by
  have hst:zb5 p h (n+1)=zeV p.Gr (zb5 p h n) (zhk p h n):=by
   unfold zb5;rw[List.range_succ,List.foldl_append];rfl
  rw[hst,zoH k h n,zpT];exact zrw k (zpe k h n).2 fun x hx=>(zry k _ _ _ x hx).1
theorem zy6(k:OkG gr)(hc:0≤c):zar gr (za6 gr gr.G c)=true:=by
 have hb:=zga k gr.G c;have hp:=k.p;have hq:=k.q
 have h3:(za6 gr gr.G c).toNat^gr.Q.toNat%gr.P.toNat=1:=by
  rw[zmg k hc,Int.toNat_natCast,←Nat.pow_mod,←Nat.pow_mul,Nat.mul_comm,Nat.pow_mul,Nat.pow_mod,k.o,Nat.one_pow,Nat.mod_eq_of_lt (by omega)]
 have h1:1≤za6 gr gr.G c:=by
  by_cases h0:za6 gr gr.G c=0
  ·rw[h0,show(0:Int).toNat=0 from rfl,Nat.zero_pow (by omega),Nat.zero_mod]at h3;omega
  ·omega
 simp only[zar,Bool.and_eq_true,decide_eq_true_eq];exact⟨⟨h1,hb.2⟩,h3⟩
theorem zvX(k:OkG p.Gr)(h n:Nat):(zb5 p h n).all (zar p.Gr)=true:=by
 rw[zoH k,List.all_eq_true];intro y hy;obtain⟨c,hc,rfl⟩:=List.mem_map.1 hy;exact zy6 k ((zpe k h n).2 c hc)
def zg1(ct:Contest):Int:=if ct.Kind=1 then 1 else ct.Points
def zei(ct:Contest):Bool:=ct.Kind==1||ct.Kind==2
theorem zBT(ct:Contest):zdm ct=some (zg1 ct):=by
 unfold zdm zg1;by_cases h:ct.Kind=1
 ·rw[if_pos h,h];rfl
 rw[if_neg h,if_neg (by simpa using h)]
theorem zoW(k:OkC ct)(h:zei ct=true):(1≤ct.Options∧ct.Options≤8)∧(1≤zg1 ct∧zg1 ct≤5)∧ct.Most≤ct.Options*zg1 ct∧(0≤ct.Least∧ct.Least≤ct.Most):=by
 have lo:=k.lo;unfold zei at h;unfold zg1;rcases k.k with⟨k1|k3,ho,hm,hp⟩|⟨k2,ho,hp,hm⟩|⟨k4,ho,hm,hp⟩
 ·rw[if_pos k1];omega
 ·rw[k3]at h;cases h
 ·rw[if_neg (by omega)];omega
 rw[k4]at h;cases h
theorem zrX:∀(n:Nat) (a:Int) (b:ByteArray),zbp n a=some b→zbp (n+1) a=some b
 |0,_,_,h=>by cases h
 |n+1,a,b,h=>by
  rw[zbp]at h⊢;by_cases c:decide (a<10)=true
  ·rw[if_pos c]at h⊢;exact h
  ·rw[if_neg c]at h⊢;cases e:zbp n (i64.wrap (a.tdiv 10))with
   |none=>rw[e]at h;cases h
   |some z=>
    rw[e]at h;rw[zrX n _ _ e];exact h
theorem zBr(h:zei ct=true∨ct.Kind≠2):zbU ct=some (if zei ct=true then zg1 ct else 1):=by
 unfold zbU zei zg1;by_cases h2:ct.Kind=2
 ·rw[h2];rfl
 rw[if_neg (by simpa using h2)];by_cases h1:ct.Kind=1
 ·rw[h1];rfl
 have e1:(ct.Kind==1)=false:=beq_false_of_ne h1;have e2:(ct.Kind==2)=false:=beq_false_of_ne h2;rw[e1,e2];rfl
theorem zpw :zgf gr x=true↔0≤x∧x<gr.Q:=by
 unfold zgf;simp only[Bool.and_eq_true,decide_eq_true_eq];omega
theorem zmR{α:Type}{l:List α}{d:α}{i:Nat}(h:i<l.length):l.getD i d=l[i]:=by
 rw[List.getD_eq_getElem?_getD,List.getElem?_eq_getElem h];rfl
def R9(x:Int):Prop:=0≤x∧x≤2000000000
theorem zeY(k:OkG gr)(h:zar gr x=true):R9 x:=by
 have:=zmn h;have:=k.p;exact⟨by omega,by omega⟩
theorem zgM(k:OkG gr)(x e:Int):R9 (za6 gr x e):=by
 have:=zga k x e;have:=k.p;exact⟨by omega,by omega⟩
theorem zyK(hx:R9 x)(hy:R9 y):∀z∈[x,y],0≤z∧z≤2000000000:=by
 intro z hz;simp only[List.mem_cons,List.not_mem_nil,or_false]at hz;rcases hz with rfl|rfl
 ·exact hx
 exact hy
theorem zyi(h:∀x∈l,R9 x):l.all zaO=true:=List.all_eq_true.2 fun x hx=>zbn.2 ⟨(h x hx).1,by have:=(h x hx).2;omega⟩
theorem m2I(k:OkG gr)(hx:R9 x)(hy:R9 y):zaU gr [x,y]=some (zeU gr [x,y]):=zmJ k (zyK hx hy)
theorem m2S(k:OkG gr)(hx:R9 x)(hy:R9 y):zci gr [x,y]=some (zeU gr [x,y]):=zvm k (zyK hx hy)
theorem pwI(k:OkG gr)(hx:R9 x)(e:Int):za4 gr x e=some (za6 gr x e):=(zn0 k hx.1 hx.2 e).1
theorem pwS(k:OkG gr)(hx:R9 x)(e:Int):zbL gr x e=some (za6 gr x e):=(zn0 k hx.1 hx.2 e).2
theorem r_G(k:OkG gr):R9 gr.G:=zeY k (zgH k)
theorem zBv(k:OkG gr)(h0:n<gr.P.toNat)(h:n^gr.Q.toNat%gr.P.toNat=1):zar gr (n:Int)=true:=by
 have hp:=k.p;have hq:=k.q
 have h1:1≤n:=by
  rcases Nat.eq_zero_or_pos n with h2|h2
  ·rw[h2,Nat.zero_pow (by omega),Nat.zero_mod]at h;omega
  ·exact h2
 simp only[zar,Bool.and_eq_true,decide_eq_true_eq];exact⟨⟨by omega,by omega⟩,by rw[Int.toNat_natCast];exact h⟩
theorem zAM(k:OkG gr)(hx:zar gr x=true)(e:Int):zar gr (za6 gr x e)=true:=by
 have hp:=k.p;refine zBv k (Nat.mod_lt _ (by omega)) ?_;rw[←Nat.pow_mod,←Nat.pow_mul,Nat.mul_comm,Nat.pow_mul,Nat.pow_mod,(zmA hx).2.2,Nat.one_pow,Nat.mod_eq_of_lt (by omega)]
def E9(q x:Int):Prop:=0≤x∧x<q
theorem zD8(hq:0<q)(x:Int):E9 q (x%q):=⟨Int.emod_nonneg _ (by omega),Int.emod_lt_of_pos _ hq⟩
theorem zwA{α:Type}{l:List α}{P:α→Prop}(h:∀x∈l,P x){i:Nat}(hi:i<l.length):P l[i]:=h _ (List.getElem_mem hi)
def smN(q:Int)(l:List Int):Nat→Int
 |0=>0
 |i+1=>(smN q l i+l.getD i 0)%q
theorem zyj(hq:0<q)(l:List Int):∀i,E9 q (smN q l i)
 |0=>⟨by show(0:Int)≤0;omega,hq⟩
 |i+1=>zD8 hq _
theorem zwS(hq:0<q∧q≤2000000000)(hl:∀x∈l,E9 q x):zhV l q=some (smN q l l.length)∧zhb l q=some (smN q l l.length):=by
 refine⟨?_,?_⟩
 ·unfold zhV;refine zaj (zag (ψ:=(· =smN q l l.length)) (zaP (fun i s=>s=smN q l i) rfl ?_ fun s h=>h) fun x hx=>zab hx);rintro i s hi rfl;have ha:=zyj hq.1 l i;have h1:=zwA hl hi;refine zbm hi (zaq (by omega) (zab ?_));show _=(smN q l i+l.getD i 0)%q;rw[zmR hi,zak (by have:=ha.1;have:=h1.1;omega) (by have:=ha.2;have:=h1.2;omega),Int.tmod_eq_emod_of_nonneg (by have:=ha.1;have:=h1.1;omega)]
 unfold zhb;refine zaj (zag (ψ:=(· =smN q l l.length)) (zaP (fun i s=>s=smN q l i) rfl ?_ fun s h=>h) fun x hx=>zab hx);rintro i s hi rfl;have ha:=zyj hq.1 l i;have h1:=zwA hl hi;refine zbm hi (zaq (by omega) (zab ?_));show _=(smN q l i+l.getD i 0)%q;rw[zmR hi,zak (by have:=ha.1;have:=h1.1;omega) (by have:=ha.2;have:=h1.2;omega),Int.tmod_eq_emod_of_nonneg (by have:=ha.1;have:=h1.1;omega)]
def smL(f:Nat→Int):Nat→Int
 |0=>0
 |n+1=>smL f n+f n
theorem zwb{P:Int→Prop}(h:∀x∈l,P x){i:Nat}(hi:i<l.length):P (l.getD i 0):=by
 rw[zmR hi];exact h _ (List.getElem_mem hi)
theorem zjK{i:Nat}(hi:i<l.length):ix l (i:Int)=some (l.getD i 0):=by rw[za3 hi,zmR hi]
theorem zyL{σ γ:Type}{body:Int→σ→Option (Stp σ γ)}{stop:σ→γ}{s0:σ}(S:Nat→σ)(h0:s0=S 0)(hs:∀i,i<n→Rn (body (i:Int) (S i)) (· =.go (S (i+1)))):zat body stop n 0 s0=some (stop (S n)):=by
 refine zaj (zaP (fun i y=>y=S i) h0 ?_ ?_)
 ·rintro i y hi rfl;obtain⟨v,h1,rfl⟩:=hs i hi;exact⟨_,h1,rfl⟩
 rintro y rfl;rfl
def pg(gr:Group)(a:Int):Int:=za6 gr gr.G a
section
variable {gr:Group}
theorem zxP{a b:Int}(h:a%gr.Q=b%gr.Q):pg gr a=pg gr b:=by unfold pg za6;rw[h]
theorem zIF{x a b:Int}(h:a%gr.Q=b%gr.Q):za6 gr x a=za6 gr x b:=by unfold za6;rw[h]
theorem zuy(a:Int):pg gr (a%gr.Q)=pg gr a:=zxP (Int.emod_emod _ _)
theorem mw(a q:Int):∃m,a%q=a-q*m:=⟨a/q,Int.emod_def a q⟩
theorem zgu(k:OkG gr)(a b:Int):zeU gr [pg gr a,pg gr b]=pg gr (a+b):=by
 have hq:=k.q;rw[←zuy a,←zuy b];unfold pg;rw[zrV k (Int.emod_nonneg _ (by omega)) (Int.emod_nonneg _ (by omega))];exact zxP (Int.add_emod a b gr.Q).symm
theorem zse(k:OkG gr)(a e:Int):za6 gr (pg gr a) e=pg gr (a*e):=by
 have hq:=k.q;rw[←zuy a,zIF (b:=e%gr.Q) (Int.emod_emod _ _).symm];unfold pg;rw[zxg k (zgH k) (Int.emod_nonneg _ (by omega)) (Int.emod_nonneg _ (by omega))];exact zxP (Int.mul_emod a e gr.Q).symm
theorem zA2(k:OkG gr):pg gr 0=1:=zpJ k
theorem zsd(k:OkG gr)(a:Int):zar gr (pg gr a)=true:=zAM k (zgH k) a
open Classical in
noncomputable def dl(gr:Group)(x:Int):Int:=if h:∃a,x=pg gr a then Classical.choose h else 0
theorem zlH(k:OkG gr){x:Int}(h:zar gr x=true):x=pg gr (dl gr x):=by
 have hg:=k.g;have hq:=k.q
 have he:∃a,x=pg gr a:=by
  obtain⟨s,hs⟩:=zAY k (zgH k) (show gr.G≠1 by omega) h;have hx:=(zmA h).1;refine⟨s,?_⟩;unfold pg za6;obtain⟨n,hn⟩:=Int.eq_ofNat_of_zero_le (show 0≤gr.Q by omega);have h3:=(zmA (zgH k)).2.2;rw[hn]at h3⊢;rw[Int.toNat_natCast]at h3;rw[←Int.natCast_emod,Int.toNat_natCast,zkx h3,hs];omega
 unfold dl;rw[dif_pos he];exact Classical.choose_spec he
end
section
variable {gr:Group}
theorem ek{a b q:Int}(h:a%q=b%q):∃m,a=b+q*m:=by
 obtain⟨m,hm⟩:=mw a q;obtain⟨n,hn⟩:=mw b q;rw[hm,hn]at h;exact⟨m-n,by rw[Int.mul_sub];omega⟩
end
variable{a:Int}
theorem wrL{gr:Group}(k:OkG gr){z:Int}(hz:E9 gr.Q z):i64.wrap (0-z)=0-z:=by
 have h1:=hz.1;have h2:=hz.2;have hq:=k.q;have hp:=k.p;exact zak (by omega) (by omega)
theorem chL{gr:Group}(k:OkG gr){s:ByteArray}{L:List Int}(hs:s.size≤40)(hl:L.length≤300)(hd:L.all zaO=true):zbK gr s L=some (chG gr s L,true)∧zcK gr s L=some (chG gr s L):=by
 refine⟨?_,zlN k (by omega) (by omega) hd⟩;rw[zvS k _ (by omega),if_pos (zyF k hs (by omega) hd)]
theorem wNL{m:Nat}(h:m≤1000000){z:Int}(e:z=(m:Int)):i64.wrap z=(m:Int):=by rw[e];exact zak (by omega) (by omega)
def zoY(a:Int):ByteArray:=⟨(Lib.itoa a).toArray⟩
theorem zzB(u:Nat):Lib.itoa (u:Int)=Lib.decDigits u:=by unfold Lib.itoa;rw[if_neg (by omega)];simp
theorem zsl{d:Nat}(h:d<10):zcT [u8.wrap (i64.wrap (48+(d:Int)))]=⟨#[UInt8.ofNat (48+d)]⟩:=by
 rw[zak (n:=48+(d:Int)) (by omega) (by omega)]
 have e:u8.wrap (48+(d:Int))=((48+d:Nat):Int):=by
  unfold IntKind.wrap;simp[IntKind.bits,IntKind.signed];omega
 rw[e];unfold zcT;simp only[List.map_cons,List.map_nil,Int.toNat_natCast]
theorem zyC:∀(n:Nat) {u:Nat},n≤17→u<10^(n+1)→zbp (n+1) (u:Int)=some ⟨(Lib.decDigits u).toArray⟩∧(Lib.decDigits u).length≤n+1
 |0,u,_,h=>by
  have h:u<10:=by simpa using h
  rw[zbp,if_pos (by simp;omega),Lib.decDigits,dif_pos h,zsl h];exact⟨rfl,by simp⟩
 |n+1,u,hn,h=>by
  by_cases h10:u<10
  ·rw[zbp,if_pos (by simp;omega),Lib.decDigits,dif_pos h10,zsl h10];exact⟨rfl,by simp⟩
  ·have hp:10^(n+1+1)=10^(n+1)*10:=Nat.pow_succ ..
   have hp2:(10:Nat)^(n+1+1)≤10^18*10:=by
    have:(10:Nat)^(n+1)≤10^18:=Nat.pow_le_pow_right (by omega) (by omega);omega
   obtain⟨i1,i2⟩:=zyC n (u:=u/10) (by omega) (by omega)
   have e1:i64.wrap ((u:Int).tdiv 10)=((u/10:Nat):Int):=by
    rw[Int.tdiv_eq_ediv_of_nonneg (by omega)];by_cases hb:u<9223372036854775807
    ·rw[zak (by omega) (by omega)];rfl
    ·rw[zak (n:=(u:Int)/10) (by omega) (by omega)];rfl
   have e2:(u:Int).tmod 10=((u%10:Nat):Int):=by rw[Int.tmod_eq_emod_of_nonneg (by omega)];rfl
   have e3:Lib.decDigits u=Lib.decDigits (u/10)++[UInt8.ofNat (48+u%10)]:=by rw[Lib.decDigits,dif_neg h10]
   rw[zbp,if_neg (by simp;omega),e1,i1,e2,zsl (Nat.mod_lt _ (by omega)),e3];have hs:(⟨(Lib.decDigits (u/10)).toArray⟩:ByteArray).size=(Lib.decDigits (u/10)).length:=by simp[ByteArray.size]
   have hs1:(⟨#[UInt8.ofNat (48+u%10)]⟩:ByteArray).size=1:=rfl;refine⟨?_,by simp;omega⟩;rw[Option.bind_some,zb9 (by rw[hs,hs1];omega)];congr 1
def labP:ByteArray:=⟨#[98,97,108,108,111,116,32]⟩
def zgZ(a:Int):ByteArray:=labP++zoY a
theorem zt2(h0:0≤a)(h1:a≤999999):zjA a=some (zoY a)∧(zoY a).size≤6:=by
 obtain⟨u,rfl⟩:=Int.eq_ofNat_of_zero_le h0;obtain⟨e,hs⟩:=zyC 5 (u:=u) (by omega) (by omega);have hd:zoY (u:Int)=⟨(Lib.decDigits u).toArray⟩:=by unfold zoY;rw[zzB]
 rw[hd];exact⟨zzL (f:=fun n_=>zbp n_ (u:Int)) e fun n b=>zrX n _ b,by simp[ByteArray.size];omega⟩
theorem zvs(h0:0≤a)(h1:a≤999999):(zgZ a).size≤13:=by
 have:=(zt2 h0 h1).2;have h7:labP.size=7:=rfl;unfold zgZ;rw[ByteArray.size_append,h7];omega
theorem zAa(h0:0≤a)(h1:a≤999999):zef a=some (zgZ a):=by
 have hs:=(zt2 h0 h1).2;have e:zfz a=some (zoY a):=by unfold zfz;rw[zb9 (by omega)];rfl
 have h7:(⟨#[98,97,108,108,111,116,32]⟩:ByteArray).size=7:=rfl;unfold zef;rw[e,Option.bind_some,zb9 (by rw[h7];omega)];rfl
theorem zBV(h0:0≤a)(h1:a≤999999):zf7 a=some (zgZ a):=by
 obtain⟨e,hs⟩:=zt2 h0 h1;have h7:(⟨#[98,97,108,108,111,116,32]⟩:ByteArray).size=7:=rfl;unfold zf7;rw[e,Option.bind_some,zb9 (by rw[h7];omega)];rfl
section
variable {gr:Group}
def stV(gr:Group)(key:Int)(c:Cipher)(lo:Int)(n:Nat):List EqualLog:=(List.range n).map fun(i:Nat)=>⟨gr.G,c.A,key,zeU gr [c.B,za6 gr gr.G (0-(lo+(i:Int)))]⟩
variable{c:Cipher}{key lo:Int}{n:Nat}
theorem zwj(gr:Group)(key:Int)(c:Cipher)(lo:Int)(n:Nat):(stV gr key c lo n).length=n:=by simp[stV]
theorem ztq(k:OkG gr)(hc:zcC gr c=true)(h0:0≤lo∧lo≤1000)(hn:n≤1000){PW:Int→Option Int}{ML:List Int→Option Int}(hP:∀e,PW e=some (za6 gr gr.G e))(hM:∀x y,R9 x→R9 y→ML [x,y]=some (zeU gr [x,y])):zau (σ:=(List EqualLog)×Int) (fun s4=>
 if decide (s4.2≤lo+(n:Int)-1)=true then(
 (PW (i64.wrap (0-s4.2))).bind fun z10=>
 (ML [c.B,z10]).bind fun z11=>
 gd ((s4.1.length+1)*32≤140737488355328∧s4.1.length+1≤4611686018427387904)<|
 some (.go (s4.1++[(EqualLog.mk gr.G c.A key z11)],i64.wrap (s4.2+1))))else(
 some (.out s4.1))) ([],lo)=some (stV gr key c lo n):=by
 have hb:R9 c.B:=by
  simp only[zcC,Bool.and_eq_true]at hc;exact zeY k hc.2
 refine zaj (zbe n (fun i s=>s=(stV gr key c lo i,lo+(i:Int))∧i≤n) ⟨by simp[stV],by omega⟩ ?_ ?_)
 ·rintro i s hi ⟨rfl,_⟩;refine zgt (by simp;omega) ?_;dsimp only;rw[zak (n:=0-(lo+(i:Int))) (by omega) (by omega),hP,Option.bind_some,hM _ _ hb (zgM k _ _),Option.bind_some];refine zaq (by rw[zwj];omega) (zab ⟨?_,by omega⟩);rw[zak (n:=lo+(i:Int)+1) (by omega) (by omega)];refine Prod.ext ?_ (by show lo+(i:Int)+1=lo+((i+1:Nat):Int);omega);show stV gr key c lo i++_=stV gr key c lo (i+1);simp[stV,List.range_succ]
 rintro s ⟨rfl,_⟩;exact zbf (by simp;omega) (zab rfl)
theorem zyy(k:OkG gr)(hc:zcC gr c=true){hi:Int}(h0:0≤lo∧lo≤1000)(hn:n≤1000)(hh:hi=lo+(n:Int)-1):zbC gr key c lo hi=some (stV gr key c lo n):=by
 subst hh;unfold zbC;rw[ztq k hc h0 hn (fun e=>pwI k (r_G k) e) (fun x y hx hy=>m2I k hx hy)];rfl
theorem zyD(k:OkG gr)(hc:zcC gr c=true){hi:Int}(h0:0≤lo∧lo≤1000)(hn:n≤1000)(hh:hi=lo+(n:Int)-1):zcw gr key c lo hi=some (stV gr key c lo n):=by
 subst hh;unfold zcw;rw[ztq k hc h0 hn (fun e=>pwS k (r_G k) e) (fun x y hx hy=>m2S k hx hy)];rfl
end
def q0:EqualLog:=⟨0,0,0,0⟩
def siV(gr:Group)(g y c z:Int):Int:=zeU gr [za6 gr g z,za6 gr y (0-c)]
def flE(l:List EqualLog):List Int:=l.flatMap fun e=>[e.G1,e.Y1,e.G2,e.Y2]
section
variable {gr:Group}{s:ByteArray}{l:List EqualLog}{m:Nat}{x w:Int}{coins:List Int}
theorem zyk{i:Nat}(hi:i<l.length):l.getD i q0=l[i]:=by simp[List.getD,hi]
theorem zrE(l:List EqualLog):(flE l).length=4*l.length:=by
 induction l with
 |nil=>rfl
 |cons e l ih=>show([e.G1,e.Y1,e.G2,e.Y2]++flE l).length=_;simp[ih];omega
theorem ztC{l:List EqualLog}(hl:l.length≤1000):zat (σ:=(List Int)) (fun i5 s4=>
 (ix l i5).bind fun x11=>
 gd ((s4.length+4)*8≤140737488355328∧s4.length+4≤4611686018427387904)<|
 some (.go (s4++[x11.G1,x11.Y1,x11.G2,x11.Y2]))) (fun s4=>s4) (l.length) 0 []=some (flE l):=by
 refine zaj (zaP (fun i s=>s=flE (l.take i)∧i≤l.length) ⟨rfl,by omega⟩ ?_ fun s h=>by rw[h.1,List.take_length]);rintro i s hi ⟨rfl,_⟩;have hn:(flE (l.take i)).length=4*i:=by rw[zrE,List.length_take];omega
 refine zbm hi (zaq (by omega) (zab ⟨?_,by omega⟩));rw[List.take_succ_eq_append_getElem hi];show flE (l.take i)++_=flE (l.take i++[l[i]]);unfold flE;rw[List.flatMap_append];rfl
theorem zBl(k:OkG gr){e:EqualLog}{c z:Int}(he:zar gr e.G1=true∧zar gr e.Y1=true∧zar gr e.G2=true∧zar gr e.Y2=true)(hc:E9 gr.Q c):zc0 gr e c z=some (siV gr e.G1 e.Y1 c z,siV gr e.G2 e.Y2 c z):=by
 unfold zc0;rw[wrL k hc];exact zaj (zae (pwI k (zeY k he.1) _) (zae (pwI k (zeY k he.2.1) _) (zae (m2I k (zgM k _ _) (zgM k _ _)) (zae (pwI k (zeY k he.2.2.1) _) (zae (pwI k (zeY k he.2.2.2) _) (zae (m2I k (zgM k _ _) (zgM k _ _)) (zab rfl)))))))
end
section
variable {gr:Group}{key:Int}{lab:ByteArray}{d coins:List Int}{q:Nat}
theorem zE0(k:OkG gr)(a b c d:Int):zdQ gr ⟨pg gr a,pg gr b⟩ ⟨pg gr c,pg gr d⟩=some ⟨pg gr (a+c),pg gr (b+d)⟩:=by
 unfold zdQ;dsimp only;rw[m2I k (x:=pg gr a) (y:=pg gr c) (zgM k _ _) (zgM k _ _),Option.bind_some,m2I k (x:=pg gr b) (y:=pg gr d) (zgM k _ _) (zgM k _ _),Option.bind_some,zgu k,zgu k]
end
theorem zDw{gr:Group}{ct:Contest}(h:zea gr ct=some true)(kg:OkG gr)(kc:OkC ct)(hf:zei ct=true):ct.Most-ct.Least<8:=by
 have lo:=kc.lo;have b:=zoW kc hf;have hm:ct.Options*zg1 ct≤8*5:=Int.mul_le_mul b.1.2 b.2.1.2 (by omega) (by omega);obtain⟨n,h1,_⟩:=zor kc;unfold zea at h;rw[zjt,zob,zqK.2 kg,zqx.2 kc]at h;simp only[h1,zkE,Bool.not_true,Bool.false_eq_true,if_false,Option.bind_some,zeT]at h;rw[show(ct.Kind==1||ct.Kind==2)=zei ct from rfl,hf,zak (n:=ct.Most-ct.Least) (by omega) (by omega)]at h;by_cases hh:ct.Most-ct.Least<8
 ·exact hh
 have e:decide (ct.Most-ct.Least<8)=false:=decide_eq_false hh;rw[e]at h;cases hc:(decide (100000<n)||decide (gr.Q≤n))<;>rw[hc]at h<;>cases h
theorem zof(a:Int):zeK a=some (inB 0 999999 a):=by
 unfold zeK;rw[zlZ];rfl
def zcW(l:List Cipher):List Int:=(l.length:Int)::l.flatMap fun c=>[c.A,c.B]
def zbS(L:List (List Int)):List Int:=(L.length:Int)::L.flatMap zaE
theorem zyn(l:List Cipher):(l.flatMap fun c=>[c.A,c.B]).length=2*l.length:=by
 induction l with
 |nil=>rfl
 |cons e l ih=>show([e.A,e.B]++l.flatMap fun c=>[c.A,c.B]).length=_;rw[List.length_append,ih];simp;omega
theorem zpy(l:List Cipher):(zcW l).length=2*l.length+1:=by unfold zcW;rw[List.length_cons,zyn]
theorem zo5(L:List (List Int))(i:Nat):((L.take i).flatMap zaE).length≤(L.flatMap zaE).length:=by
 have h:(L.take i).flatMap zaE++(L.drop i).flatMap zaE=L.flatMap zaE:=by rw[←List.flatMap_append,List.take_append_drop]
 rw[←h,List.length_append];omega
theorem zqU{L:List (List Int)}{i:Nat}(hi:i<L.length):L[i].length+1≤(L.flatMap zaE).length:=by
 have h:=zo5 L (i+1);rw[List.take_succ_eq_append_getElem hi,List.flatMap_append,List.length_append]at h;have e:([L[i]].flatMap zaE).length=L[i].length+1:=by simp[zaE]
 omega
theorem zyM{L:List (List Int)}(h:(zbS L).length≤400)(hd:(zbS L).all zaO=true):zb2 L=some (zbS L,true):=by
 have hn:(L.flatMap zaE).length+1≤400:=by simpa[zbS]using h
 unfold zb2
 have e:zat (σ:=(List Int)) (β:=(List Int) ⊕ (List Int×Bool)) (fun i5 s4=>(ix L i5).bind fun x11=>(zcD x11).bind fun z12=>
  gd ((s4.length+z12.length)*8≤140737488355328∧s4.length+z12.length≤4611686018427387904)<|
  if decide (400<((s4++z12).length:Int))=true then(some (.out (.inr ([],false))))else(some (.go (s4++z12)))) (fun s4=>.inl s4) (L.length) 0 [(L.length:Int)]=some (.inl (zbS L)):=by
  refine zaj (zaP (fun i s=>s=(L.length:Int)::(L.take i).flatMap zaE∧i≤L.length) ⟨rfl,by omega⟩ ?_ fun s h=>by rw[h.1,List.take_length];rfl);rintro i s hi ⟨rfl,_⟩;have h1:=zo5 L (i+1);have h2:=zqU hi
  have e1:(L.length:Int)::(L.take i).flatMap zaE++zaE L[i]=(L.length:Int)::(L.take (i+1)).flatMap zaE:=by
   rw[List.take_succ_eq_append_getElem hi,List.flatMap_append];simp
  have e2:=congrArg List.length e1;rw[List.length_append,List.length_cons,List.length_cons]at e2;refine zbm hi (zae (zlS (by omega)) (zaq (by rw[List.length_cons];omega) (zbf ?_ (zab ⟨e1,by omega⟩))));rw[List.length_append,List.length_cons];exact decide_eq_false (by omega)
 have hr:za5 (zbS L)=true:=by unfold za5;rw[hd,decide_eq_true (by omega)];rfl
 have hrec:zdD (zbS L)=some (zbS L,true):=by rw[zkZ,if_pos hr]
 rw[e,Option.bind_some,Sum.elim_inl,hrec,Option.bind_some]
def zez(x:Sealed):List (List Int):=[[x.Voter],zcW x.Ciphers]++(x.Proofs++[x.Sum]).map zda
def zgs(x:Sealed):List Int:=zbS (zez x)
theorem zmV(p:Proof):(zda p).length=p.Commits.length+p.Challenges.length+p.Responses.length+3:=by simp[zda,zaE];omega
structure StOk (gr:Group) (l:List EqualLog):Prop where
 n:1≤l.length∧l.length≤8
 h:∀e∈l,zar gr e.G1=true∧zar gr e.Y1=true∧zar gr e.G2=true∧zar gr e.Y2=true
def zkJ(gr:Group)(l:List EqualLog)(p:Proof)(i:Nat):Bool:=
 !((siV gr (l.getD i q0).G1 (l.getD i q0).Y1 (p.Challenges.getD i 0) (p.Responses.getD i 0) !=p.Commits.getD (2*i) 0)||(siV gr (l.getD i q0).G2 (l.getD i q0).Y2 (p.Challenges.getD i 0) (p.Responses.getD i 0) !=p.Commits.getD (2*i+1) 0))
def zlh(gr:Group)(l:List EqualLog)(p:Proof):Bool:=((p.Commits.length:Int) !=2*(l.length:Int))||(((p.Challenges.length:Int) !=(l.length:Int))||(((p.Responses.length:Int) !=(l.length:Int))||(!p.Commits.all (zar gr)||(!p.Challenges.all (zgf gr)|| !p.Responses.all (zgf gr)))))
def zj6(gr:Group)(s:ByteArray)(l:List EqualLog)(p:Proof):Bool:= !zlh gr l p&&(((List.range l.length).all (zkJ gr l p))&&(smN gr.Q p.Challenges p.Challenges.length==chG gr s (flE l++p.Commits)))
section
variable {gr:Group}
theorem zBq(k:OkG gr){g y c:Int}(hg:zar gr g=true)(hy:zar gr y=true)(hc:zar gr c=true)(e z:Int):za6 gr g z=zeU gr [c,za6 gr y e]↔siV gr g y e z=c:=by
 have h1:=zlH k hg;have h2:=zlH k hy;have h3:=zlH k hc;generalize dl gr g=a at h1;generalize dl gr y=b at h2;generalize dl gr c=d at h3;subst h1 h2 h3;unfold siV;rw[zse k,zse k,zse k,zgu k,zgu k];have e1:d+b*e+b*(0-e)=d:=by rw[Int.mul_sub];omega
 have e2:a*z+b*(0-e)+b*e=a*z:=by rw[Int.mul_sub];omega
 constructor
 ·intro h;rw[←zgu k,h,zgu k,e1]
 intro h;rw[←zgu k,←h,zgu k,e2]
theorem zAF(k:OkG gr){g y c:Int}(hg:zar gr g=true)(hy:zar gr y=true)(hc:zar gr c=true)(e z:Int):(za6 gr g z !=zeU gr [c,za6 gr y e])=(siV gr g y e z !=c):=by
 have h:=zBq k hg hy hc e z;rw[Bool.eq_iff_iff,bne_iff_ne,bne_iff_ne];exact⟨fun a b=>a (h.2 b),fun a b=>a (h.1 b)⟩
theorem zuB{l:List EqualLog}{p:Proof}(h:zlh gr l p=false):(p.Commits.length=2*l.length∧p.Challenges.length=l.length∧p.Responses.length=l.length)∧p.Commits.all (zar gr)=true∧p.Challenges.all (zgf gr)=true∧p.Responses.all (zgf gr)=true:=by
 unfold zlh at h;simp only[Bool.or_eq_false_iff,bne_eq_false_iff_eq,Bool.not_eq_false']at h;exact⟨⟨by omega,by omega,by omega⟩,h.2.2.2⟩
theorem ztu(k:OkG gr){l:List EqualLog}(h:∀e∈l,zar gr e.G1=true∧zar gr e.Y1=true∧zar gr e.G2=true∧zar gr e.Y2=true){S:List Int}(hS:∀z∈S,R9 z):(flE l++S).all zaO=true:=by
 rw[List.all_append,zyi hS,Bool.and_true];refine zyi fun z hz=>?_
 obtain⟨e,he,hz⟩:=List.mem_flatMap.1 hz;obtain⟨h1,h2,h3,h4⟩:=h e he;simp only[List.mem_cons,List.not_mem_nil,or_false]at hz;rcases hz with rfl|rfl|rfl|rfl
 ·exact zeY k h1
 ·exact zeY k h2
 ·exact zeY k h3
 exact zeY k h4
theorem zA1(k:OkG gr){l:List EqualLog}(S:StOk gr l)(p:Proof):zdo gr l p=some (!zlh gr l p&&(List.range l.length).all (zkJ gr l p)):=by
 have hp:=k.p;have hq:=k.q;have hn:=S.n;unfold zdo;rw[zak (n:=2*(l.length:Int)) (by omega) (by omega)];simp only[znR k,zp5 (gr:=gr) (by omega) (by omega),Option.bind_some,zeT];rw[show(((p.Commits.length:Int) !=2*(l.length:Int))||(((p.Challenges.length:Int) !=(l.length:Int))||(((p.Responses.length:Int) !=(l.length:Int))||(!p.Commits.all (zar gr)||(!p.Challenges.all (zgf gr)|| !p.Responses.all (zgf gr))))))=zlh gr l p from rfl];cases hg:zlh gr l p with
 |true=>rfl
 |false=>
  obtain⟨⟨l1,l2,l3⟩,c1,c2,c3⟩:=zuB hg;rw[if_neg (by simp),zjD (zkJ gr l p) false true fun i hi=>?_]
  ·cases (List.range l.length).all (zkJ gr l p)<;>rfl
  ·have he:=S.h _ (List.getElem_mem hi);have hc:E9 gr.Q (p.Challenges.getD i 0):=zpw.1 (zwb (P:=fun z=>zgf gr z=true) (List.all_eq_true.1 c2) (by omega));have w1:i64.wrap (2*(i:Int))=((2*i:Nat):Int):=wNL (by omega) (by omega);have w2:i64.wrap (((2*i:Nat):Int)+1)=((2*i+1:Nat):Int):=wNL (by omega) (by omega);rw[za3 hi,Option.bind_some,zjK (show i<p.Challenges.length by omega),Option.bind_some,zjK (show i<p.Responses.length by omega),Option.bind_some,zBl k he hc,Option.bind_some,w1,w2,zjK (show 2*i<p.Commits.length by omega),Option.bind_some,zjK (show 2*i+1<p.Commits.length by omega),Option.bind_some,zeT,Option.bind_some,zqT];unfold zkJ;rw[zyk hi]
theorem ztR(k:OkG gr){s:ByteArray}(hs:s.size≤40){l:List EqualLog}(S:StOk gr l)(p:Proof):zbq gr s l p=some (zj6 gr s l p):=by
 have hp:=k.p;have hq:=k.q;have hn:=S.n;unfold zbq zj6;rw[zA1 k S,Option.bind_some];cases hg:zlh gr l p with
 |true=>rfl
 |false=>
  cases ha:(List.range l.length).all (zkJ gr l p)with
  |false=>rfl
  |true=>
   obtain⟨⟨l1,l2,l3⟩,c1,c2,c3⟩:=zuB hg;have hfl:=zrE l
   have hch:zb3 gr s l p.Commits=some (chG gr s (flE l++p.Commits),true):=by
    unfold zb3;rw[ztC (by omega)];exact zaj (zae rfl (zaq (by omega) (zae (chL k hs (by rw[List.length_append];omega) (ztu k S.h (zhK k c1))).1 (zab rfl))))
   have hsm:=(zwS (q:=gr.Q) (l:=p.Challenges) (by omega) fun z hz=>zpw.1 (List.all_eq_true.1 c2 z hz)).1;exact zaj (zbf rfl (zae hch (zae (a:=smN gr.Q p.Challenges p.Challenges.length==chG gr s (flE l++p.Commits)) (zaj (zgt rfl (zae hsm (zab rfl)))) (zab rfl))))
theorem ztE(k:OkG gr){s:ByteArray}(hs:s.size≤40){l:List EqualLog}(S:StOk gr l)(p:Proof):zcI gr s l p=some (zj6 gr s l p):=by
 have hp:=k.p;have hq:=k.q;have hn:=S.n;unfold zcI zj6;rw[zak (n:=2*(l.length:Int)) (by omega) (by omega)];simp only[zqN k,zts (gr:=gr) (by omega) (by omega),Option.bind_some,zeT];rw[show(((p.Commits.length:Int) !=2*(l.length:Int))||(((p.Challenges.length:Int) !=(l.length:Int))||(((p.Responses.length:Int) !=(l.length:Int))||(!p.Commits.all (zar gr)||(!p.Challenges.all (zgf gr)|| !p.Responses.all (zgf gr))))))=zlh gr l p from rfl];cases hg:zlh gr l p with
 |true=>rfl
 |false=>
  obtain⟨⟨l1,l2,l3⟩,c1,c2,c3⟩:=zuB hg;have hfl:=zrE l
  have hch:zf6 gr s l p.Commits=some (chG gr s (flE l++p.Commits)):=by
   unfold zf6;rw[ztC (by omega)];exact zaj (zae rfl (zaq (by omega) (zae (chL k hs (by rw[List.length_append];omega) (ztu k S.h (zhK k c1))).2 (zab rfl))))
  have hsm:=(zwS (q:=gr.Q) (l:=p.Challenges) (by omega) fun z hz=>zpw.1 (List.all_eq_true.1 c2 z hz)).2;rw[if_neg (by simp),hsm,Option.bind_some,hch,Option.bind_some];have e:(smN gr.Q p.Challenges p.Challenges.length !=chG gr s (flE l++p.Commits))= !(smN gr.Q p.Challenges p.Challenges.length==chG gr s (flE l++p.Commits)):=rfl;rw[e];cases (smN gr.Q p.Challenges p.Challenges.length==chG gr s (flE l++p.Commits))with
  |false=>rw[if_pos (show(!false)=true from rfl),Bool.and_false,Bool.and_false]
  |true=>
   rw[if_neg (by simp),zjD (zkJ gr l p) false true fun i hi=>?_]
   ·cases (List.range l.length).all (zkJ gr l p)<;>rfl
   ·obtain⟨h1,h2,h3,h4⟩:=S.h _ (List.getElem_mem hi);have hcm:∀j,j<p.Commits.length→zar gr (p.Commits.getD j 0)=true:=fun j hj=>zwb (P:=fun z=>zar gr z=true) (List.all_eq_true.1 c1) hj
    have w1:i64.wrap (2*(i:Int))=((2*i:Nat):Int):=wNL (by omega) (by omega);have w2:i64.wrap (((2*i:Nat):Int)+1)=((2*i+1:Nat):Int):=wNL (by omega) (by omega);have m1:=m2S k (zeY k (hcm (2*i) (by omega))) (zgM k l[i].Y1 (p.Challenges.getD i 0));have m2:=m2S k (zeY k (hcm (2*i+1) (by omega))) (zgM k l[i].Y2 (p.Challenges.getD i 0));rw[za3 hi,Option.bind_some,zjK (show i<p.Challenges.length by omega),Option.bind_some,zjK (show i<p.Responses.length by omega),Option.bind_some,w1,w2,zjK (show 2*i<p.Commits.length by omega),Option.bind_some,pwS k (zeY k h1),Option.bind_some,pwS k (zeY k h2),Option.bind_some,m1,Option.bind_some,zjK (show 2*i+1<p.Commits.length by omega),Option.bind_some,pwS k (zeY k h3),Option.bind_some,pwS k (zeY k h4),Option.bind_some,m2,Option.bind_some,zAF k h1 h2 (hcm _ (by omega)),zAF k h3 h4 (hcm _ (by omega)),zeT,Option.bind_some,zqT];unfold zkJ;rw[zyk hi]
end
noncomputable def zmM(gr:Group)(l:List Cipher):Cipher:=⟨pg gr (smL (fun i=>dl gr (l.getD i ⟨0,0⟩).A) l.length),pg gr (smL (fun i=>dl gr (l.getD i ⟨0,0⟩).B) l.length)⟩
def wdt(ct:Contest):Int:=if zei ct=true then ct.Options else 1
def zpf(p:Proof):Bool:=((p.Commits.length:Int)==0)&&(((p.Challenges.length:Int)==0)&&((p.Responses.length:Int)==0))
def zny(gr:Group)(ct:Contest)(x:Sealed):Bool:= !inB 0 999999 x.Voter||(((x.Ciphers.length:Int) !=wdt ct)||(((x.Proofs.length:Int) !=wdt ct)|| !(decide (x.Ciphers.length≤24)&&x.Ciphers.all (zcC gr))))
noncomputable def seB(gr:Group)(key:Int)(ct:Contest)(x:Sealed):Bool:= !zny gr ct x&&
 if zei ct=true then(List.range x.Ciphers.length).all (fun i=>zj6 gr (zgZ x.Voter) (stV gr key (x.Ciphers.getD i ⟨0,0⟩) 0 ((zg1 ct).toNat+1)) (x.Proofs.getD i ⟨[],[],[]⟩))&&zj6 gr (zgZ x.Voter) (stV gr key (zmM gr x.Ciphers) ct.Least (ct.Most-ct.Least+1).toNat) x.Sum
 else zpf x.Sum&&znp gr (zgZ x.Voter) [[gr.G]] [(x.Ciphers.getD 0 ⟨0,0⟩).A] (x.Proofs.getD 0 ⟨[],[],[]⟩)
def seN(x:Sealed):Prop:=(∀p∈x.Proofs,p.Commits.length≤1048576)∧x.Sum.Commits.length≤1048576∧x.Sum.Challenges.length≤1048576∧x.Sum.Responses.length≤1048576
section
variable {gr:Group}
variable{ct:Contest}
theorem zEs(k:OkG gr){c:Cipher}(h:zcC gr c=true):c=⟨pg gr (dl gr c.A),pg gr (dl gr c.B)⟩:=by
 simp only[zcC,Bool.and_eq_true]at h;obtain⟨a,b⟩:=c;rw[←zlH k h.1,←zlH k h.2]
theorem zgk{α:Type}{l:List α}{d:α}{i:Nat}(hi:i<l.length):l.getD i d=l[i]:=by simp[List.getD,hi]
theorem zIU(k:OkG gr)(a b:Int):zcC gr ⟨pg gr a,pg gr b⟩=true:=by
 show(zar gr (pg gr a)&&zar gr (pg gr b))=true;rw[zsd k,zsd k];rfl
theorem zA6(k:OkG gr){l:List Cipher}(h:l.all (zcC gr)=true):zb6 gr l=some (zmM gr l):=by
 unfold zb6
 refine zaj (zae (zyL (σ:=Int×Int) (γ:=Int×Int) (n:=l.length) (stop:=fun s13=>(s13.1,s13.2)) (s0:=(1,1)) (fun i=>(pg gr (smL (fun i=>dl gr (l.getD i ⟨0,0⟩).A) i),pg gr (smL (fun i=>dl gr (l.getD i ⟨0,0⟩).B) i))) (by
  show _=(pg gr 0,pg gr 0)
  rw[zA2 k]) fun i hi=>?_) (zab rfl))
 have hc:=zEs k (List.all_eq_true.1 h _ (List.getElem_mem hi));refine zbm hi ?_;rw[show smL (fun i=>dl gr (l.getD i ⟨0,0⟩).A) (i+1)=smL (fun i=>dl gr (l.getD i ⟨0,0⟩).A) i+dl gr (l.getD i ⟨0,0⟩).A from rfl,show smL (fun i=>dl gr (l.getD i ⟨0,0⟩).B) (i+1)=smL (fun i=>dl gr (l.getD i ⟨0,0⟩).B) i+dl gr (l.getD i ⟨0,0⟩).B from rfl,zgk hi];generalize l[i]=c at hc⊢
 exact zae (a:=⟨pg gr (smL (fun i=>dl gr (l.getD i ⟨0,0⟩).A) i+dl gr c.A),pg gr (smL (fun i=>dl gr (l.getD i ⟨0,0⟩).B) i+dl gr c.B)⟩) (by
  conv=>lhs;rw[hc]
  exact zE0 k _ _ _ _) (zab rfl)
theorem zAG(k:OkG gr){l:List Cipher}(h:l.all (zcC gr)=true):zgd gr l=some (zmM gr l):=by
 unfold zgd
 refine zaj (zae (zyL (σ:=Int×Int) (γ:=Int×Int) (n:=l.length) (stop:=fun s14=>(s14.1,s14.2)) (s0:=(1,1)) (fun i=>(pg gr (smL (fun i=>dl gr (l.getD i ⟨0,0⟩).A) i),pg gr (smL (fun i=>dl gr (l.getD i ⟨0,0⟩).B) i))) (by
  show _=(pg gr 0,pg gr 0)
  rw[zA2 k]) fun i hi=>?_) (zab rfl))
 have hc:=List.all_eq_true.1 h _ (List.getElem_mem hi);simp only[zcC,Bool.and_eq_true]at hc;refine zbm hi ?_;rw[show smL (fun i=>dl gr (l.getD i ⟨0,0⟩).A) (i+1)=smL (fun i=>dl gr (l.getD i ⟨0,0⟩).A) i+dl gr (l.getD i ⟨0,0⟩).A from rfl,show smL (fun i=>dl gr (l.getD i ⟨0,0⟩).B) (i+1)=smL (fun i=>dl gr (l.getD i ⟨0,0⟩).B) i+dl gr (l.getD i ⟨0,0⟩).B from rfl,zgk hi];refine zae (m2S k (zgM k gr.G _) (zeY k hc.1)) (zae (m2S k (zgM k gr.G _) (zeY k hc.2)) (zab ?_));rw[←zgu k,←zgu k,←zlH k hc.1,←zlH k hc.2]
theorem zmG(k:OkG gr)(l:List Cipher):zcC gr (zmM gr l)=true:=zIU k _ _
theorem zqO(k:OkG gr){key:Int}(hk:zar gr key=true){c:Cipher}(hc:zcC gr c=true){lo:Int}{n:Nat}(hn:1≤n∧n≤8):StOk gr (stV gr key c lo n):=by
 have hl:=zwj gr key c lo n;refine⟨by omega,fun e he=>?_⟩;unfold stV at he;obtain⟨i,_,rfl⟩:=List.mem_map.1 he;have hcc:=hc;simp only[zcC,Bool.and_eq_true]at hcc;refine⟨zgH k,hcc.1,hk,?_⟩;show zar gr (zeU gr [c.B,pg gr _])=true;rw[zlH k hcc.2,zgu k];exact zsd k _
theorem zDB(ct:Contest):zdy ct=some (wdt ct):=by
 unfold zdy wdt;rw[zmU,show(ct.Kind==1||ct.Kind==2)=zei ct from rfl,Option.bind_some];cases zei ct<;>rfl
theorem zAr(ct:Contest):ze5 ct=some (wdt ct):=by
 unfold ze5 wdt;rw[zkE,show(ct.Kind==1||ct.Kind==2)=zei ct from rfl,Option.bind_some];cases zei ct<;>rfl
theorem zC0(p:Proof):zdz p=some (zpf p):=by
 unfold zdz;rw[zil,zil];rfl
theorem zzK{p:Proof}(h1:p.Commits.length≤1048576)(h2:p.Challenges.length≤1048576)(h3:p.Responses.length≤1048576):zgF p=some (zpf p):=by
 unfold zgF zpf;rw[zak (n:=(p.Commits.length:Int)+(p.Challenges.length:Int)) (by omega) (by omega),zak (n:=(p.Commits.length:Int)+(p.Challenges.length:Int)+(p.Responses.length:Int)) (by omega) (by omega)];congr 1;rw[Bool.eq_iff_iff];simp only[Bool.and_eq_true,beq_iff_eq];omega
theorem zwl{x:Sealed}(h:zny gr ct x=false):(0≤x.Voter∧x.Voter≤999999)∧(x.Ciphers.length:Int)=wdt ct∧(x.Proofs.length:Int)=wdt ct∧x.Ciphers.all (zcC gr)=true:=by
 unfold zny at h;simp only[Bool.or_eq_false_iff,bne_eq_false_iff_eq,Bool.not_eq_false',Bool.and_eq_true]at h;exact⟨zfl.1 h.1,h.2.1,h.2.2.1,h.2.2.2.2⟩
theorem zAE(k:OkG gr){key:Int}(hk:zar gr key=true)(kc:OkC ct)(hgd:zei ct=true→ct.Most-ct.Least<8){x:Sealed}(hx:seN x):zde gr key ct x=some (seB gr key ct x):=by
 unfold zde seB;simp only[zDB,zof,zq3 k,Option.bind_some,zeT];rw[show(!inB 0 999999 x.Voter||(((x.Ciphers.length:Int) !=wdt ct)||(((x.Proofs.length:Int) !=wdt ct)|| !(decide (x.Ciphers.length≤24)&&x.Ciphers.all (zcC gr)))))=zny gr ct x from rfl];cases hg:zny gr ct x with
 |true=>rfl
 |false=>
  obtain⟨hv,hn,hm,hc⟩:=zwl hg;have hlb:=zvs hv.1 hv.2;rw[if_neg (by simp),zAa hv.1 hv.2,Option.bind_some,zmU,show(ct.Kind==1||ct.Kind==2)=zei ct from rfl,Option.bind_some];cases hf:zei ct with
  |false=>
   unfold wdt at hn hm;rw[hf]at hn hm;have hn:(x.Ciphers.length:Int)=1:=hn;have hm:(x.Proofs.length:Int)=1:=hm;have hc0:=List.all_eq_true.1 hc _ (List.getElem_mem (show 0<x.Ciphers.length by omega));have hca:=hc0;simp only[zcC,Bool.and_eq_true]at hca;have e1:ix x.Ciphers 0=some (x.Ciphers.getD 0 ⟨0,0⟩):=by rw[show(0:Int)=((0:Nat):Int)from rfl,za3 (show 0<x.Ciphers.length by omega),zgk (show 0<x.Ciphers.length by omega)]
   have e2:ix x.Proofs 0=some (x.Proofs.getD 0 ⟨[],[],[]⟩):=by rw[show(0:Int)=((0:Nat):Int)from rfl,za3 (show 0<x.Proofs.length by omega),zgk (show 0<x.Proofs.length by omega)]
   have hv:=zpZ k (s:=zgZ x.Voter) (by omega) (znN (zgH k)) (im:=[(x.Ciphers.getD 0 ⟨0,0⟩).A]) rfl (by rw[zgk (show 0<x.Ciphers.length by omega)];simp[hca.1]) (p:=x.Proofs.getD 0 ⟨[],[],[]⟩) (by rw[zgk (show 0<x.Proofs.length by omega)];exact hx.1 _ (List.getElem_mem _));rw[if_pos (show(!false)=true from rfl),zC0,Option.bind_some,e1,e2,Option.bind_some,Option.bind_some,hv,Option.bind_some];cases zpf x.Sum<;>rfl
  |true=>
   obtain⟨f1,f2,f3,f4⟩:=zoW kc hf;have hgd:=hgd hf;have hDq:ct.Options*zg1 ct≤8*5:=Int.mul_le_mul (by omega) (by omega) (by omega) (by omega);have hmo:=zBr (ct:=ct) (.inl hf);rw[if_pos hf]at hmo
   have hk2:(zb6 gr x.Ciphers).bind (fun z42=>(zbC gr key z42 ct.Least ct.Most).bind fun z43=>(zbq gr (zgZ x.Voter) z43 x.Sum).bind fun z44=>some z44)=some (zj6 gr (zgZ x.Voter) (stV gr key (zmM gr x.Ciphers) ct.Least (ct.Most-ct.Least+1).toNat) x.Sum):=by
    rw[zA6 k hc,Option.bind_some,zyy k (zmG k _) (by omega) (n:=(ct.Most-ct.Least+1).toNat) (by omega) (by omega),Option.bind_some,ztR k (by omega) (zqO k hk (zmG k _) (by omega))];rfl
   rw[if_neg (by simp),hk2,zjD (fun i=>zj6 gr (zgZ x.Voter) (stV gr key (x.Ciphers.getD i ⟨0,0⟩) 0 ((zg1 ct).toNat+1)) (x.Proofs.getD i ⟨[],[],[]⟩)) false _ fun i hi=>?_]
   ·cases (List.range x.Ciphers.length).all _<;>rfl
   ·have hci:=List.all_eq_true.1 hc _ (List.getElem_mem hi);have hip:i<x.Proofs.length:=by omega
    rw[za3 hi,Option.bind_some,za3 hip,Option.bind_some,hmo,Option.bind_some,zyy k hci (by omega) (n:=(zg1 ct).toNat+1) (by omega) (by omega),Option.bind_some,ztR k (by omega) (zqO k hk hci (by omega)),Option.bind_some,zuk,zgk hi,zgk hip]
theorem zAd(k:OkG gr){key:Int}(hk:zar gr key=true)(kc:OkC ct)(hgd:zei ct=true→ct.Most-ct.Least<8){x:Sealed}(hx:seN x):zfI gr key ct x=some (seB gr key ct x):=by
 unfold zfI seB;simp only[zAr,zqV,zzM k,Option.bind_some,zeT];rw[show(!inB 0 999999 x.Voter||(((x.Ciphers.length:Int) !=wdt ct)||(((x.Proofs.length:Int) !=wdt ct)|| !(decide (x.Ciphers.length≤24)&&x.Ciphers.all (zcC gr)))))=zny gr ct x from rfl];cases hg:zny gr ct x with
 |true=>rfl
 |false=>
  obtain⟨hv,hn,hm,hc⟩:=zwl hg;have hlb:=zvs hv.1 hv.2;rw[if_neg (by simp),zBV hv.1 hv.2,Option.bind_some,zkE,show(ct.Kind==1||ct.Kind==2)=zei ct from rfl,Option.bind_some];cases hf:zei ct with
  |false=>
   unfold wdt at hn hm;rw[hf]at hn hm;have hn:(x.Ciphers.length:Int)=1:=hn;have hm:(x.Proofs.length:Int)=1:=hm;have hc0:=List.all_eq_true.1 hc _ (List.getElem_mem (show 0<x.Ciphers.length by omega));have hca:=hc0;simp only[zcC,Bool.and_eq_true]at hca;have e1:ix x.Ciphers 0=some (x.Ciphers.getD 0 ⟨0,0⟩):=by rw[show(0:Int)=((0:Nat):Int)from rfl,za3 (show 0<x.Ciphers.length by omega),zgk (show 0<x.Ciphers.length by omega)]
   have e2:ix x.Proofs 0=some (x.Proofs.getD 0 ⟨[],[],[]⟩):=by rw[show(0:Int)=((0:Nat):Int)from rfl,za3 (show 0<x.Proofs.length by omega),zgk (show 0<x.Proofs.length by omega)]
   have hv:=zpQ k (s:=zgZ x.Voter) (by omega) (znN (zgH k)) (im:=[(x.Ciphers.getD 0 ⟨0,0⟩).A]) rfl (by rw[zgk (show 0<x.Ciphers.length by omega)];simp[hca.1]) (p:=x.Proofs.getD 0 ⟨[],[],[]⟩) (by rw[zgk (show 0<x.Proofs.length by omega)];exact hx.1 _ (List.getElem_mem _));rw[if_pos (show(!false)=true from rfl),e1,e2,Option.bind_some,Option.bind_some,hv,Option.bind_some,zzK hx.2.1 hx.2.2.1 hx.2.2.2];cases zpf x.Sum<;>cases znp gr (zgZ x.Voter) [[gr.G]] [(x.Ciphers.getD 0 ⟨0,0⟩).A] (x.Proofs.getD 0 ⟨[],[],[]⟩)<;>rfl
  |true=>
   obtain⟨f1,f2,f3,f4⟩:=zoW kc hf;have hgd:=hgd hf;have hDq:ct.Options*zg1 ct≤8*5:=Int.mul_le_mul (by omega) (by omega) (by omega) (by omega)
   have hk2:(zgd gr x.Ciphers).bind (fun z42=>(zcw gr key z42 ct.Least ct.Most).bind fun z43=>(zcI gr (zgZ x.Voter) z43 x.Sum).bind fun z44=>some z44)=some (zj6 gr (zgZ x.Voter) (stV gr key (zmM gr x.Ciphers) ct.Least (ct.Most-ct.Least+1).toNat) x.Sum):=by
    rw[zAG k hc,Option.bind_some,zyD k (zmG k _) (by omega) (n:=(ct.Most-ct.Least+1).toNat) (by omega) (by omega),Option.bind_some,ztE k (by omega) (zqO k hk (zmG k _) (by omega))];rfl
   rw[if_neg (by simp),hk2,zjD (fun i=>zj6 gr (zgZ x.Voter) (stV gr key (x.Ciphers.getD i ⟨0,0⟩) 0 ((zg1 ct).toNat+1)) (x.Proofs.getD i ⟨[],[],[]⟩)) false _ fun i hi=>?_]
   ·cases (List.range x.Ciphers.length).all _<;>rfl
   ·have hci:=List.all_eq_true.1 hc _ (List.getElem_mem hi);have hip:i<x.Proofs.length:=by omega
    rw[za3 hi,Option.bind_some,za3 hip,Option.bind_some,zBT,Option.bind_some,zyD k hci (by omega) (n:=(zg1 ct).toNat+1) (by omega) (by omega),Option.bind_some,ztE k (by omega) (zqO k hk hci (by omega)),Option.bind_some,zuk,zgk hi,zgk hip]
end
theorem zmO(a:Int)(R:List Int)(b:Bool):zaL (a::R) b=some (a,(R,b)):=by
 unfold zaL;rw[if_neg (by simp;omega)];refine zaj (zae (a:=a) rfl (zaq (by simp) (zab ?_)));rw[List.take_length];rfl
theorem zqR{p R:List Int}(hp:p.length≤1000)(hR:R.length≤1000):zaC (zaE p++R) true=some (p,(R,true)):=by
 unfold zaC;have e:zaE p++R=(p.length:Int)::(p++R):=rfl;rw[e,zmO,Option.bind_some,zdX];have hl:(p++R).length=p.length+R.length:=List.length_append;have h1:(decide (0≤(p.length:Int))&&decide ((p.length:Int)≤((p++R).length:Int)))=true:=by simp;omega
 dsimp only;rw[h1];refine zaj (zae rfl (zbf rfl (zaq (by omega) (zaq (by rw[Int.toNat_natCast];omega) (zae (a:=p) ?_ (zaq (by omega) (zaq (by rw[Int.toNat_natCast];omega) (zab ?_))))))))
 ·unfold zcY;rw[Int.toNat_natCast,List.drop_zero,List.take_left,zb9 (by omega)]
 rw[Int.toNat_natCast,List.take_length,List.drop_left]
theorem zyE:zbk [] true=some true:=rfl
theorem zDU{l:List Int}(h:l.length≤400)(hd:l.all zaO=true):za5 l=true:=by unfold za5;rw[hd,decide_eq_true (by omega)];rfl
theorem zBi{L:List (List Int)}(h:(zbS L).length≤400)(hd:(zbS L).all zaO=true):zbT (zbS L)=some (L,true):=by
 have hn:(L.flatMap zaE).length+1≤400:=by simpa[zbS]using h
 have hlen:L.length≤(L.flatMap zaE).length:=by
  clear h hd hn;induction L with
  |nil=>simp
  |cons p L ih=>rw[List.flatMap_cons,List.length_append,List.length_cons];show L.length+1≤(p.length+1)+(L.flatMap zaE).length;omega
 unfold zbT;rw[zfT,zDU h hd,Option.bind_some];have e:zbS L=(L.length:Int)::L.flatMap zaE:=rfl
 have hmin:(if((zbS L).length:Int)<(L.length:Int)then((zbS L).length:Int)else(L.length:Int))=(L.length:Int):=by
  rw[if_neg (by rw[e,List.length_cons];omega)]
 have hw:zau (σ:=(List Int×Bool)×(List (List Int))×Int) (fun s20=>
  if decide (s20.2.2<(L.length:Int))=true then(
  (zaC s20.1.1 s20.1.2).bind fun z26=>
  gd ((s20.2.1.length+1)*24≤140737488355328∧s20.2.1.length+1≤4611686018427387904)<|
  some (.go ((z26.2.1,z26.2.2),s20.2.1++[z26.1],i64.wrap (s20.2.2+1))))else(
  some (.out ((s20.1.1,s20.1.2),s20.2.1)))) ((L.flatMap zaE,true),[],0)=some (([],true),L):=by
  refine zaj (zbe L.length (fun i s=>s=(((L.drop i).flatMap zaE,true),L.take i,(i:Int))∧i≤L.length) ⟨rfl,by omega⟩ ?_ ?_)
  ·rintro i s hi ⟨rfl,_⟩;have hd2:(L.drop i).flatMap zaE=zaE L[i]++(L.drop (i+1)).flatMap zaE:=by rw[List.drop_eq_getElem_cons hi,List.flatMap_cons]
   have hle:((L.drop i).flatMap zaE).length≤(L.flatMap zaE).length:=by
    have h:(L.take i).flatMap zaE++(L.drop i).flatMap zaE=L.flatMap zaE:=by rw[←List.flatMap_append,List.take_append_drop]
    rw[←h,List.length_append];omega
   rw[hd2,List.length_append]at hle;have hat:=zqU hi;refine zgt (by simpa using hi) (zae (a:=(L[i],((L.drop (i+1)).flatMap zaE,true))) (by dsimp only;rw[hd2];exact zqR (by omega) (by omega)) (zaq (by rw[List.length_take];omega) (zab ⟨?_,by omega⟩)));dsimp only;rw[List.take_succ_eq_append_getElem hi,zak (n:=(i:Int)+1) (by omega) (by omega)];rfl
  ·rintro s ⟨rfl,_⟩;refine zbf (by simp) (zab ?_);show((((L.drop L.length).flatMap zaE,true),L.take L.length):(List Int×Bool)×List (List Int))=_;rw[List.drop_length,List.take_length];rfl
 refine zaj (zae (a:=((L.length:Int),(L.flatMap zaE,true))) (by rw[e];exact zmO _ _ _) (zae (a:=(([],true),L)) (by rw[hmin];exact hw) (zae (zyM h hd) (zag (ψ:=(· =false)) (zae zyE (zbf rfl (zbf rfl (zae (zja _ _) (zab (by simp)))))) ?_))));rintro _ rfl;exact zbf rfl (zab rfl)
theorem zbQ{l:List Int}:za5 l=true↔l.length≤400∧l.all zaO=true:=by
 unfold za5;rw[Bool.and_eq_true,decide_eq_true_eq];constructor<;>rintro⟨a,b⟩<;>exact⟨by omega,b⟩
theorem zko(l:List Int):zdp l=some (za5 l):=by
 unfold zdp;refine zaj (zag (ψ:=(· =za5 l)) (zan (fun h=>?_) fun h=>?_) (fun _ e=>zab e))
 ·exact zae (zo7 _ _ _) (zab (by unfold za5;rw[h];rfl))
 exact zab (by unfold za5;rw[h];rfl)
end Go.Pm
