/-
  FnShuffles: plain laws.
  No condition.
-/
import Derived.Test.YthafgjhkjgcdeaaGreatM37b
import Derived.Test.YthafgjhkjgcdeaaGreatPmZ
namespace Go.Pm
open Go.Am
set_option linter.unusedVariables false
noncomputable section
def zhh (a0:Int):Option Bool:=
 (zch a0 0 4611686018427387903).bind fun z1=>
 some z1
def zia (a0:ByteArray) (a1:List Int):Option ((List Int)):=
 ((zbS (σ:=(List Int)×Int) (fun s4=>
 if decide (s4.2<(a0.size:Int))=true then(
 (ixs a0 s4.2).bind fun x10=>
 gd ((s4.1.length+1)*8≤140737488355328∧s4.1.length+1≤4611686018427387904)<|
 some (.go (s4.1++[IntKind.i64.wrap x10],IntKind.i64.wrap (s4.2+1))))else(
 some (.out s4.1))) ([(a0.size:Int)],0):Option ((List Int))).bind fun x3=>
 gd ((x3.length+a1.length)*8≤140737488355328∧x3.length+a1.length≤4611686018427387904)<|
 some (x3++a1))
def zdk (a0c0:Int) (a0c1:Int) (a1:Int):Option ((Int×Int)):=
 (some [a1.tmod 2147483648,IntKind.i64.wrap (a1.tdiv 2147483648)]).bind fun x1=>
 zbS (σ:=(Int×Int)×Int) (fun s10=>
 if decide (s10.2<(x1.length:Int))=true then(
 (ix x1 s10.2).bind fun x16=>
 some (.go (((IntKind.i64.wrap ((IntKind.i64.wrap ((IntKind.i64.wrap (48271*s10.1.1))+x16))+1)).tmod 2147483647,(IntKind.i64.wrap ((IntKind.i64.wrap ((IntKind.i64.wrap (69621*s10.1.2))+x16))+1)).tmod 2147483647),IntKind.i64.wrap (s10.2+1))))else(
 some (.out (s10.1.1,s10.1.2)))) ((a0c0,a0c1),0)
def ziV (a0:List Int):Option Int:=
 (zdk 1 2 (a0.length:Int)).bind fun z1=>
 ((zaq (σ:=(Int×Int)) (fun i15 s14=>
 (ix a0 i15).bind fun x21=>
 (zdk s14.1 s14.2 x21).bind fun z22=>
 some (.go (z22.1,z22.2))) (fun s14=>(s14.1,s14.2)) (a0.length) 0 (z1.1,z1.2):Option ((Int×Int))).bind fun x4=>
 some (IntKind.i64.wrap ((IntKind.i64.wrap (x4.1*2147483648))+x4.2)))
def zfZ (a0:ByteArray) (a1:List Int):Option Int:=
 (zia a0 a1).bind fun z1=>
 (ziV z1).bind fun z2=>
 some z2
def zen (a0:Group) (a1:ByteArray) (a2:Int):Option Int:=
 ((zbS (σ:=Int) (fun s4=>
 if decide (s4<1000)=true then(
 (zfZ a1 [a0.P,a0.Q,a0.G,a2,s4]).bind fun z10=>
 gd (IntKind.i64.wrap (a0.P-1)≠0)<|
 gd (a0.Q≠0)<|
 (zbi (IntKind.i64.wrap (1+(z10.tmod (IntKind.i64.wrap (a0.P-1))))) (IntKind.i64.wrap ((IntKind.i64.wrap (a0.P-1)).tdiv a0.Q)) a0.P).bind fun z11=>
 if(z11 !=1)=true then(
 some (.out (.inr z11)))else(
 some (.go (IntKind.i64.wrap (s4+1)))))else(
 some (.out (.inl ())))) 0:Option (Unit ⊕ Int)).bind (Sum.elim (fun x3=>
 some 0) some))
def zfU (a0:Group) (a1:ByteArray) (a2:Int):Option (Int×Bool):=
 (((zcQ a0).bind fun z4=>
 if(!z4)=true then(
 some true)else(
 if decide (40<(a1.size:Int))=true then(
 some true)else(
 (zhh a2).bind fun z7=>
 some (!z7))):Option Bool).bind fun x3=>
 if x3=true then(
 some (0,false))else(
 (zen a0 a1 a2).bind fun z9=>
 some (z9,decide (0<z9))))
def zfB (a0:Group) (a1:ByteArray) (a2:Int):Option (List Int×Bool):=
 (((zcQ a0).bind fun z4=>
 if(!z4)=true then(
 some true)else(
 if decide (40<(a1.size:Int))=true then(
 some true)else(
 (zch a2 0 100).bind fun z7=>
 some (!z7))):Option Bool).bind fun x3=>
 if x3=true then(
 some ([],false))else(
 ((zbS (σ:=(List Int)×Int) (fun s12=>
 if decide (s12.2<a2)=true then(
 (zen a0 a1 s12.2).bind fun z18=>
 if(z18==0)=true then(
 some (.out (.inr ([],false))))else(
 gd ((s12.1.length+1)*8≤140737488355328∧s12.1.length+1≤4611686018427387904)<|
 some (.go (s12.1++[z18],IntKind.i64.wrap (s12.2+1)))))else(
 some (.out (.inl s12.1)))) ([],0):Option ((List Int) ⊕ (List Int×Bool))).bind (Sum.elim (fun x11=>
 some (x11,true)) some))))
def zeH (a0:Group) (a1:Int):Option (Bases×Bool):=
 (((zcQ a0).bind fun z4=>
 if(!z4)=true then(
 some true)else(
 (zch a1 0 24).bind fun z6=>
 some (!z6)):Option Bool).bind fun x3=>
 if x3=true then(
 some ((Bases.mk 0 []),false))else(
 (zfU a0 (⟨#[104]⟩:ByteArray) 0).bind fun z8=>
 (zfB a0 (⟨#[104,115]⟩:ByteArray) a1).bind fun z9=>
 ((if(!z8.2)=true then(
 some true)else(
 some (!z9.2)):Option Bool).bind fun x12=>
 if x12=true then(
 some ((Bases.mk 0 []),false))else(
 some ((Bases.mk z8.1 z9.1),true)))))
def zfy (a0:Int) (a1:List Cipher) (a2:List Cipher) (a3:List Int):Option ((List Int)):=
 ((zaq (σ:=(List Int)) (fun i5 s4=>
 (ix a1 i5).bind fun x11=>
 gd ((s4.length+2)*8≤140737488355328∧s4.length+2≤4611686018427387904)<|
 some (.go (s4++[x11.A,x11.B]))) (fun s4=>s4) (a1.length) 0 [a0]:Option ((List Int))).bind fun x3=>
 ((zaq (σ:=(List Int)) (fun i20 s19=>
 (ix a2 i20).bind fun x26=>
 gd ((s19.length+2)*8≤140737488355328∧s19.length+2≤4611686018427387904)<|
 some (.go (s19++[x26.A,x26.B]))) (fun s19=>s19) (a2.length) 0 x3:Option ((List Int))).bind fun x18=>
 gd ((x18.length+a3.length)*8≤140737488355328∧x18.length+a3.length≤4611686018427387904)<|
 some (x18++a3)))
def zli (a0:List Int):Option ((List Int)):=
 gd (a0.length*8≤140737488355328∧a0.length≤4611686018427387904)<|
 some a0
def zex (a0:Group) (a1:ByteArray) (a2:List Int):Option Int:=
 gd (([a0.P,a0.Q,a0.G].length+a2.length)*8≤140737488355328∧[a0.P,a0.Q,a0.G].length+a2.length≤4611686018427387904)<|
 (zfZ a1 ([a0.P,a0.Q,a0.G]++a2)).bind fun z1=>
 gd (a0.Q≠0)<|
 some (z1.tmod a0.Q)
def zfb (a0:Group) (a1:ByteArray) (a2:List Int) (a3:Int):Option ((List Int)):=
 ((zbS (σ:=(List Int)×Int) (fun s4=>
 if decide (s4.2<a3)=true then(
 (zli a2).bind fun z10=>
 gd ((z10.length+1)*8≤140737488355328∧z10.length+1≤4611686018427387904)<|
 (zex a0 a1 (z10++[s4.2])).bind fun z11=>
 gd ((s4.1.length+1)*8≤140737488355328∧s4.1.length+1≤4611686018427387904)<|
 some (.go (s4.1++[z11],IntKind.i64.wrap (s4.2+1))))else(
 some (.out s4.1))) ([],0):Option ((List Int))).bind fun x3=>
 some x3)
def zh5 (a0:Group) (a1:Int) (a2:List Cipher) (a3:List Cipher) (a4:List Int):Option ((List Int)):=
 (zfy a1 a2 a3 a4).bind fun z1=>
 (zfb a0 (⟨#[109,105,120,32,99,111,108,117,109,110,115]⟩:ByteArray) z1 (a2.length:Int)).bind fun z2=>
 some z2
def zkT (a0:List Cipher):Option (List Int×List Int):=
 ((zaq (σ:=(List Int)×List Int) (fun i5 s4=>
 (ix a0 i5).bind fun x11=>
 gd ((s4.1.length+1)*8≤140737488355328∧s4.1.length+1≤4611686018427387904)<|
 gd ((s4.2.length+1)*8≤140737488355328∧s4.2.length+1≤4611686018427387904)<|
 some (.go (s4.1++[x11.A],s4.2++[x11.B]))) (fun s4=>(s4.1,s4.2)) (a0.length) 0 ([],[]):Option ((List Int×List Int))).bind fun x3=>
 some (x3.1,x3.2))
def zmw (a0:List Int) (a1:Int):Option Int:=
 ((zaq (σ:=Int) (fun i5 s4=>
 (ix a0 i5).bind fun x11=>
 gd (a1≠0)<|
 some (.go ((IntKind.i64.wrap (s4+x11)).tmod a1))) (fun s4=>s4) (a0.length) 0 0:Option Int).bind fun x3=>
 some x3)
set_option linter.unusedVariables false
set_option linter.unusedSimpArgs false
theorem zuu {l r:List Int}{k:Nat}(h1:k<l.length) (h2:k<r.length) (h:l.take k=r.take k) (he:l[k]=r[k]):l.take (k+1)=r.take (k+1):=by
 rw[List.take_succ_eq_append_getElem h1,List.take_succ_eq_append_getElem h2,h,he]
theorem zvZ (a b:List Int) (ha:a.length≤1048576):zf1 a b=some (decide (a=b)):=by
 unfold zf1
 by_cases hl:a.length=b.length
 ·have e:((a.length:Int) !=(b.length:Int))=false:=by simp[hl]
  simp only[e,Bool.false_eq_true,if_false]
  obtain⟨r,hb,hp⟩:=znj (σ:=Unit) (β:=Unit ⊕ Bool) (body:=fun i16 s15=>
   (ix a i16).bind fun x25=>
   (ix b i16).bind fun x32=>
   if(x25 !=x32)=true then(
   some (.out (.inr false)))else(
   some (.go ()))) (stop:=fun s15=>.inl ()) (m:=a.length) (i0:=0) (s0:=()) (fun k _=>a.take k=b.take k)
   (fun r=>Sum.elim (fun _=>a=b) (fun r=>r=false∧a≠b) r) (by simp)
   (by
     rintro k s hk hI
     have hk2:k<b.length:=by omega
     rw[Int.zero_add]
     simp only[zed hk,zed hk2,Option.bind_some]
     by_cases he:a[k]=b[k]
     ·exact .inl ⟨(),by simp[he],zuu hk hk2 hI he⟩
     ·exact .inr ⟨.inr false,by simp[he],rfl,fun h=>by subst h;exact he rfl⟩)
   (by
     rintro s hI
     rw[List.take_length,hl,List.take_length]at hI
     exact hI)
  rw[hb,Option.bind_some]
  cases r with
  |inl u=>have hp:a=b:=hp;simp[hp]
  |inr r=>
   obtain⟨h1,h2⟩:r=false∧a≠b:=hp
   simp[h1,h2]
 have e:((a.length:Int) !=(b.length:Int))=true:=by simp;omega
 have:a≠b:=fun h=>hl (by rw[h])
 simp[e,this]
theorem zfT (a b c:Int):zbZ a b c=some (decide (b≤a)&&decide (a≤c)):=by
 unfold zbZ
 by_cases h:b≤a<;>simp[h]
theorem zf2 (a b c:Int):zch a b c=some (decide (b≤a)&&decide (a≤c)):=by
 unfold zch
 by_cases h:b≤a<;>simp[h]
theorem zmy (a:Int):zeQ a=some (decide (2≤a)&&decide (a≤2000000000)):=by
 unfold zeQ
 rw[zfT];rfl
theorem zc5 (a b:Nat):(a:Int).tmod (b:Int)=((a%b:Nat):Int):=by rw[Int.tmod_eq_emod_of_nonneg (by omega)];exact(Int.natCast_emod _ _).symm
theorem zvc (a b:Nat):(a:Int).tdiv (b:Int)=((a/b:Nat):Int):=by rw[Int.tdiv_eq_ediv_of_nonneg (by omega)];exact(Int.natCast_ediv _ _).symm
theorem zgm (a b:Nat):(a:Int)*(b:Int)=((a*b:Nat):Int):=(Int.natCast_mul _ _).symm
theorem zxx {e:Nat}(he:e≤9223372036854775807):IntKind.i64.wrap (BitVec.ofInt IntKind.i64.bits (e:Int)&&&BitVec.ofInt IntKind.i64.bits 1).toNat=((e%2:Nat):Int):=by
 have h1:(BitVec.ofInt IntKind.i64.bits (e:Int)&&&BitVec.ofInt IntKind.i64.bits 1).toNat=e%2:=by
  rw[BitVec.toNat_and]
  have a1:(BitVec.ofInt IntKind.i64.bits (e:Int)).toNat=e:=by
   rw[BitVec.toNat_ofInt]
   have:IntKind.i64.bits=64:=rfl
   rw[this]
   omega
  have a2:(BitVec.ofInt IntKind.i64.bits 1).toNat=1:=by decide
  rw[a1,a2,Nat.and_one_is_mod]
 rw[h1,zap (by omega) (by omega)]
theorem zxH {a e m:Nat}(ha:a≤2000000000) (hm:1≤m) (hm2:m≤2000000000) (he:e≤9223372036854775807):zbG (a:Int) (e:Int) (m:Int)=some ((a^e%m:Nat):Int):=by
 unfold zbG
 refine zaw (zau (by omega) (zae (φ:=(· =((a^e%m:Nat):Int))) (zeq (φ:=(· =((a^e%m:Nat):Int))) (fun s=>∃x y o:Nat,s=((x:Int),(y:Int),(o:Int))∧x≤2000000000∧y≤e∧o<m∧o*x^y%m=a^e%m) (fun s=>s.2.1.toNat)
  ⟨a,e,1%m,by rw[show(1:Int)=((1:Nat):Int)from rfl,zc5],ha,Nat.le_refl _,Nat.mod_lt _ (by omega),by rw[Nat.mod_mul_mod,Nat.one_mul]⟩ ?_) fun x hx=>zab hx))
 rintro s ⟨x,y,o,rfl,hx,hy,ho,hi⟩
 refine zam (fun h0=>?_) fun h0=>?_
 ·have h0:0<y:=by simpa using h0
  have hox:o*x≤4000000000000000000:=Nat.le_trans (Nat.mul_le_mul (show o≤2000000000 by omega) hx) (by decide)
  have hxx:x*x≤4000000000000000000:=Nat.le_trans (Nat.mul_le_mul hx hx) (by decide)
  refine zae (ψ:=fun o'=>∃k:Nat,o'=(k:Int)∧k<m∧k*(x*x)^(y/2)%m=a^e%m) ?_ ?_
  ·simp only[zxx (show y≤9223372036854775807 by omega)]
   refine zam (fun h1=>zau (by omega) (zab ⟨o*x%m,?_,Nat.mod_lt _ (by omega),?_⟩)) fun h1=>zab ⟨o,rfl,ho,?_⟩
   ·rw[zgm,zap (by omega) (by omega),zc5]
   ·have h1:y%2=1:=by
     have:((y%2:Nat):Int)=1:=by simpa using h1
     omega
    rw[Nat.mod_mul_mod,←hi,←Nat.pow_two,←Nat.pow_mul,Nat.mul_assoc,←Nat.pow_succ']
    congr 3;omega
   have h1:y%2=0:=by
    have:¬((y%2:Nat):Int)=1:=by simpa using h1
    omega
   rw[←hi,←Nat.pow_two,←Nat.pow_mul]
   congr 3;omega
  rintro o' ⟨k,rfl,hk,hk2⟩
  refine zau (by omega) (zab ⟨⟨x*x%m,y/2,k,?_,by have:=Nat.mod_lt (x*x) (show 0<m by omega);omega,by omega,hk,?_⟩,?_⟩)
  ·rw[zgm,zap (by omega) (by omega),zc5]
   have e3:(y:Int).fdiv 2=((y/2:Nat):Int):=by rw[Int.fdiv_eq_ediv_of_nonneg _ (by omega)];rfl
   show(_,(y:Int).fdiv 2,_)=_
   rw[e3]
  ·rw[Nat.mul_mod,←Nat.pow_mod,←Nat.mul_mod]
   exact hk2
  show((y:Int).fdiv 2).toNat<(y:Int).toNat
  rw[Int.fdiv_eq_ediv_of_nonneg _ (by omega)]
  omega
 have h0:y=0:=by
  have:¬(0<y):=by simpa using h0
  omega
 subst h0
 refine zab ?_
 show(o:Int)=_
 rw[Nat.pow_zero,Nat.mul_one,Nat.mod_eq_of_lt ho]at hi
 rw[hi]
theorem zvo {a e m:Nat}(ha:a≤2000000000) (hm:1≤m) (hm2:m≤2000000000) (he:e≤9223372036854775807):zbi (a:Int) (e:Int) (m:Int)=some ((a^e%m:Nat):Int):=by
 unfold zbi
 refine zaw (zau (by omega) (zae (φ:=(· =((a^e%m:Nat):Int))) (zeq (φ:=(· =((a^e%m:Nat):Int))) (fun s=>∃x y o:Nat,s=((x:Int),(y:Int),(o:Int))∧x≤2000000000∧y≤e∧o<m∧o*x^y%m=a^e%m) (fun s=>s.2.1.toNat)
  ⟨a,e,1%m,by rw[show(1:Int)=((1:Nat):Int)from rfl,zc5],ha,Nat.le_refl _,Nat.mod_lt _ (by omega),by rw[Nat.mod_mul_mod,Nat.one_mul]⟩ ?_) fun x hx=>zab hx))
 rintro s ⟨x,y,o,rfl,hx,hy,ho,hi⟩
 refine zam (fun h0=>?_) fun h0=>?_
 ·have h0:0<y:=by simpa using h0
  have hox:o*x≤4000000000000000000:=Nat.le_trans (Nat.mul_le_mul (show o≤2000000000 by omega) hx) (by decide)
  have hxx:x*x≤4000000000000000000:=Nat.le_trans (Nat.mul_le_mul hx hx) (by decide)
  have e2:(y:Int).tmod 2=((y%2:Nat):Int):=zc5 y 2
  refine zae (ψ:=fun o'=>∃k:Nat,o'=(k:Int)∧k<m∧k*(x*x)^(y/2)%m=a^e%m) ?_ ?_
  ·simp only[e2]
   refine zam (fun h1=>zau (by omega) (zab ⟨o*x%m,?_,Nat.mod_lt _ (by omega),?_⟩)) fun h1=>zab ⟨o,rfl,ho,?_⟩
   ·rw[zgm,zap (by omega) (by omega),zc5]
   ·have h1:y%2=1:=by
     have:((y%2:Nat):Int)=1:=by simpa using h1
     omega
    rw[Nat.mod_mul_mod,←hi,←Nat.pow_two,←Nat.pow_mul,Nat.mul_assoc,←Nat.pow_succ']
    congr 3;omega
   have h1:y%2=0:=by
    have:¬((y%2:Nat):Int)=1:=by simpa using h1
    omega
   rw[←hi,←Nat.pow_two,←Nat.pow_mul]
   congr 3;omega
  rintro o' ⟨k,rfl,hk,hk2⟩
  have e3:(y:Int).tdiv 2=((y/2:Nat):Int):=zvc y 2
  refine zau (by omega) (zab ⟨⟨x*x%m,y/2,k,?_,by have:=Nat.mod_lt (x*x) (show 0<m by omega);omega,by omega,hk,?_⟩,?_⟩)
  ·simp only[e3]
   rw[zgm,zap (n:=((x*x:Nat):Int)) (by omega) (by omega),zc5,zap (n:=((y/2:Nat):Int)) (by omega) (by omega)]
  ·rw[Nat.mul_mod,←Nat.pow_mod,←Nat.mul_mod]
   exact hk2
  show(IntKind.i64.wrap ((y:Int).tdiv 2)).toNat<(y:Int).toNat
  rw[e3,zap (by omega) (by omega)]
  omega
 have h0:y=0:=by
  have:¬(0<y):=by simpa using h0
  omega
 subst h0
 refine zab ?_
 show(o:Int)=_
 rw[Nat.pow_zero,Nat.mul_one,Nat.mod_eq_of_lt ho]at hi
 rw[hi]
theorem zsy {a q:Int}(h0:0<q) (h1:q≤2000000000):ze8 a q=some (a%q):=by
 unfold ze8
 rw[zdJ (by omega),zdJ (by omega)]
 have b1:a.tmod q<q:=Int.tmod_lt_of_pos a h0
 have b2: -q<a.tmod q:=by
  have:=Int.lt_tmod_of_pos a h0
  omega
 rw[zap (by omega) (by omega),Int.tmod_eq_emod_of_nonneg (by omega)]
 congr 1
 rw[Int.add_emod_right]
 rw[Int.tmod_def,Int.sub_emod,Int.mul_emod_right,Int.sub_zero,Int.emod_emod]
theorem znI {a q:Int}(h0:0<q) (h1:q≤2000000000):zeF a q=some (a%q):=by
 unfold zeF
 rw[zdJ (by omega),zdJ (by omega)]
 have b1:a.tmod q<q:=Int.tmod_lt_of_pos a h0
 have b2: -q<a.tmod q:=by
  have:=Int.lt_tmod_of_pos a h0
  omega
 rw[zap (by omega) (by omega),Int.tmod_eq_emod_of_nonneg (by omega)]
 congr 1
 rw[Int.add_emod_right]
 rw[Int.tmod_def,Int.sub_emod,Int.mul_emod_right,Int.sub_zero,Int.emod_emod]
def Pr (n:Nat):Prop:=2≤n∧∀d,2≤d→d*d≤n→n%d≠0
open Classical in
def prB (n:Int):Bool:=decide (Pr n.toNat)
theorem zfk {n:Nat}:prB (n:Int)=true↔Pr n:=by simp[prB]
theorem zhD (n:Int) (h:n≤2000000000):zdT n=some (prB n):=by
 unfold zdT
 refine zaw (zam (fun h0=>zab ?_) fun h0=>?_)
 ·have h0:n<2:=by simpa using h0
  symm
  unfold prB
  rw[decide_eq_false_iff_not]
  intro hp
  have:=hp.1
  omega
 have h0:¬n<2:=by simpa using h0
 obtain⟨n,rfl⟩:=Int.eq_ofNat_of_zero_le (show 0≤n by omega)
 refine zae (ψ:=fun b=>(b=.inl ()∧Pr n)∨(b=.inr false∧¬Pr n)) (zeq (fun s=>∃d:Nat,s=(d:Int)∧2≤d∧d≤44723∧∀k,2≤k→k<d→k*k≤n→n%k≠0) (fun s=>50000-s.toNat) ⟨2,rfl,by omega,by omega,fun k h1 h2=>by omega⟩ ?_) ?_
 ·rintro s ⟨d,rfl,hd,hd2,hi⟩
  have hdd:d*d≤2000146729:=Nat.le_trans (Nat.mul_le_mul hd2 hd2) (by decide)
  rw[zgm,zap (by omega) (by omega)]
  refine zam (fun h1=>zau (by omega) (zam (fun h2=>zab (.inr ⟨rfl,?_⟩)) fun h2=>zab ?_)) fun h1=>zab (.inl ⟨rfl,by omega,fun k hk hkn=>?_⟩)
  ·have h1:d*d≤n:=by have:=of_decide_eq_true h1;omega
   rw[zc5]at h2
   have h2 : n % d = 0 := by have:((n%d:Nat):Int)=0:=by simpa using h2
                             omega
   exact fun hp=>hp.2 d hd h1 h2
  ·have h1:d*d≤n:=by have:=of_decide_eq_true h1;omega
   rw[zc5]at h2
   have h2 : n % d ≠ 0 := by have:¬((n%d:Nat):Int)=0:=by simpa using h2
                             omega
   have hd3:d≤44722:=by
    rcases Nat.lt_or_ge d 44723 with h|h
    ·omega
    ·have:44723*44723≤d*d:=Nat.mul_le_mul h h
     omega
   rw[zap (by omega) (by omega)]
   refine⟨⟨d+1,rfl,by omega,by omega,fun k h3 h4 h5=>?_⟩,by omega⟩
   rcases Nat.lt_or_ge k d with h|h
   ·exact hi k h3 h h5
   have:k=d:=by omega
   subst this
   exact h2
  have h1:n<d*d:=by have:=of_decide_eq_false h1;omega
  rcases Nat.lt_or_ge k d with h|h
  ·exact hi k hk h hkn
  have:=Nat.mul_le_mul h h
  omega
 rintro b (⟨rfl,hp⟩|⟨rfl,hp⟩)
 ·exact zab (zfk.2 hp).symm
 refine zab ?_
 symm
 unfold prB
 rw[decide_eq_false_iff_not]
 exact hp
theorem zoF (n:Int):zeK n=some (decide (n≤2000000000)&&prB n):=by
 unfold zeK
 by_cases h:2≤n∧n≤2000000000
 ·obtain⟨n,rfl⟩:=Int.eq_ofNat_of_zero_le (show 0≤n by omega)
  have e2:((n:Int)).tmod 2=((n%2:Nat):Int):=zc5 n 2
  have em:(decide (2≤(n:Int))&&decide ((n:Int)≤2000000000))=true:=by simp only[Bool.and_eq_true,decide_eq_true_eq];exact h
  rw[show(decide ((n:Int)≤2000000000)&&prB (n:Int))=prB (n:Int)by simp[h.2]]
  refine zaw (zae (ψ:=fun b=>b=decide (n%2=0∧n≠2)) (zaa (zmy _) ?_) ?_)
  ·rw[em]
   refine za1 rfl ?_
   rw[e2]
   refine zam (fun h1=>zab ?_) fun h1=>zab ?_
   ·have h1 : n % 2 = 0 := by have:((n%2:Nat):Int)=0:=by simpa using h1
                              omega
    have:((n:Int) !=2)=decide (n≠2):=by
     by_cases hn:n=2
     ·subst hn;rfl
     ·have hn':¬(n:Int)=2:=by omega
      simp[hn,hn']
    rw[this];simp[h1]
   have h1 : n % 2 ≠ 0 := by have:¬((n%2:Nat):Int)=0:=by simpa using h1
                             omega
   simp[h1]
  rintro b rfl
  refine zam (fun h1=>zab ?_) fun h1=>?_
  ·have h1:=of_decide_eq_true h1
   symm
   unfold prB
   rw[decide_eq_false_iff_not]
   intro hp
   have hn:4≤n:=by omega
   exact hp.2 2 (by omega) hn h1.1
  have h1:=of_decide_eq_false h1
  refine zae (ψ:=fun b=>(b=.inl ()∧Pr n)∨(b=.inr false∧¬Pr n)) (zeq (fun s=>∃d:Nat,s=(d:Int)∧3≤d∧d%2=1∧d≤44725∧∀k,2≤k→k<d→k*k≤n→n%k≠0) (fun s=>50000-s.toNat) ⟨3,rfl,by omega,by omega,by omega,fun k h2 h3 h4=>?_⟩ ?_) ?_
  ·have:k=2:=by omega
   subst this
   intro h5
   exact h1 ⟨h5,by omega⟩
  ·rintro s ⟨d,rfl,hd,hodd,hd2,hi⟩
   have hdd:d*d≤2000325625:=Nat.le_trans (Nat.mul_le_mul hd2 hd2) (by decide)
   rw[zgm,zap (by omega) (by omega)]
   refine zam (fun h1=>zau (by omega) (zam (fun h2=>zab (.inr ⟨rfl,?_⟩)) fun h2=>zab ?_)) fun h1=>zab (.inl ⟨rfl,by omega,fun k hk hkn=>?_⟩)
   ·have h1:d*d≤n:=by have:=of_decide_eq_true h1;omega
    rw[zc5]at h2
    have h2 : n % d = 0 := by have:((n%d:Nat):Int)=0:=by simpa using h2
                              omega
    exact fun hp=>hp.2 d (by omega) h1 h2
   ·have h3:d*d≤n:=by have:=of_decide_eq_true h1;omega
    rw[zc5]at h2
    have h2 : n % d ≠ 0 := by have:¬((n%d:Nat):Int)=0:=by simpa using h2
                              omega
    have hd3:d≤44722:=by
     rcases Nat.lt_or_ge d 44723 with h|h
     ·omega
     ·have:44723*44723≤d*d:=Nat.mul_le_mul h h
      omega
    rw[zap (by omega) (by omega)]
    refine⟨⟨d+2,rfl,by omega,by omega,by omega,fun k h4 h5 h6 h7=>?_⟩,by omega⟩
    rcases Nat.lt_or_ge k d with h|h
    ·exact hi k h4 h h6 h7
    rcases(show k=d∨k=d+1 by omega)with e|e
    ·subst e;exact h2 h7
    have h8:n%2=0:=by
     have a1:k∣n:=Nat.dvd_of_mod_eq_zero h7
     have a2:2∣k:=Nat.dvd_of_mod_eq_zero (by omega)
     exact Nat.mod_eq_zero_of_dvd (Nat.dvd_trans a2 a1)
    have h9:2*2≤n:=by
     have:=Nat.mul_le_mul h4 h4
     omega
    exact hi 2 (by omega) (by omega) h9 h8
   have h1:n<d*d:=by have:=of_decide_eq_false h1;omega
   rcases Nat.lt_or_ge k d with h|h
   ·exact hi k hk h hkn
   have:=Nat.mul_le_mul h h
   omega
  rintro b (⟨rfl,hp⟩|⟨rfl,hp⟩)
  ·exact zab (zfk.2 hp).symm
  refine zab ?_
  symm
  unfold prB
  rw[decide_eq_false_iff_not]
  exact hp
 have em:(decide (2≤n)&&decide (n≤2000000000))=false:=by
  rw[Bool.and_eq_false_iff,decide_eq_false_iff_not,decide_eq_false_iff_not];omega
 rw[zmy,em]
 simp only[Option.bind_some,Bool.not_false,if_true]
 congr 1
 symm
 rw[Bool.and_eq_false_iff,decide_eq_false_iff_not]
 by_cases hn:n≤2000000000
 ·right
  unfold prB
  rw[decide_eq_false_iff_not]
  intro hp
  have:=hp.1
  omega
 exact .inl hn
structure OkG (gr:Group):Prop where
 p:3≤gr.P∧gr.P≤2000000000
 q:2≤gr.Q∧gr.Q≤gr.P-1
 d:(gr.P.toNat-1)%gr.Q.toNat=0
 g:2≤gr.G∧gr.G≤gr.P-1
 pp:Pr gr.P.toNat
 pq:Pr gr.Q.toNat
 o:gr.G.toNat^gr.Q.toNat%gr.P.toNat=1
open Classical in
def okG (gr:Group):Bool:=decide (OkG gr)
theorem zhP {gr:Group}:okG gr=true↔OkG gr:=by simp[okG]
theorem zfs {gr:Group}(h:¬OkG gr):okG gr=false:=by simp[okG,h]
theorem zu8 {gr:Group}{b:Bool}(h1:b=true→OkG gr) (h2:OkG gr→b=true):b=okG gr:=by
 cases hb:b with
 |true=>exact(zhP.2 (h1 hb)).symm
 |false=>exact(zfs fun h=>by rw[h2 h]at hb;cases hb).symm
theorem zd7 {a:Int}(h:0≤a):a=((a.toNat:Nat):Int):=by omega
theorem zfi {a e m:Int}(ha:0≤a) (ha2:a≤2000000000) (hm:1≤m) (hm2:m≤2000000000) (he:0≤e) (he2:e≤9223372036854775807):zbG a e m=some ((a.toNat^e.toNat%m.toNat:Nat):Int)∧zbi a e m=some ((a.toNat^e.toNat%m.toNat:Nat):Int):=by
 have h1:=zxH (a:=a.toNat) (e:=e.toNat) (m:=m.toNat) (by omega) (by omega) (by omega) (by omega)
 have h2:=zvo (a:=a.toNat) (e:=e.toNat) (m:=m.toNat) (by omega) (by omega) (by omega) (by omega)
 rw[←zd7 ha,←zd7 he,←zd7 (show 0≤m by omega)]at h1 h2
 exact⟨h1,h2⟩
theorem zjx {a b:Bool}:(a&&b)=true↔a=true∧b=true:=by simp
theorem zpQ (gr:Group):zd3 gr=some (okG gr):=by
 unfold zd3
 refine zaw (zae (ψ:=fun b=>b=okG gr) ?_ fun b hb=>zab hb)
 refine zaa (zfT _ _ _) (zam (fun h=>?_) fun h=>?_)
 ·have hp:3≤gr.P∧gr.P≤2000000000:=by simpa using h
  rw[zap (n:=gr.P-1) (by omega) (by omega)]
  refine zaa (zfT _ _ _) (zam (fun h=>?_) fun h=>?_)
  ·have hq:2≤gr.Q∧gr.Q≤gr.P-1:=by simpa using h
   have ed:(gr.P-1).tmod gr.Q=(((gr.P.toNat-1)%gr.Q.toNat:Nat):Int):=by
    rw[zd7 (show 0≤gr.P-1 by omega),zd7 (show 0≤gr.Q by omega),zc5]
    simp only[Int.toNat_natCast]
    congr 2;omega
   refine zau (by omega) ?_
   rw[ed]
   refine zam (fun h=>?_) fun h=>?_
   ·have hd:(gr.P.toNat-1)%gr.Q.toNat=0:=by
     have:(((gr.P.toNat-1)%gr.Q.toNat:Nat):Int)=0:=by simpa using h
     omega
    refine zaa (zfT _ _ _) (zam (fun h=>?_) fun h=>?_)
    ·have hg:2≤gr.G∧gr.G≤gr.P-1:=by simpa using h
     refine zaa (zoF _) (zam (fun h=>?_) fun h=>?_)
     ·have hpp:Pr gr.P.toNat:=by
       rw[zjx,zd7 (show 0≤gr.P by omega),zfk]at h
       exact h.2
      refine zaa (zoF _) (zam (fun h=>?_) fun h=>?_)
      ·have hpq:Pr gr.Q.toNat:=by
        rw[zjx,zd7 (show 0≤gr.Q by omega),zfk]at h
        exact h.2
       refine zaa (zfi (a:=gr.G) (e:=gr.Q) (m:=gr.P) (by omega) (by omega) (by omega) (by omega) (by omega) (by omega)).1 (zab (zu8 (fun h=>⟨hp,hq,hd,hg,hpp,hpq,?_⟩) fun h=>?_))
       ·have:((gr.G.toNat^gr.Q.toNat%gr.P.toNat:Nat):Int)=1:=by simpa using h
        omega
       rw[h.o];rfl
      refine zab (zfs fun hk=>?_).symm
      have:(decide (gr.Q≤2000000000)&&prB gr.Q)=true:=by
       rw[zjx,zd7 (show 0≤gr.Q by omega),zfk]
       exact⟨by simp;omega,hk.pq⟩
      rw[this]at h;cases h
     refine zab (zfs fun hk=>?_).symm
     have:(decide (gr.P≤2000000000)&&prB gr.P)=true:=by
      rw[zjx,zd7 (show 0≤gr.P by omega),zfk]
      exact⟨by simp;omega,hk.pp⟩
     rw[this]at h;cases h
    refine zab (zfs fun hk=>?_).symm
    have:=hk.g
    simp at h;omega
   refine zab (zfs fun hk=>?_).symm
   rw[hk.d]at h;cases h
  refine zab (zfs fun hk=>?_).symm
  have:=hk.q
  simp at h;omega
 refine zab (zfs fun hk=>?_).symm
 have:=hk.p
 simp at h;omega
theorem zfV (gr:Group):zcQ gr=some (okG gr):=by
 unfold zcQ
 refine zaw (zae (ψ:=fun b=>b=okG gr) ?_ fun b hb=>zab hb)
 refine zaa (zf2 _ _ _) (zam (fun h=>?_) fun h=>?_)
 ·have hp:3≤gr.P∧gr.P≤2000000000:=by simpa using h
  rw[zap (n:=gr.P-1) (by omega) (by omega)]
  refine zaa (zf2 _ _ _) (zam (fun h=>?_) fun h=>?_)
  ·have hq:2≤gr.Q∧gr.Q≤gr.P-1:=by simpa using h
   have ed:(gr.P-1).tmod gr.Q=(((gr.P.toNat-1)%gr.Q.toNat:Nat):Int):=by
    rw[zd7 (show 0≤gr.P-1 by omega),zd7 (show 0≤gr.Q by omega),zc5]
    simp only[Int.toNat_natCast]
    congr 2;omega
   refine zau (by omega) ?_
   rw[ed]
   refine zam (fun h=>?_) fun h=>?_
   ·have hd:(gr.P.toNat-1)%gr.Q.toNat=0:=by
     have:(((gr.P.toNat-1)%gr.Q.toNat:Nat):Int)=0:=by simpa using h
     omega
    refine zaa (zf2 _ _ _) (zam (fun h=>?_) fun h=>?_)
    ·have hg:2≤gr.G∧gr.G≤gr.P-1:=by simpa using h
     refine zaa (zfi (a:=gr.G) (e:=gr.Q) (m:=gr.P) (by omega) (by omega) (by omega) (by omega) (by omega) (by omega)).2 (zam (fun h=>?_) fun h=>?_)
     ·have ho:gr.G.toNat^gr.Q.toNat%gr.P.toNat=1:=by
       have:((gr.G.toNat^gr.Q.toNat%gr.P.toNat:Nat):Int)=1:=by simpa using h
       omega
      refine zaa (zhD _ (by omega)) (zam (fun h=>?_) fun h=>?_)
      ·have hpq:Pr gr.Q.toNat:=by
        rw[zd7 (show 0≤gr.Q by omega),zfk]at h
        exact h
       refine zaa (zhD _ (by omega)) (zab (zu8 (fun h=>⟨hp,hq,hd,hg,?_,hpq,ho⟩) fun h=>?_))
       ·rw[zd7 (show 0≤gr.P by omega),zfk]at h
        exact h
       rw[zd7 (show 0≤gr.P by omega),zfk]
       exact h.pp
      refine zab (zfs fun hk=>?_).symm
      have:prB gr.Q=true:=by
       rw[zd7 (show 0≤gr.Q by omega),zfk]
       exact hk.pq
      rw[this]at h;cases h
     refine zab (zfs fun hk=>?_).symm
     rw[hk.o]at h;cases h
    refine zab (zfs fun hk=>?_).symm
    have:=hk.g
    simp at h;omega
   refine zab (zfs fun hk=>?_).symm
   rw[hk.d]at h;cases h
  refine zab (zfs fun hk=>?_).symm
  have:=hk.q
  simp at h;omega
 refine zab (zfs fun hk=>?_).symm
 have:=hk.p
 simp at h;omega
def zal (gr:Group) (x:Int):Bool:=decide (1≤x)&&decide (x≤gr.P-1)&&decide (x.toNat^gr.Q.toNat%gr.P.toNat=1)
def zdV (gr:Group) (x:Int):Bool:=decide (0≤x)&&decide (x≤gr.Q-1)
theorem zoY {gr:Group}(k:OkG gr) (x:Int):zcM gr x=some (zal gr x):=by
 have hp:=k.p
 have hq:=k.q
 unfold zcM zal
 rw[zap (n:=gr.P-1) (by omega) (by omega),zfT]
 refine zaw (zae (ψ:=fun b=>b=_) ?_ fun b hb=>zab hb)
 refine zaa rfl (zam (fun h=>?_) fun h=>?_)
 ·have hx:1≤x∧x≤gr.P-1:=by simpa using h
  refine zaa (zfi (a:=x) (e:=gr.Q) (m:=gr.P) (by omega) (by omega) (by omega) (by omega) (by omega) (by omega)).1 (zab ?_)
  rw[h,Bool.true_and]
  by_cases h1:x.toNat^gr.Q.toNat%gr.P.toNat=1
  ·simp[h1]
  have:¬((x.toNat^gr.Q.toNat%gr.P.toNat:Nat):Int)=1:=by omega
  rw[beq_false_of_ne this,decide_eq_false h1]
 rw[h];exact zab rfl
theorem zwE {gr:Group}(k:OkG gr) (l:List Int):zfS gr l=some (l.all (zal gr)):=by
 have hp:=k.p
 have hq:=k.q
 unfold zfS
 rw[zap (n:=gr.P-1) (by omega) (by omega)]
 refine zaw (zae (ψ:=fun b=>(b=.inl ()∧l.all (zal gr)=true)∨(b=.inr false∧l.all (zal gr)=false)) (zbb (fun i s=>(l.take i).all (zal gr)=true) rfl ?_ ?_) ?_)
 ·rintro i s hi hI
  refine zaQ hi (zae (ψ:=fun b=>b= !zal gr l[i]) ?_ ?_)
  ·refine zaa (zf2 _ _ _) (zam (fun h=>zab ?_) fun h=>?_)
   ·have h:(decide (1≤l[i])&&decide (l[i]≤gr.P-1))=false:=by rwa [Bool.not_eq_true']at h
    simp[zal,h]
   have h:(decide (1≤l[i])&&decide (l[i]≤gr.P-1))=true:=by simpa using h
   have hx:1≤l[i]∧l[i]≤gr.P-1:=by simpa using h
   refine zaa (zfi (a:=l[i]) (e:=gr.Q) (m:=gr.P) (by omega) (by omega) (by omega) (by omega) (by omega) (by omega)).2 (zab ?_)
   simp only[zal,h,Bool.true_and]
   by_cases h1:l[i].toNat^gr.Q.toNat%gr.P.toNat=1
   ·simp[h1]
   have:¬((l[i].toNat^gr.Q.toNat%gr.P.toNat:Nat):Int)=1:=by omega
   simp only[bne,beq_false_of_ne this,decide_eq_false h1]
  rintro b rfl
  refine zam (fun h=>zab (.inr ⟨rfl,?_⟩)) fun h=>zab ?_
  ·have h:zal gr l[i]=false:=by simpa using h
   rw[List.all_eq_false]
   exact⟨l[i],List.getElem_mem hi,by simp[h]⟩
  have h:zal gr l[i]=true:=by simpa using h
  show(l.take (i+1)).all (zal gr)=true
  rw[List.take_succ_eq_append_getElem hi,List.all_append,hI]
  simp[h]
 ·rintro s hI
  rw[List.take_length]at hI
  exact .inl ⟨rfl,hI⟩
 rintro b (⟨rfl,h⟩|⟨rfl,h⟩)
 ·exact zab h.symm
 exact zab h.symm
theorem zn7 (l:List Int) (a b:Int):zfI l a b=some (l.all fun x=>decide (a≤x)&&decide (x≤b)):=by
 unfold zfI
 refine zaw (zae (ψ:=fun c=>(c=.inl ()∧(l.all fun x=>decide (a≤x)&&decide (x≤b))=true)∨(c=.inr false∧(l.all fun x=>decide (a≤x)&&decide (x≤b))=false)) (zbb (fun i s=>((l.take i).all fun x=>decide (a≤x)&&decide (x≤b))=true) rfl ?_ ?_) ?_)
 ·rintro i s hi hI
  refine zaQ hi (zaa (zf2 _ _ _) (zam (fun h=>zab (.inr ⟨rfl,?_⟩)) fun h=>zab ?_))
  ·rw[List.all_eq_false]
   exact⟨l[i],List.getElem_mem hi,by rw[Bool.not_eq_true']at h;rw[h];simp⟩
  show((l.take (i+1)).all fun x=>decide (a≤x)&&decide (x≤b))=true
  rw[List.take_succ_eq_append_getElem hi,List.all_append,hI]
  simpa using h
 ·rintro s hI
  rw[List.take_length]at hI
  exact .inl ⟨rfl,hI⟩
 rintro c (⟨rfl,h⟩|⟨rfl,h⟩)
 ·exact zab h.symm
 exact zab h.symm
theorem zl3 {gr:Group}(h:0≤gr.Q) (h2:gr.Q≤2000000000) (l:List Int):zeU gr l=some (l.all (zdV gr)):=by
 unfold zeU
 rw[zap (by omega) (by omega),zn7];rfl
theorem zr7 {gr:Group}(h:0≤gr.Q) (h2:gr.Q≤2000000000) (x:Int):zdA gr x=some (zdV gr x):=by
 unfold zdA
 rw[zap (by omega) (by omega),zfT];rfl
def zah (gr:Group) (x e:Int):Int:=((x.toNat^(e%gr.Q).toNat%gr.P.toNat:Nat):Int)
theorem zeJ {gr:Group}(k:OkG gr) (x e:Int):0≤zah gr x e∧zah gr x e≤gr.P-1:=by
 have hp:=k.p
 unfold zah
 have:=Nat.mod_lt (x.toNat^(e%gr.Q).toNat) (y:=gr.P.toNat) (by omega)
 omega
theorem zhW {gr:Group}(k:OkG gr) {x:Int}(h0:0≤x) (h1:x≤2000000000) (e:Int):zag gr x e=some (zah gr x e)∧zbJ gr x e=some (zah gr x e):=by
 have hp:=k.p
 have hq:=k.q
 have b1:0≤e%gr.Q:=Int.emod_nonneg _ (by omega)
 have b2:e%gr.Q<gr.Q:=Int.emod_lt_of_pos _ (by omega)
 have hw:=zfi (a:=x) (e:=e%gr.Q) (m:=gr.P) (by omega) (by omega) (by omega) (by omega) b1 (by omega)
 unfold zag zbJ
 rw[zsy (by omega) (by omega),znI (by omega) (by omega),Option.bind_some,Option.bind_some,hw.1,hw.2]
 exact⟨rfl,rfl⟩
theorem zy2 {gr:Group}(k:OkG gr) {x:Int}(h0:0≤x) (h1:x≤2000000000) (e:Int):zbJ gr x e=some (zah gr x e):=by
 have hp:=k.p
 have hq:=k.q
 have b1:0≤e%gr.Q:=Int.emod_nonneg _ (by omega)
 have b2:e%gr.Q<gr.Q:=Int.emod_lt_of_pos _ (by omega)
 have hw:=zfi (a:=x) (e:=e%gr.Q) (m:=gr.P) (by omega) (by omega) (by omega) (by omega) b1 (by omega)
 unfold zbJ
 rw[znI (by omega) (by omega),Option.bind_some,hw.2]
 rfl
def zao (gr:Group) (l:List Int):Int:=l.foldl (fun o x=>o*x%gr.P) 1
theorem zpX {gr:Group}(h:1≤gr.P):∀(l:List Int) (o:Int),0≤o→o≤gr.P→(∀x∈l,0≤x)→0≤l.foldl (fun o x=>o*x%gr.P) o∧l.foldl (fun o x=>o*x%gr.P) o≤gr.P:=by
 intro l
 induction l with
 |nil=>intro o h0 h1 _;exact⟨h0,h1⟩
 |cons x l ih=>
  intro o h0 h1 h2
  exact ih _ (Int.emod_nonneg _ (by omega)) (Int.le_of_lt (Int.emod_lt_of_pos (o*x) (show 0<gr.P by omega))) fun y hy=>h2 y (List.mem_cons_of_mem _ hy)
theorem zzI (gr:Group) (l:List Int):zcR gr l=zai gr l:=rfl
theorem ziz {gr:Group}(k:OkG gr) {l:List Int}(hl:∀x∈l,0≤x∧x≤2000000000):zai gr l=some (zao gr l):=by
 have hp:=k.p
 unfold zai
 refine zaw (zae (ψ:=fun b=>b=zao gr l) (zbb (fun i s=>s=(l.take i).foldl (fun o x=>o*x%gr.P) 1) rfl ?_ ?_) fun b hb=>zab hb)
 ·rintro i s hi rfl
  have hb:=zpX (gr:=gr) (by omega) (l.take i) 1 (by omega) (by omega) fun x hx=>(hl x (List.mem_of_mem_take hx)).1
  have hx:=hl l[i] (List.getElem_mem hi)
  refine zaQ hi (zau (by omega) (zab ?_))
  show _=(l.take (i+1)).foldl _ _
  rw[List.take_succ_eq_append_getElem hi,List.foldl_append]
  generalize (l.take i).foldl (fun o x=>o*x%gr.P) 1=o at hb⊢
  have b1:0≤o*l[i]:=Int.mul_nonneg hb.1 hx.1
  have b2:o*l[i]≤2000000000*2000000000:=Int.mul_le_mul (by omega) hx.2 hx.1 (by omega)
  show(IntKind.i64.wrap (o*l[i])).tmod gr.P=o*l[i]%gr.P
  rw[zap (by omega) (by omega),Int.tmod_eq_emod_of_nonneg b1]
 rintro s rfl
 rw[List.take_length];rfl
theorem zlD {gr:Group}(k:OkG gr) {l:List Int}(hl:∀x∈l,0≤x∧x≤2000000000):zcR gr l=some (zao gr l):=by rw[zzI];exact ziz k hl
theorem zse {gr:Group}(k:OkG gr) {l:List Int}(hl:∀x∈l,0≤x∧x≤2000000000):0≤zao gr l∧zao gr l≤gr.P:=by
 have hp:=k.p
 exact zpX (by omega) l 1 (by omega) (by omega) fun x hx=>(hl x hx).1
theorem zg2 {gr:Group}(k:OkG gr) (l:List Int):zbn gr l=some (l.all (zal gr)):=by
 unfold zbn zcG zaZ za5
 refine zaw (zae (ψ:=fun b=>b=l.all (zal gr)) (zae (ψ:=fun b=>b= !l.all (zal gr)) (zae (ψ:=fun j=>(j=-1∧l.all (zal gr)=true)∨(0≤j∧l.all (zal gr)=false)) (zae (ψ:=fun b=>(b=.inl ()∧l.all (zal gr)=true)∨(∃j,b=.inr j∧0≤j∧l.all (zal gr)=false)) (zbb (fun i s=>(l.take i).all (zal gr)=true) rfl ?_ ?_) ?_) ?_) ?_) ?_)
 ·rintro i s hi hI
  have hc:zbX l[i] gr=some (!zal gr l[i]):=by
   unfold zbX
   rw[zoY k];rfl
  refine zaQ hi (zaa hc (zam (fun h=>zab (.inr ⟨i,rfl,by omega,?_⟩)) fun h=>zab ?_))
  ·rw[List.all_eq_false]
   exact⟨l[i],List.getElem_mem hi,by rw[Bool.not_eq_true']at h;rw[h];simp⟩
  show(l.take (i+1)).all (zal gr)=true
  rw[List.take_succ_eq_append_getElem hi,List.all_append,hI]
  simpa using h
 ·rintro s hI
  rw[List.take_length]at hI
  exact .inl ⟨rfl,hI⟩
 ·rintro b (⟨rfl,h⟩|⟨j,rfl,h0,h⟩)
  ·exact zab (.inl ⟨rfl,h⟩)
  exact zab (.inr ⟨h0,h⟩)
 ·rintro j (⟨rfl,h⟩|⟨h0,h⟩)
  ·exact zab (by rw[h];rfl)
  exact zab (by rw[h];simpa using h0)
 ·rintro b rfl
  exact zab (by simp)
 rintro b rfl
 exact zab rfl
theorem ze7 {gr:Group}{x:Int}(h:zal gr x=true):1≤x∧x≤gr.P-1:=by
 simp only[zal,Bool.and_eq_true,decide_eq_true_eq]at h
 exact h.1
theorem zov {gr:Group}(k:OkG gr) {y m:Int}(hy:zal gr y=true) (hm:zal gr m=true) (r:Int):
 zdH gr y m r=some (Cipher.mk (zah gr gr.G r) (zao gr [m,zah gr y r]))∧zf9 gr y m r=some (Cipher.mk (zah gr gr.G r) (zao gr [m,zah gr y r])):=by
 have hp:=k.p
 have hg:=k.g
 have b1:=ze7 hy
 have b2:=ze7 hm
 have e1:=zhW k (x:=gr.G) (by omega) (by omega) r
 have e2:=zhW k (x:=y) (by omega) (by omega) r
 have hl:∀x∈[m,zah gr y r],0≤x∧x≤2000000000:=fun x hx=>by
  simp only[List.mem_cons,List.not_mem_nil,or_false]at hx
  rcases hx with rfl|rfl
  ·omega
  ·have:=zeJ k y r;omega
 unfold zdH zf9
 rw[e1.1,e1.2,Option.bind_some,Option.bind_some,e2.1,e2.2,Option.bind_some,Option.bind_some,ziz k hl,zlD k hl]
 exact⟨rfl,rfl⟩
theorem zsE {α:Type}(b:Bool) (u v:α):(if b=true then some u else some v)=some (if(!b)=true then v else u):=by cases b<;>rfl
theorem zC1 {α:Type}(b:Bool) (u v:α):(if(!b)=true then some u else some v)=some (if b=true then v else u):=by cases b<;>rfl
theorem zl4 {β:Type}{body:Int→Unit→Option (Stp Unit (Unit ⊕ β))}(m:Nat) (p:Nat→Bool) (val:Nat→β) (h:∀k,k<m→body (k:Int) ()=some (if p k=true then .go ()else .out (.inr (val k)))):
 (zaq body (fun _=>.inl ()) m 0 ()=some (.inl ())∧∀k,k<m→p k=true)∨∃k,k<m∧p k=false∧(∀j,j<k→p j=true)∧zaq body (fun _=>.inl ()) m 0 ()=some (.inr (val k)):=by
 have key:Rn (zaq body (fun _=>Sum.inl ()) m 0 ()) (fun b=>(b=.inl ()∧∀k,k<m→p k=true)∨∃k,k<m∧p k=false∧(∀j,j<k→p j=true)∧b=.inr (val k)):=by
  refine zbb (fun k _=>∀j,j<k→p j=true) (fun j hj=>by omega) ?_ fun s hs=>.inl ⟨rfl,hs⟩
  intro k s hk hI
  refine⟨_,h k hk,?_⟩
  cases hp:p k with
  |true=>
   intro j hj
   rcases Nat.lt_or_ge j k with h|h
   ·exact hI j h
   ·have:j=k:=by omega
    rw[this];exact hp
  |false=>exact .inr ⟨k,hk,hp,hI,rfl⟩
 obtain⟨b,e,h1|⟨k,h1,h2,h3,h4⟩⟩:=key
 ·exact .inl ⟨by rw[e,h1.1],h1.2⟩
 exact .inr ⟨k,h1,h2,h3,by rw[e,h4]⟩
theorem zwJ {α:Type}(l:List α) (p:α→Bool) (c:Bool) {body:Int→Unit→Option (Stp Unit (Unit ⊕ Bool))}(h:∀k (hk:k<l.length),body (k:Int) ()=some (if p l[k]=true then .go ()else .out (.inr c))):
 (zaq body (fun _=>.inl ()) l.length 0 ()).bind (Sum.elim (fun _=>some (!c)) some)=some (if l.all p=true then !c else c):=by
 rcases zl4 (body:=body) l.length (fun k=>(l[k]?).any p) (fun _=>c) (fun k hk=>by rw[h k hk,List.getElem?_eq_getElem hk];rfl)with⟨e,h1⟩|⟨k,h1,h2,h3,e⟩
 ·rw[e]
  have:l.all p=true:=by
   rw[List.all_eq_true]
   intro x hx
   obtain⟨k,hk,rfl⟩:=List.mem_iff_getElem.1 hx
   have:=h1 k hk
   rw[List.getElem?_eq_getElem hk]at this
   exact this
  rw[this];rfl
 rw[e]
 have:l.all p=false:=by
  rw[List.all_eq_false]
  refine⟨l[k],List.getElem_mem h1,?_⟩
  rw[List.getElem?_eq_getElem h1]at h2
  simpa using h2
 rw[this];rfl
theorem zsc (l:List Int) (x:Int):zgr l x=some (l.contains x):=by
 unfold zgr
 have:=zwJ l (fun y=> !(y==x)) true (body:=fun i8 s7=>(ix l i8).bind fun x17=>if(x17==x)=true then some (.out (.inr true))else some (.go ())) fun k hk=>by
  rw[zed hk,Option.bind_some]
  exact zsE _ _ _
 rw[show(!true)=false from rfl]at this
 refine this.trans ?_
 congr 1
 cases hc:l.contains x with
 |true=>
  have hm:x∈l:=by simpa using hc
  have:(l.all fun y=> !(y==x))=false:=by
   rw[List.all_eq_false]
   exact⟨x,hm,by simp⟩
  rw[this];rfl
 |false=>
  have hm:¬x∈l:=by simpa using hc
  have:(l.all fun y=> !(y==x))=true:=by
   rw[List.all_eq_true]
   intro y hy
   have:y≠x:=fun e=>hm (e▸hy)
   simp[this]
  rw[this];rfl
theorem zx9 (l:List Int) (x:Int):(zcs l x=some (-1)∧¬x∈l)∨∃k,∃h:k<l.length,zcs l x=some (k:Int)∧l[k]=x∧∀j (hj:j<k),l[j]'(by omega)≠x:=by
 unfold zcs
 rcases zl4 l.length (fun k=>(l[k]?).any fun y=> !(x==y)) (fun k=>(k:Int)) (body:=fun i8 s7=>(ix l i8).bind fun x17=>if(x==x17)=true then some (.out (.inr i8))else some (.go ())) (fun k hk=>by
  rw[zed hk,Option.bind_some,List.getElem?_eq_getElem hk]
  exact zsE _ _ _)with⟨e,h1⟩|⟨k,h1,h2,h3,e⟩
 ·refine .inl ⟨by rw[e];rfl,fun hx=>?_⟩
  obtain⟨k,hk,rfl⟩:=List.mem_iff_getElem.1 hx
  have:=h1 k hk
  rw[List.getElem?_eq_getElem hk]at this
  simp at this
 refine .inr ⟨k,h1,by rw[e];rfl,?_,fun j hj=>?_⟩
 ·rw[List.getElem?_eq_getElem h1]at h2
  simp at h2
  exact h2.symm
 have:=h3 j hj
 rw[List.getElem?_eq_getElem (by omega)]at this
 simp at this
 exact fun e=>this e.symm
theorem zns (l:List Int) (x:Int):zcA l x=some (l.contains x):=by
 unfold zcA
 rcases zx9 l x with⟨e,h⟩|⟨k,hk,e,h,_⟩
 ·rw[e]
  have:l.contains x=false:=by simpa using h
  rw[this];rfl
 rw[e]
 have:l.contains x=true:=by
  have:=List.getElem_mem hk
  rw[h]at this
  simpa using this
 rw[this]
 simp
theorem zxl (l:List Int):zds l=zdb l:=by
 unfold zds zdb
 simp only[zsc,zns]
open Classical in
def zif (l:List Int):Bool:=decide l.Nodup
theorem zvX {C:List Int→Int→Option Bool}(hC:∀l x,C l x=some (l.contains x)) (l:List Int) (hl:l.length≤1000000000000):
 ((zaq (σ:=Unit) (fun i5 s4=>
 (ix l i5).bind fun x11=>
 gd (0≤i5)<|
 gd (0≤i5.toNat∧i5.toNat≤l.length)<|
 (C ((l.take i5.toNat).drop 0) x11).bind fun z12=>
 if z12=true then(
 some (.out (.inr false)))else(
 some (.go ()))) (fun s4=>.inl ()) (l.length) 0 ():Option (Unit ⊕ Bool)).bind (Sum.elim (fun x3=>
 some true) some))=some (zif l):=by
 rcases zl4 l.length (fun k=>(l[k]?).any fun y=> !(l.take k).contains y) (fun _=>false) (body:=fun i8 s7=>
  (ix l i8).bind fun x17=>
  gd (0≤i8)<|
  gd (0≤i8.toNat∧i8.toNat≤l.length)<|
  (C ((l.take i8.toNat).drop 0) x17).bind fun z26=>
  if z26=true then(
  some (.out (.inr false)))else(
  some (.go ()))) (fun k hk=>by
   rw[zed hk,Option.bind_some,zdJ (by omega),zdJ (by simp;omega),hC,List.getElem?_eq_getElem hk,Option.bind_some,Int.toNat_natCast,List.drop_zero]
   exact zsE _ _ _)with⟨e,h1⟩|⟨k,h1,h2,h3,e⟩
 ·rw[e]
  have:zif l=true:=by
   unfold zif
   rw[decide_eq_true_eq,List.nodup_iff_pairwise_ne,List.pairwise_iff_getElem]
   intro i j hi hj hij e
   have:=h1 j hj
   rw[List.getElem?_eq_getElem hj]at this
   have hm:l[j]∈l.take j:=by
    rw[←e]
    exact List.mem_iff_getElem.2 ⟨i,by simp;omega,by simp⟩
   have hc:(l.take j).contains l[j]=true:=by simpa using hm
   simp only[Option.any_some,hc]at this
   cases this
  rw[this];rfl
 rw[e]
 have:zif l=false:=by
  unfold zif
  rw[decide_eq_false_iff_not,List.nodup_iff_pairwise_ne,List.pairwise_iff_getElem]
  intro hd
  rw[List.getElem?_eq_getElem h1]at h2
  have hc:(l.take k).contains l[k]=true:=by simpa using h2
  have hm:l[k]∈l.take k:=by simpa using hc
  obtain⟨i,hi,e⟩:=List.mem_iff_getElem.1 hm
  simp at hi e
  exact hd i k (by omega) h1 (by omega) e
 rw[this];rfl
theorem ztM (l:List Int) (hl:l.length≤1000000000000):zdb l=some (zif l):=zvX zns l hl
theorem zuo (l:List Int) (hl:l.length≤1000000000000):zds l=some (zif l):=by rw[zxl,ztM l hl]
theorem zkh {l:List Int}{p:Int→Bool}{f:Int→Option Bool}(hf:∀x∈l,f x=some (!p x)):
 ((((zaq (σ:=Unit) (β:=Unit ⊕ Int) (fun i8 s7=>(ix l i8).bind fun x17=>(f x17).bind fun z20=>if z20=true then(some (.out (.inr i8)))else(some (.go ()))) (fun s7=>.inl ()) (l.length) 0 ():Option (Unit ⊕ Int)).bind (Sum.elim (fun(x5:Unit)=>some (-1)) some)).bind fun z1=>some (decide (0≤z1))).bind fun z1=>some (!z1))=some (l.all p):=by
 rcases zl4 l.length (fun k=>(l[k]?).any p) (fun k=>(k:Int)) (body:=fun i8 s7=>(ix l i8).bind fun x17=>(f x17).bind fun z20=>if z20=true then(some (.out (.inr i8)))else(some (.go ()))) (fun k hk=>by
  rw[zed hk,Option.bind_some,hf _ (List.getElem_mem hk),Option.bind_some,List.getElem?_eq_getElem hk]
  exact zC1 _ _ _)with⟨e,h1⟩|⟨k,h1,h2,h3,e⟩
 ·rw[e]
  have:l.all p=true:=by
   rw[List.all_eq_true]
   intro x hx
   obtain⟨k,hk,rfl⟩:=List.mem_iff_getElem.1 hx
   have:=h1 k hk
   rw[List.getElem?_eq_getElem hk]at this
   exact this
  rw[this];rfl
 rw[e]
 have:l.all p=false:=by
  rw[List.all_eq_false]
  refine⟨l[k],List.getElem_mem h1,?_⟩
  rw[List.getElem?_eq_getElem h1]at h2
  simpa using h2
 rw[this]
 simp
def dg (q:Nat):Nat→Nat→List Int
 |0,_=>[]
 |k+1,n=>((n%q:Nat):Int)::dg q k (n/q)
theorem zzQ {q a b c d:Int}(h:a%q=b%q) (h':c%q=d%q):(a+c)%q=(b+d)%q:=by rw[Int.add_emod,h,h',←Int.add_emod]
theorem zqP {gr:Group}(k:OkG gr) (c:Cipher):zdc gr c=some (zal gr c.A&&zal gr c.B):=by
 unfold zdc
 rw[zoY k,zoY k]
 cases zal gr c.A<;>simp
theorem zuD {gr:Group}(k:OkG gr) (m:Int):zfS gr [m]=some (zal gr m):=by
 rw[zwE k];simp
theorem zh3 {gr:Group}(h:0≤gr.Q) (h2:gr.Q≤2000000000) (l:List Int):zbH gr l=some (l.all (zdV gr)):=by
 have h1:zco l gr=some (l.all (zdV gr)):=zkh (f:=fun x=>zbK x gr) fun x _=>by
  unfold zbK
  rw[zr7 h h2];rfl
 unfold zbH
 rw[h1];rfl
theorem zj8 {a n p e:Nat}(h:a^n%p=1):a^(e%n)%p=a^e%p:=by
 have hp:1%p=1:=by rw[←h,Nat.mod_mod]
 conv=>rhs;rw[←Nat.div_add_mod e n]
 rw[Nat.pow_add,Nat.pow_mul,Nat.mul_mod,Nat.pow_mod (a^n),h,Nat.one_pow,hp,Nat.one_mul,Nat.mod_mod]
theorem ziI {gr:Group}{x:Int}(h:zal gr x=true):1≤x∧x≤gr.P-1∧x.toNat^gr.Q.toNat%gr.P.toNat=1:=by
 unfold zal at h
 simp only[Bool.and_eq_true,decide_eq_true_eq]at h
 exact⟨h.1.1,h.1.2,h.2⟩
theorem zqj {gr:Group}(k:OkG gr) {x:Int}(h:zal gr x=true) {s l:Int}(hs:0≤s) (hl:0≤l):zah gr (zah gr x s) l=zah gr x (s*l):=by
 obtain⟨_,_,h3⟩:=ziI h
 have hq:=k.q
 obtain⟨a,rfl⟩:=Int.eq_ofNat_of_zero_le hs
 obtain⟨b,rfl⟩:=Int.eq_ofNat_of_zero_le hl
 obtain⟨n,hn⟩:=Int.eq_ofNat_of_zero_le (show 0≤gr.Q by omega)
 unfold zah
 rw[hn]at h3⊢
 rw[Int.toNat_natCast]at h3
 have e:∀c:Nat,((c:Int)%(n:Int)).toNat=c%n:=fun c=>by rw[←Int.natCast_emod,Int.toNat_natCast]
 rw[zgm,e,e,e,Int.toNat_natCast,zj8 h3,zj8 h3,←Nat.pow_mod,←Nat.pow_mul]
 congr 1
 rw[Nat.pow_mul,Nat.pow_mod,zj8 (n:=n) (e:=b)]
 ·rw[←Nat.pow_mod,←Nat.pow_mul]
 rw[←Nat.pow_mod,←Nat.pow_mul,Nat.mul_comm,Nat.pow_mul,Nat.pow_mod,h3,Nat.one_pow,←h3,Nat.mod_mod]
theorem zAb {gr:Group}(k:OkG gr) {x:Int}(h0:0≤x) (h1:x≤2000000000):zgK gr x=some (zah gr x (-1)):=by
 have hq:=k.q
 have hp:=k.p
 have e:(-1:Int)%gr.Q=gr.Q-1:=by
  have:=Int.add_mul_emod_self_left (-1) gr.Q 1
  rw[←this,Int.mul_one]
  rw[Int.emod_eq_of_lt (by omega) (by omega)];omega
 unfold zgK
 rw[zap (by omega) (by omega),(zfi h0 h1 (by omega) hp.2 (by omega) (by omega)).2]
 unfold zah
 rw[e];rfl
theorem zpA {gr:Group}(k:OkG gr) {b x:Int}(hb:0≤b) (hb2:b≤2000000000) (h0:0≤x) (h1:x≤2000000000):zc3 gr b x=some (zao gr [b,zah gr x (-1)]):=by
 have hp:=k.p
 obtain⟨p1,p2⟩:=zeJ k x (-1)
 unfold zc3 zd5
 rw[(zhW k h0 h1 _).1]
 simp only[Option.bind_some]
 rw[ziz k];rfl
 intro y hy
 simp only[List.mem_cons,List.not_mem_nil,or_false]at hy
 rcases hy with rfl|rfl<;>omega
structure Bt (code:List Int):Prop where
 b:∀x∈code,0≤x∧x≤255
 l:code.length≤1048576
structure Cu (code:List Int) (n:Int) (c:List Int×Int×Int):Prop where
 e:c.1=code
 lo:0≤c.2.1
 hi:c.2.1≤n
theorem Cu.mono {code:List Int}{n m:Int}{c:List Int×Int×Int}(h:Cu code n c) (hn:n≤m):Cu code m c:=⟨h.e,h.lo,Int.le_trans h.hi hn⟩
theorem zz9 (x:BitVec IntKind.u64.bits):0≤IntKind.i64.wrap (IntKind.u64.wrap ((x&&&BitVec.ofInt IntKind.u64.bits 255).toNat:Int))∧IntKind.i64.wrap (IntKind.u64.wrap ((x&&&BitVec.ofInt IntKind.u64.bits 255).toNat:Int))≤255:=by
 have hy:(x&&&BitVec.ofInt IntKind.u64.bits 255).toNat≤255:=by
  rw[BitVec.toNat_and]
  exact Nat.le_trans Nat.and_le_right (by decide)
 generalize (x&&&BitVec.ofInt IntKind.u64.bits 255).toNat=y at hy⊢
 rw[wrU (by omega) (by omega),zap (by omega) (by omega)]
 omega
theorem zuN {code c0:List Int}{at_ seed n:Int}(hb:Bt code) (h:Cu code n (c0,at_,seed)) (hn:n≤9000000000000000):Rn (zcp c0 at_ seed) (fun z=>0≤z.1∧z.1≤255∧Cu code (n+1) z.2):=by
 obtain⟨h1,h2,h3⟩:=h
 have h1:c0=code:=h1
 have h2:0≤at_:=h2
 have h3:at_≤n:=h3
 subst h1
 have hw:IntKind.i64.wrap (at_+1)=at_+1:=zap (by omega) (by omega)
 unfold zcp
 refine zae (ψ:=fun v=>0≤v∧v≤255) ?_ fun v hv=>?_
 ·refine zam (fun g=>?_) fun g=>zab (by omega)
  obtain⟨k,rfl⟩:=Int.eq_ofNat_of_zero_le h2
  have hk:k<c0.length:=by simp at g;omega
  have:=hb.b _ (List.getElem_mem hk)
  exact zaQ hk (zab (by rw[zap (by omega) (by omega)];exact this))
 simp only[hw]
 refine zam (fun g=>zab ⟨hv.1,hv.2,rfl,by show 0≤at_+1;omega,by show at_+1≤n+1;omega⟩) fun g=>zab ?_
 exact⟨(zz9 _).1,(zz9 _).2,rfl,by show 0≤at_+1;omega,by show at_+1≤n+1;omega⟩
theorem zeh {code c0:List Int}{at_ seed n m:Int}(hb:Bt code) (h:Cu code n (c0,at_,seed)) (hn:n≤8000000000000000):Rn (zat c0 at_ seed m) (fun z=>0≤z.1∧(m≤1→z.1=0)∧(1<m→z.1<m)∧z.1≤65535∧Cu code (n+2) z.2):=by
 unfold zat
 refine zam (fun g=>zab ⟨Int.le_refl 0,fun _=>rfl,fun h=>by simp at g;omega,by show(0:Int)≤_;omega,h.mono (by omega)⟩) fun g=>?_
 have g:1<m:=by simpa using g
 refine zae (zuN hb h (by omega)) fun z ⟨z1,z2,z3⟩=>?_
 refine zae (ψ:=fun x=>0≤x.2∧x.2≤65535∧Cu code (n+2) x.1) ?_ fun x ⟨x1,x2,x3⟩=>?_
 ·refine zam (fun _=>zae (zuN hb z3 (by omega)) fun y ⟨y1,y2,y3⟩=>zab ?_) fun _=>zab ⟨z1,by show z.1≤_;omega,z3.mono (by omega)⟩
  rw[zap (n:=z.1*256) (by omega) (by omega),zap (by omega) (by omega)]
  exact⟨by show 0≤z.1*256+y.1;omega,by show z.1*256+y.1≤_;omega,y3.mono (by omega)⟩
 refine zau (by omega) (zab ?_)
 rw[Int.tmod_eq_emod_of_nonneg x1]
 have b1:=Int.emod_nonneg x.2 (show m≠0 by omega)
 have b2:=Int.emod_lt_of_pos x.2 (show 0<m by omega)
 have b3:x.2%m≤x.2:=by
  rcases Int.lt_or_le x.2 m with h|h
  ·rw[Int.emod_eq_of_lt x1 h];exact Int.le_refl _
  ·omega
 exact⟨b1,fun h=>by omega,fun _=>b2,by show x.2%m≤_;omega,x3⟩
theorem zne {code c0:List Int}{at_ seed n m:Int}(hb:Bt code) (h:Cu code n (c0,at_,seed)) (hn:n≤8000000000000000):Rn (zby c0 at_ seed m) (fun z=>Cu code (n+2) z.2):=by
 unfold zby
 exact zae (zeh hb h hn) fun z hz=>zab hz.2.2.2.2
theorem zdO {code c0:List Int}{at_ seed n:Int}{l:List Int}(hb:Bt code) (h:Cu code n (c0,at_,seed)) (hn:n≤8000000000000000) (hl:l≠[]):Rn (zaF c0 at_ seed l) (fun z=>z.1∈l∧Cu code (n+2) z.2):=by
 unfold zaF
 refine zae (zeh hb h hn) fun z ⟨z1,z2,z3,z4,z5⟩=>?_
 have h0:0<l.length:=List.length_pos_iff.2 hl
 obtain⟨k,hk⟩:=Int.eq_ofNat_of_zero_le z1
 have hlt:k<l.length:=by
  rcases Nat.lt_or_ge 1 l.length with h|h
  ·have:=z3 (by omega);omega
  ·have:=z2 (by omega);omega
 rw[hk]
 exact zaQ hlt (zab ⟨List.getElem_mem hlt,z5⟩)
theorem zuJ {n d:Nat}(h:Pr n) (hd:d%n≠0):Nat.gcd n d=1:=by
 obtain⟨k,hk⟩:=Nat.gcd_dvd_left n d
 have hn:=h.1
 have h0:0<Nat.gcd n d:=Nat.gcd_pos_of_pos_left d (by omega)
 have hdv:=Nat.gcd_dvd_right n d
 generalize Nat.gcd n d=g at hk h0 hdv
 apply Classical.byContradiction
 intro hg
 have hg2:2≤g:=by omega
 have hk2:2≤k:=by
  rcases Nat.lt_or_ge k 2 with h|h
  ·have:k=0∨k=1:=by omega
   rcases this with rfl|rfl
   ·omega
   ·rw[Nat.mul_one]at hk
    rw[←hk]at hdv
    exact absurd (Nat.mod_eq_zero_of_dvd hdv) hd
  ·exact h
 rcases Nat.le_total g k with h'|h'
 ·exact h.2 g hg2 (by rw[hk];exact Nat.mul_le_mul_left g h') (by rw[hk];exact Nat.mul_mod_right g k)
 exact h.2 k hk2 (by rw[hk];exact Nat.mul_le_mul_right k h') (by rw[hk];exact Nat.mul_mod_left g k)
theorem zjU {n:Nat}(h:Pr n) {a b:Int}(hab:(a*b)%(n:Int)=0):a%(n:Int)=0∨b%(n:Int)=0:=by
 have h1:n∣a.natAbs*b.natAbs:=by
  rw[←Int.natAbs_mul]
  exact Int.ofNat_dvd_left.1 (Int.dvd_of_emod_eq_zero hab)
 by_cases ha:a.natAbs%n=0
 ·exact .inl (Int.emod_eq_zero_of_dvd (Int.ofNat_dvd_left.2 (Nat.dvd_of_mod_eq_zero ha)))
 exact .inr (Int.emod_eq_zero_of_dvd (Int.ofNat_dvd_left.2 (Nat.Coprime.dvd_of_dvd_mul_left (zuJ h ha) h1)))
def evP (f:List Int) (x:Int):Int:=f.foldr (fun c a=>a*x+c) 0
theorem zpS (c:Int) (f:List Int) (x:Int):evP (c::f) x=evP f x*x+c:=rfl
def dvP (r:Int):List Int→List Int
 |[]=>[]
 |[_]=>[]
 |_::c::f=>evP (c::f) r::dvP r (c::f)
theorem zrD (r:Int):∀f:List Int,(dvP r f).length=f.length-1
 |[]=>rfl
 |[_]=>rfl
 |_::c::f=>by
  show(dvP r (c::f)).length+1=_
  rw[zrD r (c::f)];simp
theorem zuW (r x:Int):∀f:List Int,evP f x=evP (dvP r f) x*(x-r)+evP f r
 |[]=>by simp[dvP,evP]
 |[c]=>by simp[dvP,evP]
 |d::c::f=>by
  have ih:=zuW r x (c::f)
  show evP (c::f) x*x+d=(evP (dvP r (c::f)) x*x+evP (c::f) r)*(x-r)+(evP (c::f) r*r+d)
  rw[ih]
  grind
theorem zqC (r:Int):∀f:List Int,2≤f.length→(dvP r f).getLastD 0=f.getLastD 0
 |[],h=>absurd h (by simp)
 |[_],h=>absurd h (by simp)
 |[d,c],_=>by simp[dvP,evP]
 |e::d::c::f,_=>by
  have ih:=zqC r (d::c::f) (by simp)
  show(evP (d::c::f) r::evP (c::f) r::dvP r (c::f)).getLastD 0=_
  have:dvP r (d::c::f)=evP (c::f) r::dvP r (c::f):=rfl
  rw[this]at ih
  simpa[List.getLastD]using ih
theorem zuG {p:Nat}(hp:Pr p):∀(n:Nat) (f:List Int),f.length=n+1→f.getLastD 0%(p:Int)≠0→∀rs:List Int,rs.Pairwise (fun a b=>(b-a)%(p:Int)≠0)→(∀r∈rs,evP f r%(p:Int)=0)→rs.length≤n
 |0,f,hl,hf,rs,hd,hr=>by
  match f,hl with
  |[c],_=>
   cases rs with
   |nil=>simp
   |cons r rs=>
    have:=hr r (List.mem_cons_self ..)
    simp[evP]at this
    exact absurd (by first|exact this|exact Int.emod_eq_zero_of_dvd this) (by simpa[List.getLastD]using hf)
 |n+1,f,hl,hf,rs,hd,hr=>by
  cases rs with
  |nil=>simp
  |cons r rs=>
   have h1:=List.pairwise_cons.1 hd
   have:=zuG hp n (dvP r f) (by rw[zrD];omega) (by rw[zqC r f (by omega)];exact hf) rs h1.2 fun s hs=>by
    have e:=zuW r s f
    have hs0:=hr s (List.mem_cons_of_mem _ hs)
    have hr0:=hr r (List.mem_cons_self ..)
    have hm:(evP (dvP r f) s*(s-r))%(p:Int)=0:=by
     rw[show evP (dvP r f) s*(s-r)=evP f s-evP f r by omega,Int.sub_emod,hs0,hr0];simp
    rcases zjU hp hm with h|h
    ·exact h
    ·exact absurd h (h1.1 s hs)
   simpa using this
theorem zvQ (k:Nat) (x:Int):evP (List.replicate k 0++[1]) x=x^k:=by
 induction k with
 |zero=>simp[evP]
 |succ k ih=>rw[List.replicate_succ,List.cons_append,zpS,ih,Int.pow_succ];omega
theorem zml {p n:Nat}(hp:Pr p) (hn:1≤n) (rs:List Int) (hd:rs.Pairwise (fun a b=>(b-a)%(p:Int)≠0)) (hr:∀r∈rs,r^n%(p:Int)=1):rs.length≤n:=by
 have h2:=hp.1
 have hone:(1:Int)%(p:Int)=1:=Int.emod_eq_of_lt (by omega) (by omega)
 obtain⟨k,rfl⟩:∃k,n=k+1:=⟨n-1,by omega⟩
 refine zuG hp (k+1) (-1::(List.replicate k 0++[1])) (by simp) ?_ rs hd fun r hr'=>?_
 ·have:(-1::(List.replicate k (0:Int)++[1])).getLastD 0=1:=by
   rw[←List.cons_append,List.getLastD_concat]
  rw[this,hone];omega
 rw[zpS,zvQ,←Int.pow_succ,Int.add_emod,hr r hr']
 have:((-1:Int)%(p:Int))=p-1:=by
  have:=Int.add_mul_emod_self_left (-1) (p:Int) 1
  rw[←this,Int.mul_one,Int.emod_eq_of_lt (by omega) (by omega)];omega
 rw[this,show 1+((p:Int)-1)=p by omega,Int.emod_self]
theorem zux {p n:Nat}(hp:Pr p) (hn:1≤n) (hnp:n<p-1):∃h:Nat,2≤h∧h<p∧h^n%p≠1:=by
 apply Classical.byContradiction
 intro hc
 have h2:=hp.1
 have h1:∀h:Nat,1≤h→h<p→h^n%p=1:=fun h a b=>by
  rcases Nat.lt_or_ge h 2 with c|c
  ·have:h=1:=by omega
   subst this
   rw[Nat.one_pow,Nat.mod_eq_of_lt (by omega)]
  ·exact Classical.byContradiction fun d=>hc ⟨h,c,b,d⟩
 have:=zml hp hn ((List.range (p-1)).map fun k=>((k+1:Nat):Int)) ?_ ?_
 ·simp at this;omega
 ·rw[List.pairwise_map]
  refine List.Pairwise.imp_of_mem ?_ List.pairwise_lt_range
  intro a b ha hb hab
  have hb:=List.mem_range.1 hb
  rw[show((b+1:Nat):Int)-((a+1:Nat):Int)=((b-a:Nat):Int)by omega,←Int.natCast_emod,Nat.mod_eq_of_lt (by omega)]
  omega
 intro r hr
 obtain⟨k,hk,rfl⟩:=List.mem_map.1 hr
 have hk:=List.mem_range.1 hk
 rw[←Int.natCast_pow,←Int.natCast_emod,h1 (k+1) (by omega) (by omega)];rfl
structure Gs (gr:Group):Prop where
 p:0≤gr.P∧gr.P≤2000000000
 q:0≤gr.Q∧gr.Q≤1000000000
 g:0≤gr.G∧gr.G≤2000000000
theorem zAr {q k:Nat}(hq:2≤q):((1+(k:Int)*(q:Int))-1).tdiv (q:Int)=(k:Int):=by
 rw[show(1+(k:Int)*(q:Int))-1=(k:Int)*(q:Int)by omega,Int.mul_tdiv_cancel _ (by omega)]
theorem zmj {q:Nat}(hq2:q≤1000000):Rn (zb5 (q:Int)) (fun z=>Gs z.1∧(z.2=true→z.1.Q=q∧3≤z.1.P)∧(∀k:Nat,1≤k→Pr (1+k*q)→1+k*q≤2000000000→Pr q→z.2=true)):=by
 unfold zb5
 refine zae (ψ:=fun b=>b= !(decide (2≤q)&&prB (q:Int))) ?_ ?_
 ·refine zaa (zf2 _ _ _) ?_
  by_cases h:2≤q
  ·refine za1 (by simp;omega) (zaa (zhD _ (by omega)) (zab ?_))
   simp[h]
  refine zf0 (by simp;omega) (zab ?_)
  simp[h]
 rintro _ rfl
 cases hc:(decide (2≤q)&&prB (q:Int))
 ·refine zf0 rfl (zab ⟨⟨⟨by decide,by decide⟩,⟨by decide,by decide⟩,by decide,by decide⟩,fun h=>(by cases h),fun k h1 h2 h3 h4=>?_⟩)
  rw[zfk.2 h4]at hc
  have:=h4.1
  simp at hc;omega
 have hq:2≤q:=by simp at hc;exact hc.1
 have hpq:Pr q:=by simp at hc;exact zfk.1 hc.2
 refine za1 rfl ?_
 refine zae (ψ:=fun b=>(b=.inl ()∧∀k:Nat,1≤k→Pr (1+k*q)→¬1+k*q≤2000000000)∨∃z:Group×Bool,b=.inr z∧Gs z.1∧z.2=true∧z.1.Q=q∧3≤z.1.P) ?_ ?_
 ·rw[zap (by omega) (by omega)]
  refine zeq (fun s=>∃k:Nat,1≤k∧s=1+(k:Int)*(q:Int)∧s≤2001000001∧∀j:Nat,1≤j→j<k→¬Pr (1+j*q)) (fun s=>(2001000001-s).toNat) ⟨1,by omega,by omega,by omega,fun j h1 h2=>by omega⟩ ?_
  rintro s ⟨k,hk,rfl,hs,hn⟩
  have hkq:k*2≤k*q:=Nat.mul_le_mul_left k hq
  have hkc:(k:Int)*(q:Int)=((k*q:Nat):Int):=zgm k q
  refine zam (fun g=>?_) fun g=>?_
  ·have g:1+(k:Int)*(q:Int)≤2000000000:=by simpa using g
   refine zaa (zhD _ (by omega)) ?_
   have hcast:1+(k:Int)*(q:Int)=((1+k*q:Nat):Int):=by omega
   cases hp:prB (1+(k:Int)*(q:Int))
   ·refine zf0 rfl (zab ?_)
    have e:IntKind.i64.wrap (1+(k:Int)*(q:Int)+(q:Int))=1+((k+1:Nat):Int)*(q:Int):=by
     rw[zap (by omega) (by omega)];grind
    refine⟨⟨k+1,by omega,e,by rw[zap (by omega) (by omega)];omega,fun j h1 h2=>?_⟩,?_⟩
    ·rcases Nat.lt_or_ge j k with h|h
     ·exact hn j h1 h
     have:j=k:=by omega
     subst this
     intro hpr
     rw[hcast,zfk.2 hpr]at hp
     cases hp
    rw[zap (by omega) (by omega)];omega
   refine za1 rfl ?_
   have hpr:Pr (1+k*q):=by rw[hcast]at hp;exact zfk.1 hp
   obtain⟨h0,a1,a2,a3⟩:=zux hpr hk (by omega)
   have hdv:IntKind.i64.wrap ((IntKind.i64.wrap (1+(k:Int)*(q:Int)-1)).tdiv (q:Int))=(k:Int):=by
    rw[zap (n:=1+(k:Int)*(q:Int)-1) (by omega) (by omega),zAr hq,zap (by omega) (by omega)]
   simp only[hdv]
   simp only[hcast]
   refine zae (ψ:=fun h=>2≤h∧h≤(h0:Int)) (zeq (fun s=>2≤s∧s≤(h0:Int)) (fun s=>(h0-s).toNat) (by omega) ?_) ?_
   ·rintro s ⟨s1,s2⟩
    have hpw:=(zfi (a:=s) (e:=(k:Int)) (m:=((1+k*q:Nat):Int)) (by omega) (by omega) (by omega) (by omega) (by omega) (by omega)).2
    refine zau (by omega) (zaa hpw ?_)
    refine zam (fun g=>zab ?_) fun g=>zab ⟨s1,s2⟩
    rw[zap (by omega) (by omega)]
    have hne:s≠(h0:Int):=fun e=>by
     subst e
     apply a3
     have g:((((h0:Int).toNat^(k:Int).toNat%((1+k*q:Nat):Int).toNat:Nat)):Int)=1:=by simpa only[beq_iff_eq]using g
     rw[Int.toNat_natCast,Int.toNat_natCast,Int.toNat_natCast]at g
     omega
    refine⟨⟨by omega,by omega⟩,?_⟩
    omega
   rintro h ⟨s1,s2⟩
   have hpw:=(zfi (a:=h) (e:=(k:Int)) (m:=((1+k*q:Nat):Int)) (by omega) (by omega) (by omega) (by omega) (by omega) (by omega)).2
   refine zau (by omega) (zaa hpw (zab ?_))
   have hlt:h.toNat^(k:Int).toNat%((1+k*q:Nat):Int).toNat<1+k*q:=by
    rw[Int.toNat_natCast (1+k*q)]
    exact Nat.mod_lt _ (by omega)
   refine .inr ⟨_,rfl,⟨⟨by show(0:Int)≤((1+k*q:Nat):Int);omega,by show((1+k*q:Nat):Int)≤_;omega⟩,⟨by show(0:Int)≤(q:Int);omega,by show(q:Int)≤_;omega⟩,?_,?_⟩,rfl,rfl,by show(3:Int)≤((1+k*q:Nat):Int);omega⟩
   ·show(0:Int)≤((_:Nat):Int);omega
   show((_:Nat):Int)≤2000000000;omega
  refine zab (.inl ⟨rfl,fun j h1 h2 h3=>?_⟩)
  have g:¬1+(k:Int)*(q:Int)≤2000000000:=by simpa using g
  rcases Nat.lt_or_ge j k with h|h
  ·exact hn j h1 h h2
  have:k*q≤j*q:=Nat.mul_le_mul_right q h
  omega
 rintro b (⟨rfl,h⟩|⟨z,rfl,h1,h2,h3,h4⟩)
 ·exact zab ⟨⟨⟨by decide,by decide⟩,⟨by decide,by decide⟩,by decide,by decide⟩,fun h=>(by cases h),fun k h1 h2 h3 h4=>absurd h3 (h k h1 h2)⟩
 exact zab ⟨h1,fun _=>⟨h3,h4⟩,fun _ _ _ _ _=>h2⟩
theorem zgE {n:Nat}(hn:n<64) (h2:2≤n) (h:∀d,d<8→2≤d→d*d≤n→n%d≠0):Pr n:=by
 refine⟨h2,fun d h1 h3=>?_⟩
 rcases Nat.lt_or_ge d 8 with h8|h8
 ·exact h d h8 h1 h3
 have:8*8≤d*d:=Nat.mul_le_mul h8 h8
 omega
structure Gw (gr:Group):Prop where
 p: -10≤gr.P∧gr.P≤2100000000
 q: -10≤gr.Q∧gr.Q≤2100000000
 g: -10≤gr.G∧gr.G≤2100000000
theorem Gs.w {gr:Group}(h:Gs gr):Gw gr:=⟨by have:=h.p;omega,by have:=h.q;omega,by have:=h.g;omega⟩
theorem zyV {x:Int}(hx:x∈[(3:Int),5,5,7,11,11,13,23]):∃q k:Nat,x=(q:Int)∧3≤q∧q≤23∧1≤k∧Pr (1+k*q)∧1+k*q≤2000000000∧Pr q:=by
 simp only[List.mem_cons,List.not_mem_nil,or_false]at hx
 rcases hx with rfl|rfl|rfl|rfl|rfl|rfl|rfl|rfl
 ·exact⟨3,2,rfl,by decide,by decide,by decide,zgE (by decide) (by decide) (by decide),by decide,zgE (by decide) (by decide) (by decide)⟩
 ·exact⟨5,2,rfl,by decide,by decide,by decide,zgE (by decide) (by decide) (by decide),by decide,zgE (by decide) (by decide) (by decide)⟩
 ·exact⟨5,2,rfl,by decide,by decide,by decide,zgE (by decide) (by decide) (by decide),by decide,zgE (by decide) (by decide) (by decide)⟩
 ·exact⟨7,4,rfl,by decide,by decide,by decide,zgE (by decide) (by decide) (by decide),by decide,zgE (by decide) (by decide) (by decide)⟩
 ·exact⟨11,2,rfl,by decide,by decide,by decide,zgE (by decide) (by decide) (by decide),by decide,zgE (by decide) (by decide) (by decide)⟩
 ·exact⟨11,2,rfl,by decide,by decide,by decide,zgE (by decide) (by decide) (by decide),by decide,zgE (by decide) (by decide) (by decide)⟩
 ·exact⟨13,4,rfl,by decide,by decide,by decide,zgE (by decide) (by decide) (by decide),by decide,zgE (by decide) (by decide) (by decide)⟩
 exact⟨23,2,rfl,by decide,by decide,by decide,zgE (by decide) (by decide) (by decide),by decide,zgE (by decide) (by decide) (by decide)⟩
theorem zAJ {code c0:List Int}{at_ seed n:Int}(hb:Bt code) (h:Cu code n (c0,at_,seed)) (hn:n≤7000000000000000):Rn (zcq c0 at_ seed) (fun z=>Gs z.1∧3≤z.1.Q∧z.1.Q≤23∧3≤z.1.P∧Cu code (n+2) z.2):=by
 unfold zcq
 refine zae (zdO hb h (by omega) (by simp)) fun z ⟨z1,z2⟩=>?_
 obtain⟨q,k,e,q1,q2,k1,k2,k3,k4⟩:=zyV z1
 rw[e]
 refine zae (zmj (by omega)) fun y ⟨y1,y2,y3⟩=>zab ?_
 have y4:=y2 (y3 k k1 k2 k3 k4)
 exact⟨y1,by show 3≤y.1.Q;omega,by show y.1.Q≤23;omega,y4.2,z2⟩
theorem zx1 {gr:Group}(h:Gs gr) (hq:1≤gr.Q) (hp:1≤gr.P) {x:Int}(hx:0≤x∧x≤2000000000) (e:Int):Rn (zbJ gr x e) (fun v=>0≤v∧v≤2000000000):=by
 have h1:=h.p
 have h2:=h.q
 have b1:0≤e%gr.Q:=Int.emod_nonneg _ (by omega)
 have b2:e%gr.Q<gr.Q:=Int.emod_lt_of_pos _ (by omega)
 have hw:=(zfi (a:=x) (e:=e%gr.Q) (m:=gr.P) (by omega) (by omega) (by omega) (by omega) b1 (by omega)).2
 unfold zbJ
 refine zaa (znI (by omega) (by omega)) (zaa hw (zab ?_))
 have hlt:x.toNat^(e%gr.Q).toNat%gr.P.toNat<gr.P.toNat:=Nat.mod_lt _ (by omega)
 omega
theorem zBT {x:Int}(hx:x∈[(101:Int),1009,1019,65537,999983]):∃q:Nat,x=(q:Int)∧q≤1000000:=by
 simp only[List.mem_cons,List.not_mem_nil,or_false]at hx
 rcases hx with rfl|rfl|rfl|rfl|rfl
 ·exact⟨101,rfl,by decide⟩
 ·exact⟨1009,rfl,by decide⟩
 ·exact⟨1019,rfl,by decide⟩
 ·exact⟨65537,rfl,by decide⟩
 exact⟨999983,rfl,by decide⟩
theorem zAP:Gs (Group.mk 1000000007 500000003 4):=⟨⟨by decide,by decide⟩,⟨by decide,by decide⟩,by decide,by decide⟩
theorem cu0 (code:List Int):Cu code 0 (code,0,0):=⟨rfl,Int.le_refl 0,Int.le_refl 0⟩
theorem zon {code c0:List Int}{at_ seed n:Int}(hb:Bt code) (h:Cu code n (c0,at_,seed)) (hn:n≤6000000000000000):Rn (zbD c0 at_ seed) (fun z=>Gs z.1∧Cu code (n+6) z.2):=by
 unfold zbD
 refine zae (zeh hb h (by omega)) fun z ⟨z1,z2,z3,z4,z5⟩=>?_
 refine zam (fun _=>zab ⟨zAP,z5.mono (by omega)⟩) fun _=>zam (fun _=>?_) fun _=>?_
 ·refine zae (zdO hb z5 (by omega) (by simp)) fun y ⟨y1,y2⟩=>?_
  obtain⟨q,e,hq⟩:=zBT y1
  rw[e]
  exact zae (zmj hq) fun x ⟨x1,_,_⟩=>zab ⟨x1,y2.mono (by omega)⟩
 refine zae (zAJ hb z5 (by omega)) fun y ⟨y1,y2,y3,y4,y5⟩=>?_
 refine zae (zeh hb y5 (by omega)) fun x ⟨x1,x2,x3,x4,x5⟩=>?_
 have hg:=y1.g
 refine zae (zx1 y1 (by omega) (by omega) hg _) fun v hv=>zab ⟨⟨y1.p,y1.q,hv⟩,x5.mono (by omega)⟩
theorem zst {code c0:List Int}{at_ seed n:Int}(hb:Bt code) (h:Cu code n (c0,at_,seed)) (hn:n≤5000000000000000):Rn (zbB c0 at_ seed) (fun z=>Gw z.1∧Cu code (n+10) z.2):=by
 unfold zbB
 refine zae (zon hb h (by omega)) fun z ⟨z1,z2⟩=>?_
 have g1:=z1.p
 have g2:=z1.q
 have g3:=z1.g
 refine zae (zeh hb z2 (by omega)) fun y ⟨_,_,_,_,y5⟩=>?_
 rw[zap (n:=z.1.P+2) (by omega) (by omega),zap (n:=z.1.Q+1) (by omega) (by omega),zap (n:=z.1.P-1) (by omega) (by omega),zap (n:=z.1.G+1) (by omega) (by omega)]
 refine zae (ψ:=fun x=>Gw (Group.mk x.2.1 x.2.2.1 x.2.2.2)∧Cu code (n+10) x.1) ?_ fun x hx=>zab hx
 refine zam (fun _=>?_) fun _=>zam (fun _=>?_) fun _=>zam (fun _=>?_) fun _=>zab ⟨z1.w,y5.mono (by omega)⟩
 ·refine zae (zdO hb y5 (by omega) (by simp)) fun x ⟨x1,x2⟩=>zab ⟨?_,x2.mono (by omega)⟩
  simp only[List.mem_cons,List.not_mem_nil,or_false]at x1
  exact⟨by show-10≤x.1∧x.1≤_;omega,by show-10≤z.1.Q∧z.1.Q≤_;omega,by show-10≤z.1.G∧z.1.G≤_;omega⟩
 ·refine zae (zdO hb y5 (by omega) (by simp)) fun x ⟨x1,x2⟩=>zab ⟨?_,x2.mono (by omega)⟩
  simp only[List.mem_cons,List.not_mem_nil,or_false]at x1
  exact⟨by show-10≤z.1.P∧z.1.P≤_;omega,by show-10≤x.1∧x.1≤_;omega,by show-10≤z.1.G∧z.1.G≤_;omega⟩
 refine zae (zdO hb y5 (by omega) (by simp)) fun x ⟨x1,x2⟩=>zab ⟨?_,x2.mono (by omega)⟩
 simp only[List.mem_cons,List.not_mem_nil,or_false]at x1
 exact⟨by show-10≤z.1.P∧z.1.P≤_;omega,by show-10≤z.1.Q∧z.1.Q≤_;omega,by show-10≤x.1∧x.1≤_;omega⟩
theorem zpI {code c0:List Int}{at_ seed n:Int}{gr:Group}(hb:Bt code) (h:Cu code n (c0,at_,seed)) (hn:n≤7000000000000000) (hg:gr.Q≤2100000000):Rn (zb6 c0 at_ seed gr) (fun z=>0≤z.1∧z.1≤2100000000∧(2≤gr.Q→z.1<gr.Q)∧Cu code (n+4) z.2):=by
 unfold zb6
 refine zam (fun g=>zab ⟨Int.le_refl 0,by show(0:Int)≤_;omega,fun h=>by simp at g;omega,h.mono (by omega)⟩) fun g=>?_
 have g:2≤gr.Q:=by simp at g;omega
 refine zae (zeh hb h (by omega)) fun z ⟨z1,z2,z3,z4,z5⟩=>?_
 refine zae (zeh hb z5 (by omega)) fun y ⟨y1,y2,y3,y4,y5⟩=>zau (by omega) (zab ?_)
 rw[zap (n:=z.1*60000) (by omega) (by omega),zap (by omega) (by omega),Int.tmod_eq_emod_of_nonneg (by omega)]
 have b1:=Int.emod_nonneg (z.1*60000+y.1) (show gr.Q≠0 by omega)
 have b2:=Int.emod_lt_of_pos (z.1*60000+y.1) (show 0<gr.Q by omega)
 exact⟨b1,by show _%gr.Q≤_;omega,fun _=>b2,y5.mono (by omega)⟩
theorem zua {code c0:List Int}{at_ seed n:Int}{gr:Group}(hb:Bt code) (h:Cu code n (c0,at_,seed)) (hn:n≤6000000000000000) (hg:Gw gr):Rn (zcC c0 at_ seed gr) (fun z=>-100≤z.1∧z.1≤2100000000∧Cu code (n+6) z.2):=by
 have g2:=hg.q
 unfold zcC
 refine zae (zne hb h (by omega)) fun z z1=>?_
 rw[zap (by omega) (by omega)]
 refine zam (fun _=>?_) fun _=>?_
 ·refine zae (zdO hb z1 (by omega) (by simp)) fun y ⟨y1,y2⟩=>zab ?_
  simp only[List.mem_cons,List.not_mem_nil,or_false]at y1
  exact⟨by show-100≤y.1;omega,by show y.1≤_;omega,y2.mono (by omega)⟩
 exact zae (zpI hb z1 (by omega) (by omega)) fun y ⟨y1,y2,_,y3⟩=>zab ⟨by show-100≤y.1;omega,y2,y3.mono (by omega)⟩
theorem zxA {code c0:List Int}{at_ seed n:Int}{gr:Group}{k:Nat}(hb:Bt code) (h:Cu code n (c0,at_,seed)) (hn:n≤5000000000000000) (hg:Gw gr) (hk:k≤1000000):Rn (zc1 c0 at_ seed gr (k:Int)) (fun z=>z.1.length=k∧(∀x∈z.1,0≤x∧x≤2100000000∧(2≤gr.Q→x<gr.Q))∧Cu code (n+4*k) z.2):=by
 unfold zc1
 refine zae (ψ:=fun r=>r.2.length=k∧(∀x∈r.2,0≤x∧x≤2100000000∧(2≤gr.Q→x<gr.Q))∧Cu code (n+4*k) r.1) (zeb k (fun j s=>s.2.1=(k:Int)-j∧s.2.2.length=j∧(∀x∈s.2.2,0≤x∧x≤2100000000∧(2≤gr.Q→x<gr.Q))∧Cu code (n+4*j) s.1) ⟨by show(k:Int)=_;omega,rfl,by simp,h.mono (by omega)⟩ ?_ ?_) fun r hr=>zab hr
 ·rintro j s hj ⟨h1,h2,h3,h4⟩
  refine zf0 (by rw[h1];simp;omega) (zae (zpI hb h4 (by omega) hg.q.2) fun z ⟨z1,z2,z3,z4⟩=>zau (by omega) (zab ⟨?_,by simp[h2],fun x hx=>?_,z4.mono (by omega)⟩))
  ·show IntKind.i64.wrap (s.2.1-1)=_
   rw[h1,zap (by omega) (by omega)];omega
  rcases List.mem_append.1 hx with h|h
  ·exact h3 x h
  rw[List.mem_singleton.1 h];exact⟨z1,z2,z3⟩
 rintro s ⟨h1,h2,h3,h4⟩
 exact za1 (by rw[h1];simp) (zab ⟨h2,h3,h4⟩)
theorem zmx {a p:Nat}(hp:2≤p) {m:Nat}(h:a^m%p=1) (k r:Nat):a^(m*k+r)%p=a^r%p:=by
 rw[Nat.pow_add,Nat.pow_mul,Nat.mul_mod,Nat.pow_mod (a^m),h,Nat.one_pow,Nat.mod_eq_of_lt (show 1<p by omega),Nat.one_mul,Nat.mod_mod]
theorem zx4 {a p:Nat}(hp:2≤p):∀m n,a^m%p=1→a^n%p=1→a^(Nat.gcd m n)%p=1:=by
 intro m n
 induction m,n using Nat.gcd.induction with
 |H0 n=>intro _ h;simpa using h
 |H1 m n hm ih=>
  intro h1 h2
  rw[Nat.gcd_rec]
  refine ih ?_ h1
  rw[←zmx hp h1 (n/m) (n%m),Nat.div_add_mod]
  exact h2
theorem zxy {a p q:Nat}(hp:2≤p) (hq:Pr q) (ha:a^q%p=1) (ha1:a%p≠1) {i j:Nat}(hij:i<j) (hj:j<q):a^i%p≠a^j%p:=by
 intro e
 have h1:a^(j-i)%p=1:=by
  have e1:a^(j-i)%p=a^(q*1+(j-i))%p:=(zmx hp ha 1 (j-i)).symm
  rw[e1,show q*1+(j-i)=j+(q-i)by omega,Nat.pow_add,Nat.mul_mod,←e,←Nat.mul_mod,←Nat.pow_add,show i+(q-i)=q by omega]
  exact ha
 have h2:=zx4 hp q (j-i) ha h1
 rw[zuJ hq (by rw[Nat.mod_eq_of_lt (by omega)];omega),Nat.pow_one]at h2
 exact ha1 h2
theorem zmT {gr:Group}{x:Int}(h:zal gr x=true):x.toNat^gr.Q.toNat%gr.P.toNat=1:=by
 simp only[zal,Bool.and_eq_true,decide_eq_true_eq]at h
 exact h.2
theorem zrK {gr:Group}{x:Int}(k:OkG gr) (h:zal gr x=true):x.toNat<gr.P.toNat∧1≤x.toNat:=by
 have:=ze7 h
 have:=k.p
 omega
theorem zzy {gr:Group}(k:OkG gr) {h x:Int}(hh:zal gr h=true) (h1:h≠1) (hx:zal gr x=true):∃s:Nat,h.toNat^s%gr.P.toNat=x.toNat:=by
 have hp2:2≤gr.P.toNat:=by have:=k.p;omega
 have hb:=zrK k hh
 have hbx:=zrK k hx
 have ha1:h.toNat%gr.P.toNat≠1:=by rw[Nat.mod_eq_of_lt hb.1];have:=ze7 hh;omega
 apply Classical.byContradiction
 intro hn
 have hn':∀s:Nat,h.toNat^s%gr.P.toNat≠x.toNat:=fun s e=>hn ⟨s,e⟩
 have key:∀a b:Nat,a<gr.P.toNat→b<gr.P.toNat→a≠b→((b:Int)-(a:Int))%(gr.P.toNat:Int)≠0:=by
  intro a b ha hb' hab he
  have h3:((gr.P.toNat:Nat):Int)∣(b:Int)-(a:Int):=Int.dvd_of_emod_eq_zero he
  obtain⟨c,hc⟩:=h3
  rcases Int.lt_trichotomy c 0 with h4|h4|h4
  ·have:(gr.P.toNat:Int)*c≤(gr.P.toNat:Int)*(-1):=Int.mul_le_mul_of_nonneg_left (by omega) (by omega)
   omega
  ·subst h4;simp at hc;omega
  ·have:(gr.P.toNat:Int)*1≤(gr.P.toNat:Int)*c:=Int.mul_le_mul_of_nonneg_left (by omega) (by omega)
   omega
 have hlt:∀s,h.toNat^s%gr.P.toNat<gr.P.toNat:=fun s=>Nat.mod_lt _ (by omega)
 have hlen:=zml (p:=gr.P.toNat) (n:=gr.Q.toNat) k.pp (by have:=k.q;omega) ((x.toNat:Int)::(List.range gr.Q.toNat).map fun i=>((h.toNat^i%gr.P.toNat:Nat):Int)) ?_ ?_
 ·simp at hlen;omega
 ·rw[List.pairwise_cons]
  refine⟨fun y hy=>?_,?_⟩
  ·obtain⟨i,hi,rfl⟩:=List.mem_map.1 hy
   exact key _ _ hbx.1 (hlt i) fun e=>hn' i e.symm
  rw[List.pairwise_map]
  refine List.Pairwise.imp_of_mem ?_ List.pairwise_lt_range
  intro i j hi hj hij
  exact key _ _ (hlt i) (hlt j) (zxy hp2 k.pq (zmT hh) ha1 hij (List.mem_range.1 hj))
 intro r hr
 rcases List.mem_cons.1 hr with rfl|hr
 ·have:=zmT hx
  rw[←Int.natCast_pow,←Int.natCast_emod,this];rfl
 obtain⟨i,hi,rfl⟩:=List.mem_map.1 hr
 have h5:(h.toNat^i%gr.P.toNat)^gr.Q.toNat%gr.P.toNat=1:=by
  rw[←Nat.pow_mod,←Nat.pow_mul,Nat.mul_comm,Nat.pow_mul,Nat.pow_mod,zmT hh,Nat.one_pow,Nat.mod_eq_of_lt (by omega)]
 rw[←Int.natCast_pow,←Int.natCast_emod,h5];rfl
theorem zrv {a q:Int}(h0:0<q) (h1:q≤4000000000000000000):zeF a q=some (a%q):=by
 unfold zeF
 rw[zdJ (by omega),zdJ (by omega)]
 have b1:a.tmod q<q:=Int.tmod_lt_of_pos a h0
 have b2: -q<a.tmod q:=by
  have:=Int.lt_tmod_of_pos a h0
  omega
 rw[zap (by omega) (by omega),Int.tmod_eq_emod_of_nonneg (by omega)]
 congr 1
 rw[Int.add_emod_right]
 rw[Int.tmod_def,Int.sub_emod,Int.mul_emod_right,Int.sub_zero,Int.emod_emod]
theorem zrU (a:Int) {m:Int}(h:0<m): -m<a.tmod m∧a.tmod m<m:=by
 have h1:=Int.tmod_lt_of_pos a h
 have h2:=Int.lt_tmod_of_pos a h
 omega
theorem ztX (a:Int) {e m:Int}(h1:1≤m) (h2:0≤e) (h3:e≤4000000000000000000):Rn (zbi a e m) (fun v=>-m<v∧v<m):=by
 unfold zbi
 refine zau (by omega) (zae (ψ:=fun v=>-m<v∧v<m) (zeq (fun s=>(-m<s.2.2∧s.2.2<m)∧0≤s.2.1∧s.2.1≤e) (fun s=>s.2.1.toNat) ⟨zrU _ (by omega),h2,Int.le_refl _⟩ ?_) fun x hx=>zab hx)
 rintro s ⟨hs,h4,h5⟩
 refine zam (fun g=>?_) fun _=>zab hs
 have g:0<s.2.1:=by simpa using g
 refine zae (ψ:=fun v=>-m<v∧v<m) (zam (fun _=>zau (by omega) (zab (zrU _ (by omega)))) fun _=>zab hs) fun x hx=>zau (by omega) (zab ?_)
 have e1:s.2.1.tdiv 2=s.2.1/2:=Int.tdiv_eq_ediv_of_nonneg (by omega)
 have e2:IntKind.i64.wrap (s.2.1.tdiv 2)=s.2.1/2:=by rw[e1,zap (by omega) (by omega)]
 exact⟨⟨hx,by show 0≤IntKind.i64.wrap _;rw[e2];omega,by show IntKind.i64.wrap _≤e;rw[e2];omega⟩,by show(IntKind.i64.wrap _).toNat<_;rw[e2];omega⟩
theorem zxB {gr:Group}(hq:1≤gr.Q∧gr.Q≤4000000000000000000) (hp:1≤gr.P) (x e:Int):Rn (zbJ gr x e) (fun v=>-gr.P<v∧v<gr.P):=by
 unfold zbJ
 refine zaa (zrv (by omega) hq.2) (zae (ztX x hp (Int.emod_nonneg _ (by omega)) ?_) fun v hv=>zab hv)
 have:=Int.emod_lt_of_pos e (show 0<gr.Q by omega)
 omega
theorem zlr {code c0:List Int}{at_ seed n:Int}{gr:Group}(hb:Bt code) (h:Cu code n (c0,at_,seed)) (hn:n≤6000000000000000) (hg:Gw gr):Rn (zbI c0 at_ seed gr) (fun z=>-2200000000≤z.1∧z.1≤2200000000∧Cu code (n+4) z.2):=by
 have g1:=hg.p
 have g2:=hg.q
 unfold zbI
 refine zae (ψ:=fun b=>b=false→3≤gr.P∧1≤gr.Q) (zam (fun _=>zab fun h=>by cases h) fun a=>zab fun b=>by simp at a b;omega) fun b hb'=>zam (fun _=>zab ⟨by show-2200000000≤(1:Int);decide,by show(1:Int)≤_;decide,h.mono (by omega)⟩) fun e=>?_
 obtain⟨k1,k2⟩:=hb' e
 refine zaa (zrv (by omega) (by omega)) (zae (zpI hb h (by omega) (by omega)) fun z ⟨z1,z2,_,z3⟩=>zae (zxB ⟨k2,by omega⟩ (by omega) _ _) fun v hv=>zab ⟨by show _≤v;omega,by show v≤_;omega,z3⟩)
theorem zjg {code c0:List Int}{at_ seed n:Int}{gr:Group}(hb:Bt code) (h:Cu code n (c0,at_,seed)) (hn:n≤5000000000000000) (hg:Gw gr):Rn (zbs c0 at_ seed gr) (fun z=>-2200000000≤z.1∧z.1≤2200000000∧Cu code (n+6) z.2):=by
 have g1:=hg.p
 unfold zbs
 refine zae (zne hb h (by omega)) fun z z1=>zam (fun _=>?_) fun _=>zae (zlr hb z1 (by omega) hg) fun y ⟨y1,y2,y3⟩=>zab ⟨y1,y2,y3.mono (by omega)⟩
 rw[zap (n:=gr.P-1) (by omega) (by omega)]
 refine zae (zdO hb z1 (by omega) (by simp)) fun y ⟨y1,y2⟩=>zab ?_
 simp only[List.mem_cons,List.not_mem_nil,or_false]at y1
 exact⟨by show-2200000000≤y.1;omega,by show y.1≤_;omega,y2.mono (by omega)⟩
def zbg (gr:Group) (c:Cipher):Bool:=zal gr c.A&&zal gr c.B
def ziR (gr:Group) (s:Int) (c:Cipher):Int:=zao gr [c.B,zah gr (zah gr c.A s) (-1)]
theorem zl2 {gr:Group}(k:OkG gr) {c:Cipher}(h:zbg gr c=true):0≤c.A∧c.A≤2000000000∧0≤c.B∧c.B≤2000000000:=by
 simp only[zbg,Bool.and_eq_true]at h
 have h1:=ze7 h.1
 have h2:=ze7 h.2
 have hp:=k.p
 omega
theorem zt6 {gr:Group}(k:OkG gr) (s:Int) {c:Cipher}(h:zbg gr c=true):zcV gr s c=some (ziR gr s c):=by
 obtain⟨b1,b2,b3,b4⟩:=zl2 k h
 have hp:=k.p
 have p1:=zeJ k c.A s
 have p2:=zeJ k (zah gr c.A s) (-1)
 have hl:∀x∈[c.B,zah gr (zah gr c.A s) (-1)],0≤x∧x≤2000000000:=by
  intro x hx
  simp only[List.mem_cons,List.not_mem_nil,or_false]at hx
  rcases hx with rfl|rfl<;>omega
 unfold zcV zd5
 rw[(zhW k b1 b2 s).1,Option.bind_some,(zhW k p1.1 (by omega) (-1)).1,Option.bind_some,Option.bind_some,ziz k hl]
 rfl
theorem zCN {gr:Group}(k:OkG gr) (s:Int) {c:Cipher}(h:zbg gr c=true):zcV gr s c=some (ziR gr s c)∧zgJ gr s c=some (ziR gr s c):=by
 refine⟨zt6 k s h,?_⟩
 obtain⟨b1,b2,b3,b4⟩:=zl2 k h
 have hp:=k.p
 have p1:=zeJ k c.A s
 have p2:=zeJ k (zah gr c.A s) (-1)
 have hl:∀x∈[c.B,zah gr (zah gr c.A s) (-1)],0≤x∧x≤2000000000:=by
  intro x hx
  simp only[List.mem_cons,List.not_mem_nil,or_false]at hx
  rcases hx with rfl|rfl<;>omega
 unfold zgJ
 rw[(zhW k b1 b2 s).2,Option.bind_some,zAb k p1.1 (by omega),Option.bind_some,zlD k hl]
 rfl
theorem zzK {gr:Group}(k:OkG gr) (l:List Cipher):Rn (zaB l gr.P gr.Q gr.G) (fun x=>(x=-1∧l.all (zbg gr)=true)∨(0≤x∧l.all (zbg gr)=false)):=by
 unfold zaB
 refine zae (ψ:=fun x=>(x=.inl ()∧l.all (zbg gr)=true)∨(∃j:Nat,x=.inr (j:Int)∧l.all (zbg gr)=false)) (zbb (fun n _=>∀m,m<n→∀h:m<l.length,zbg gr l[m]=true) (fun m hm=>by omega) ?_ fun s hs=>.inl ⟨rfl,?_⟩) ?_
 ·rintro n s hn hI
  refine zaQ hn ?_
  unfold zdo
  refine zae (ψ:=fun b=>b= !zbg gr l[n]) (zaa (zqP k l[n]) (zab rfl)) ?_
  rintro _ rfl
  refine zam (fun h=>zab (.inr ⟨n,rfl,?_⟩)) fun h=>zab fun m hm hl=>?_
  ·rw[List.all_eq_false]
   exact⟨l[n],List.getElem_mem hn,by simpa using h⟩
  rcases Nat.lt_or_ge m n with h1|h1
  ·exact hI m h1 hl
  have:m=n:=by omega
  subst this
  simpa using h
 ·rw[List.all_eq_true]
  intro x hx
  obtain⟨m,hm,rfl⟩:=List.mem_iff_getElem.1 hx
  exact hs m hm hm
 rintro x (⟨rfl,h⟩|⟨j,rfl,h⟩)
 ·exact zab (.inl ⟨rfl,h⟩)
 exact zab (.inr ⟨by show(0:Int)≤(j:Int);omega,h⟩)
theorem zqK {gr:Group}(k:OkG gr) (l:List Cipher):zcW gr l=some (decide (l.length≤24)&&l.all (zbg gr)):=by
 unfold zcW
 refine zaw (zae (ψ:=fun b=>b=(decide (l.length≤24)&&l.all (zbg gr))) (zam (fun h=>?_) fun h=>zab ?_) fun b hb=>zab hb)
 ·have h:l.length≤24:=by simp at h;omega
  unfold zaK
  refine zae (ψ:=fun b=>b= !l.all (zbg gr)) (zae (zzK k l) fun x hx=>zab ?_) ?_
  ·rcases hx with⟨rfl,h⟩|⟨h0,h⟩
   ·rw[h];rfl
   rw[h];simpa using h0
  rintro _ rfl
  exact zab (by simp[h])
 have h:¬l.length≤24:=by simp at h;omega
 simp[h]
theorem zrL {gr:Group}(k:OkG gr) (l:List Cipher):zgq gr l=some (decide (l.length≤24)&&l.all (zbg gr)):=by
 unfold zgq
 by_cases h:24<(l.length:Int)
 ·rw[if_pos (by simpa using h)]
  have h:¬l.length≤24:=by omega
  simp[h]
 rw[if_neg (by simpa using h)]
 refine(zwJ l (zbg gr) false (fun n hn=>?_)).trans ?_
 ·rw[zed hn,Option.bind_some,zwE k,Option.bind_some]
  have e:([l[n].A,l[n].B].all (zal gr))=zbg gr l[n]:=by simp[zbg]
  rw[e]
  cases zbg gr l[n]<;>rfl
 have h:l.length≤24:=by omega
 cases l.all (zbg gr)<;>simp[h]
theorem zvR {code c0:List Int}{at_ seed n:Int}{gr:Group}(hb:Bt code) (h:Cu code n (c0,at_,seed)) (hn:n≤4000000000000000) (hg:Gw gr):Rn (zcL c0 at_ seed gr) (fun z=>Cu code (n+8) z.2):=by
 unfold zcL
 exact zae (zlr hb h (by omega) hg) fun z ⟨_,_,z3⟩=>zae (zlr hb z3 (by omega) hg) fun y ⟨_,_,y3⟩=>zab (y3.mono (by omega))
theorem zms {code c0:List Int}{at_ seed n:Int}{gr:Group}(hb:Bt code) (h:Cu code n (c0,at_,seed)) (hn:n≤4000000000000000) (hg:Gw gr):Rn (zbT c0 at_ seed gr) (fun z=>Cu code (n+12) z.2):=by
 unfold zbT
 exact zae (zjg hb h (by omega) hg) fun z ⟨_,_,z3⟩=>zae (zjg hb z3 (by omega) hg) fun y ⟨_,_,y3⟩=>zab (y3.mono (by omega))
theorem zAq {code c0:List Int}{at_ seed n:Int}{k:Nat}(hb:Bt code) (h:Cu code n (c0,at_,seed)) (hn:n≤4000000000000000) (hk:k≤1000):Rn (zdg c0 at_ seed (k:Int)) (fun z=>z.1.length=k∧Cu code (n+2*k+2) z.2):=by
 unfold zdg
 refine zae (ψ:=fun l=>l.length=k) (zeb k (fun j s=>s.2=(j:Int)∧s.1.length=j) ⟨rfl,rfl⟩ ?_ ?_) fun l hl=>?_
 ·rintro j ⟨l,i⟩ hj ⟨h1,h2⟩
  have h1:i=(j:Int):=h1
  have h2:l.length=j:=h2
  subst h1
  refine zf0 (by simp;omega) (zau (by dsimp only;omega) (zab ⟨?_,by simp[h2]⟩))
  show IntKind.i64.wrap ((j:Int)+1)=_
  rw[zap (by omega) (by omega)];push_cast;rfl
 ·rintro⟨l,i⟩ ⟨h1,h2⟩
  have h1:i=(k:Int):=h1
  subst h1
  exact za1 (by simp) (zab h2)
 rw[zap (n:=(k:Int)-1) (by omega) (by omega)]
 refine zae (ψ:=fun x=>x.2.length=k∧Cu code (n+2*k+2) x.1) (zeq (fun s=>s.2.1.length=k∧-1≤s.2.2∧s.2.2≤(k:Int)-1∧Cu code (n+2*((k:Int)-1-s.2.2)) s.1) (fun s=>s.2.2.toNat) ⟨hl,by dsimp only;omega,by dsimp only;omega,h.mono (by dsimp only;omega)⟩ ?_) fun x hx=>zab hx
 rintro⟨c,l,i⟩ ⟨h1,h2,h3,h4⟩
 have h1:l.length=k:=h1
 have h2: -1≤i:=h2
 have h3:i≤(k:Int)-1:=h3
 have h4:Cu code (n+2*((k:Int)-1-i)) c:=h4
 refine zam (fun g=>?_) fun g=>zab ⟨h1,h4.mono (by omega)⟩
 have g:0<i:=by simpa using g
 obtain⟨m,rfl⟩:=Int.eq_ofNat_of_zero_le (show 0≤i by omega)
 dsimp only
 rw[zap (n:=(m:Int)+1) (by omega) (by omega)]
 refine zae (zeh hb h4 (by omega)) fun z ⟨z1,_,z3,_,z5⟩=>?_
 have z3:=z3 (by omega)
 obtain⟨j,hj⟩:=Int.eq_ofNat_of_zero_le z1
 rw[hj]
 refine zaQ (show m<l.length by omega) (zaQ (show j<l.length by omega) (zaQ (show j<(l.set _ _).length by rw[List.length_set];omega) (zab ⟨⟨by simp[h1],?_,?_,z5.mono ?_⟩,?_⟩)))
 ·show-1≤IntKind.i64.wrap ((m:Int)-1)
  rw[zap (by omega) (by omega)];omega
 ·show IntKind.i64.wrap ((m:Int)-1)≤_
  rw[zap (by omega) (by omega)];omega
 ·show _≤n+2*((k:Int)-1-IntKind.i64.wrap ((m:Int)-1))
  rw[zap (by omega) (by omega)];omega
 show(IntKind.i64.wrap ((m:Int)-1)).toNat<(m:Int).toNat
 rw[zap (by omega) (by omega)];omega
theorem zsL {code c0:List Int}{at_ seed n:Int}{gr:Group}{k:Nat}(hb:Bt code) (h:Cu code n (c0,at_,seed)) (hn:n≤3000000000000000) (hg:Gw gr) (hk:k≤1000):Rn (zcm c0 at_ seed gr (k:Int)) (fun z=>z.1.length≤k+1∧Cu code (n+4*k+20) z.2):=by
 unfold zcm
 refine zae (zxA hb h (by omega) hg (by omega)) fun z ⟨z1,_,z3⟩=>?_
 refine zae (zeh hb z3 (by omega)) fun p ⟨_,_,_,_,p5⟩=>?_
 refine zae (ψ:=fun v=>Sum.elim (fun x=>x.2.length≤k+1∧Cu code (n+4*k+20) x.1) (fun y=>y.1.length≤k+1∧Cu code (n+4*k+20) y.2) v) ?_ ?_
 ·refine zam (fun _=>zau (by omega) (zab ⟨by simp[z1],p5.mono (by omega)⟩)) fun _=>zam (fun _=>zam (fun g=>?_) fun _=>zab ⟨by dsimp only;omega,p5.mono (by omega)⟩) fun _=>zam (fun _=>zam (fun g=>?_) fun _=>zab ⟨by dsimp only;omega,p5.mono (by omega)⟩) fun _=>zab ⟨by dsimp only;omega,p5.mono (by omega)⟩
  ·have g:0<(k:Int):=by simpa using g
   exact zau (by omega) (zab ⟨by simp[z1];omega,p5.mono (by omega)⟩)
  have g:0<(k:Int):=by simpa using g
  refine zae (zeh hb p5 (by omega)) fun q ⟨q1,q2,q3,_,q5⟩=>?_
  refine zae (zdO hb q5 (by omega) (by simp)) fun w ⟨_,w2⟩=>?_
  obtain⟨j,hj⟩:=Int.eq_ofNat_of_zero_le q1
  have hlt:j<z.1.length:=by
   rcases Nat.lt_or_ge 1 k with h|h
   ·have:=q3 (by omega);omega
   ·have:=q2 (by omega);omega
  rw[hj]
  exact zaQ hlt (zab ⟨by show(z.1.set _ _).length≤_;rw[List.length_set];omega,w2.mono (by omega)⟩)
 rintro(x|y) hx
 ·exact zab hx
 exact zab hx
theorem zJr (l:List Int):Rn (zds l) (fun _=>True):=by
 unfold zds
 refine zae (ψ:=fun _=>True) (zbb (fun _ _=>True) trivial ?_ fun _ _=>trivial) ?_
 ·rintro k s hk _
  exact zaQ hk (zau (by omega) (zau (by omega) (zaa (zsc _ _) (zam (fun _=>zab trivial) fun _=>zab trivial))))
 rintro(x|y) _
 ·exact zab trivial
 exact zab trivial
theorem zyo {gr:Group}(k:OkG gr) {key:Int}(hk:zal gr key=true) {c:Cipher}(hc:zbg gr c=true) (r:Int):Rn (zfg gr key c r) (fun _=>True):=by
 have hp:=k.p
 obtain⟨b1,b2,b3,b4⟩:=zl2 k hc
 have kb:=ze7 hk
 have gb:=k.g
 have p1:=zeJ k gr.G r
 have p2:=zeJ k key r
 have ml:∀a b:Int,0≤a→a≤2000000000→0≤b→b≤2000000000→zcR gr [a,b]=some (zao gr [a,b])∧0≤zao gr [a,b]∧zao gr [a,b]≤gr.P:=fun a b h1 h2 h3 h4=>by
  have hl:∀x∈[a,b],0≤x∧x≤2000000000:=by
   intro x hx
   simp only[List.mem_cons,List.not_mem_nil,or_false]at hx
   rcases hx with rfl|rfl<;>omega
  exact⟨zlD k hl,zse k hl⟩
 obtain⟨m1,m2,m3⟩:=ml 1 (zah gr key r) (by omega) (by omega) (by omega) (by omega)
 unfold zfg zf9 zgG
 refine zaa (a:=Cipher.mk (zah gr gr.G r) (zao gr [1,zah gr key r])) ?_ (zae (ψ:=fun _=>True) ?_ fun _ _=>zab trivial)
 ·rw[(zhW k (by omega) (by omega) r).2,Option.bind_some,(zhW k (by omega) (by omega) r).2,Option.bind_some,m1];rfl
 refine zae (ψ:=fun _=>True) (zbb (fun _ s=>0≤s.1∧s.1≤2000000000∧0≤s.2∧s.2≤2000000000) ⟨by decide,by decide,by decide,by decide⟩ ?_ fun _ _=>trivial) fun _ _=>zab trivial
 rintro i ⟨s,t⟩ hi ⟨h1,h2,h3,h4⟩
 have h1:0≤s:=h1
 have h2:s≤2000000000:=h2
 have h3:0≤t:=h3
 have h4:t≤2000000000:=h4
 have hb:∀x∈[c,Cipher.mk (zah gr gr.G r) (zao gr [1,zah gr key r])],0≤x.A∧x.A≤2000000000∧0≤x.B∧x.B≤2000000000:=by
  intro x hx
  simp only[List.mem_cons,List.not_mem_nil,or_false]at hx
  rcases hx with rfl|rfl
  ·exact⟨b1,b2,b3,b4⟩
  ·exact⟨p1.1,by show zah gr gr.G r≤_;omega,m2,by show zao gr _≤_;omega⟩
 obtain⟨c1,c2,c3,c4⟩:=hb _ (List.getElem_mem hi)
 obtain⟨n1,n2,n3⟩:=ml s _ h1 h2 c1 c2
 obtain⟨o1,o2,o3⟩:=ml t _ h3 h4 c3 c4
 exact zaQ hi (zaa n1 (zaa o1 (zab ⟨n2,by dsimp only;omega,o2,by dsimp only;omega⟩)))
theorem zv0 {gr:Group}(k:OkG gr) (key:Int) (l:List Cipher):Rn (zcO gr key l) (fun b=>b=true→zal gr key=true∧1≤l.length∧l.length≤12∧l.all (zbg gr)=true):=by
 unfold zcO zf7
 refine zae (ψ:=fun b=>b=true→zal gr key=true∧1≤l.length∧l.length≤12∧l.all (zbg gr)=true) (zae (ψ:=fun b=>b=zal gr key) (zae (ψ:=fun b=>b=zal gr key) (zaa (zfV gr) (zf0 (zhP.2 k) (zaa (zuD k key) (zab rfl)))) fun b hb=>zab hb) fun b hb=>zam (fun h=>?_) fun _=>zab fun h=>by cases h) fun b hb=>zab hb
 refine zaa (zf2 _ _ _) (zam (fun g=>?_) fun _=>zab fun h=>by cases h)
 simp only[Bool.and_eq_true,decide_eq_true_eq]at g
 refine zaa (zrL k l) (zab fun h2=>?_)
 simp only[Bool.and_eq_true]at h2
 exact⟨hb▸h,by omega,by omega,h2.2⟩
theorem zwc (l:List Int) (m:Nat) (hm:m≤1000):Rn (zeT l (m:Int)) (fun b=>b=true→l.length=m∧∀x∈l,0≤x∧x≤(m:Int)-1):=by
 unfold zeT
 refine zae (ψ:=fun b=>b=true→l.length=m∧∀x∈l,0≤x∧x≤(m:Int)-1) (zam (fun g=>?_) fun _=>zab fun h=>by cases h) fun b hb=>zab hb
 have g:(l.length:Int)=m:=by simpa using g
 have g:l.length=m:=by omega
 rw[zap (n:=(m:Int)-1) (by omega) (by omega)]
 refine zaa (zn7 _ _ _) (zam (fun g2=>?_) fun _=>zab fun h=>by cases h)
 refine zae (zJr l) fun b _=>zab fun _=>⟨g,fun x hx=>?_⟩
 have:=List.all_eq_true.1 g2 x hx
 simpa using this
theorem zCE {gr:Group}(k:OkG gr) (key:Int) (l:List Cipher) (perm rs:List Int) (hl:l.length≤1000):Rn (zbE gr key l perm rs) (fun z=>(z.2=true→1≤z.1.length)∧z.1.length≤12):=by
 have hq:=k.q
 have hp:=k.p
 unfold zbE
 refine zae (ψ:=fun b=>b=false→zal gr key=true∧1≤l.length∧l.length≤12∧l.all (zbg gr)=true∧perm.length=l.length∧(∀x∈perm,0≤x∧x≤(l.length:Int)-1)∧rs.length=l.length) ?_ fun b hb=>?_
 ·refine zae (zv0 k key l) fun a ha=>zam (fun _=>zab fun h=>by cases h) fun g1=>?_
  refine zae (zwc perm l.length hl) fun b hb=>zam (fun _=>zab fun h=>by cases h) fun g2=>zam (fun _=>zab fun h=>by cases h) fun g3=>?_
  rw[zl3 (by omega) (by omega)]
  have g1:a=true:=by simpa using g1
  have g2:b=true:=by simpa using g2
  have g3:(rs.length:Int)=l.length:=by simpa using g3
  have g3:rs.length=l.length:=by omega
  obtain⟨a1,a2,a3,a4⟩:=ha g1
  obtain⟨b1,b2⟩:=hb g2
  exact zaa rfl (zab fun _=>⟨a1,a2,a3,a4,b1,b2,g3⟩)
 refine zam (fun _=>zab ⟨fun h=>(by cases h),by simp⟩) fun g=>?_
 obtain⟨c1,c2,c3,c4,c5,c6,c7⟩:=hb g
 refine zae (ψ:=fun o=>o.length=perm.length) ?_ fun o ho=>zab ⟨fun _=>by dsimp only;omega,by dsimp only;omega⟩
 unfold zgb
 refine zae (ψ:=fun o=>o.length=perm.length) (zbb (fun i s=>s.length=i) rfl ?_ fun s hs=>hs) fun o ho=>zab ho
 rintro i s hi hs
 have hx:=c6 _ (List.getElem_mem hi)
 obtain⟨j,hj⟩:=Int.eq_ofNat_of_zero_le hx.1
 refine zaQ hi ?_
 rw[hj]
 have hj2:j<l.length:=by omega
 refine zaQ hj2 (zaQ (show i<rs.length by omega) (zae (zyo k c1 (List.all_eq_true.1 c4 _ (List.getElem_mem hj2)) _) fun w _=>zau (by omega) (zab (by show(s++[w]).length=_;simp[hs]))))
def byL (s:ByteArray):List Int:=s.data.toList.map fun b=>(b.toNat:Int)
theorem zhB (s:ByteArray):(byL s).length=s.size:=by
 show(s.data.toList.map _).length=s.data.size
 rw[List.length_map,Array.length_toList]
theorem ztQ (s:ByteArray):∀x∈byL s,0≤x∧x≤255:=by
 intro x hx
 obtain⟨b,_,rfl⟩:=List.mem_map.1 hx
 have:=b.toNat_lt
 omega
theorem zyW {s:ByteArray}{k:Nat}(h:k<s.size):ixs s (k:Int)=some ((byL s)[k]'(by rw[zhB];exact h)):=by
 have h2:k<s.data.size:=h
 simp[ixs,byL,h]
 rfl
theorem ztR (s:ByteArray) (l:List Int) (hs:s.size≤1000000) (hl:l.length≤1000000000000):zia s l=some ((s.size:Int)::byL s++l):=by
 unfold zia
 refine zaw (zae (ψ:=fun x=>x=(s.size:Int)::byL s) (zeb s.size (fun n p=>n≤s.size∧p=((s.size:Int)::(byL s).take n,(n:Int))) ⟨by omega,by simp⟩ ?_ ?_) ?_)
 ·rintro n p hn ⟨_,rfl⟩
  have hn2:n<(byL s).length:=by rw[zhB];exact hn
  have hb:=ztQ s _ (List.getElem_mem hn2)
  refine zam (fun _=>?_) fun h=>absurd h (by simp;omega)
  refine zaa (zyW hn) (zau ?_ (zab ⟨by omega,?_⟩))
  ·simp only[List.length_cons,List.length_take,zhB];omega
  show((s.size:Int)::(byL s).take n++[_],_)=_
  rw[zap (by omega) (by omega),zap (by omega) (by omega),List.cons_append,List.take_append_getElem hn2]
  rfl
 ·rintro p ⟨_,rfl⟩
  refine zam (fun h=>absurd h (by simp)) fun _=>zab ?_
  show(s.size:Int)::(byL s).take s.size=_
  rw[List.take_of_length_le (by rw[zhB];omega)]
 rintro _ rfl
 refine zau ?_ (zab rfl)
 simp only[List.length_cons,zhB];omega
theorem zsw (s:ByteArray) (l:List Int) (hs:s.size≤1000000) (hl:l.length≤1000000000000):zgi s l=some ((s.size:Int)::byL s++l):=ztR s l hs hl
def zbh (x:Int):Bool:=decide (0≤x)&&decide (x≤4611686018427387903)
theorem zcP {x:Int}:zbh x=true↔0≤x∧x≤4611686018427387903:=by simp[zbh]
theorem ztz (x:Int):zfa x=some (zbh x):=by
 unfold zfa
 rw[zfT];rfl
theorem zte (x:Int):zhh x=some (zbh x):=by
 unfold zhh
 rw[zf2];rfl
theorem zx6 (s:ByteArray):(byL s).all zbh=true:=by
 rw[List.all_eq_true]
 intro x hx
 have:=ztQ s x hx
 exact zcP.2 ⟨by omega,by omega⟩
def hs1 (c s k:Int):Int:=(c*s+k+1)%2147483647
def zjb (p:Int×Int) (x:Int):Int×Int:=(hs1 48271 (hs1 48271 p.1 (x%2147483648)) (x/2147483648),hs1 69621 (hs1 69621 p.2 (x%2147483648)) (x/2147483648))
def zlW (l:List Int):Int:=let p:=(((l.length:Int)::l).foldl zjb (1,2));p.1*2147483648+p.2
theorem zjW (c s k:Int):0≤hs1 c s k∧hs1 c s k≤2147483646:=by unfold hs1;omega
theorem zh6 {c s k:Int}(hc:c=48271∨c=69621) (hs:0≤s∧s≤2147483646) (hk:0≤k∧k≤2147483648):(IntKind.i64.wrap ((IntKind.i64.wrap ((IntKind.i64.wrap (c*s))+k))+1)).tmod 2147483647=hs1 c s k:=by
 rcases hc with rfl|rfl
 ·rw[zap (n:=48271*s) (by omega) (by omega),zap (n:=48271*s+k) (by omega) (by omega),zap (by omega) (by omega),Int.tmod_eq_emod_of_nonneg (by omega)];rfl
 rw[zap (n:=69621*s) (by omega) (by omega),zap (n:=69621*s+k) (by omega) (by omega),zap (by omega) (by omega),Int.tmod_eq_emod_of_nonneg (by omega)];rfl
def okP (p:Int×Int):Prop:=(0≤p.1∧p.1≤2147483646)∧(0≤p.2∧p.2≤2147483646)
theorem zw5 (p:Int×Int) (x:Int):okP (zjb p x):=⟨zjW _ _ _,zjW _ _ _⟩
theorem ziD:∀(l:List Int) (p:Int×Int),okP p→okP (l.foldl zjb p)
 |[],_,h=>h
 |x::l,p,_=>ziD l _ (zw5 p x)
theorem zt5 (l:List Int):zbh (zlW l)=true:=by
 obtain⟨h1,h2⟩:=ziD ((l.length:Int)::l) (1,2) ⟨by decide,by decide⟩
 refine zcP.2 ?_
 unfold zlW
 dsimp only
 omega
theorem zpw {p:Int×Int}{x:Int}(hp:okP p) (hx:zbh x=true):zdk p.1 p.2 x=some (zjb p x):=by
 obtain⟨h1,h2⟩:=hp
 have hx:=zcP.1 hx
 have e1:x.tmod 2147483648=x%2147483648:=Int.tmod_eq_emod_of_nonneg hx.1
 have e2:IntKind.i64.wrap (x.tdiv 2147483648)=x/2147483648:=by
  rw[Int.tdiv_eq_ediv_of_nonneg hx.1,zap (by omega) (by omega)]
 have b1:0≤x%2147483648∧x%2147483648≤2147483648:=by omega
 have b2:0≤x/2147483648∧x/2147483648≤2147483648:=by omega
 have h0:ix [x%2147483648,x/2147483648] 0=some (x%2147483648):=rfl
 have h1':ix [x%2147483648,x/2147483648] 1=some (x/2147483648):=rfl
 unfold zdk
 rw[e1,e2,Option.bind_some,zku]
 simp only[List.length_cons,List.length_nil,show decide ((0:Int)<((0+1+1:Nat):Int))=true from rfl,if_true,h0,Option.bind_some,zh6 (.inl rfl) h1 b1,zh6 (.inr rfl) h2 b1]
 rw[zku]
 simp only[show IntKind.i64.wrap (0+1)=1 from rfl,show decide ((1:Int)<((0+1+1:Nat):Int))=true from rfl,if_true,h1',Option.bind_some,zh6 (.inl rfl) (zjW _ _ _) b2,zh6 (.inr rfl) (zjW _ _ _) b2]
 rw[zku]
 simp only[show IntKind.i64.wrap (1+1)=2 from rfl,show decide ((2:Int)<((0+1+1:Nat):Int))=false from rfl,Bool.false_eq_true,if_false,Option.bind_some]
 rfl
theorem zrP {l:List Int}(h:l.all zbh=true) {k:Nat}(hk:k<l.length):zbh l[k]=true:=List.all_eq_true.1 h _ (List.getElem_mem hk)
theorem zxO {l:List Int}(hl:l.length≤1000000000000) (hd:l.all zbh=true):ziV l=some (zlW l):=by
 unfold ziV
 have e0:=zpw (p:=(1,2)) (x:=(l.length:Int)) ⟨by decide,by decide⟩ (zcP.2 ⟨by omega,by omega⟩)
 refine zaw (zaa e0 (zae (ψ:=fun p=>p=((l.length:Int)::l).foldl zjb (1,2)) (zbb (fun n p=>p=((l.length:Int)::l.take n).foldl zjb (1,2)) rfl ?_ ?_) ?_))
 ·rintro n p hn rfl
  refine zaQ hn (zaa (zpw (ziD _ _ ⟨by decide,by decide⟩) (zrP hd hn)) (zab ?_))
  show zjb _ _=_
  rw[←List.take_append_getElem hn,←List.cons_append,List.foldl_append]
  rfl
 ·rintro p rfl
  show(((l.length:Int)::l.take l.length).foldl zjb (1,2))=_
  rw[List.take_length]
 rintro p rfl
 obtain⟨h1,h2⟩:=ziD ((l.length:Int)::l) (1,2) ⟨by decide,by decide⟩
 refine zab ?_
 rw[zap (n:=_*2147483648) (by omega) (by omega),zap (by omega) (by omega)]
 rfl
theorem zwf {x:Int}(hx:zbh x=true):IntKind.i64.wrap (BitVec.ofInt IntKind.i64.bits x&&&BitVec.ofInt IntKind.i64.bits 2147483647).toNat=x%2147483648:=by
 have hx:=zcP.1 hx
 obtain⟨n,rfl⟩:=Int.eq_ofNat_of_zero_le hx.1
 have h1:(BitVec.ofInt IntKind.i64.bits ((n:Nat):Int)&&&BitVec.ofInt IntKind.i64.bits 2147483647).toNat=n%2147483648:=by
  rw[BitVec.toNat_and]
  have a1:(BitVec.ofInt IntKind.i64.bits (n:Int)).toNat=n:=by
   rw[BitVec.toNat_ofInt]
   have:IntKind.i64.bits=64:=rfl
   rw[this]
   omega
  have a2:(BitVec.ofInt IntKind.i64.bits 2147483647).toNat=2^31-1:=by decide
  rw[a1,a2,Nat.and_two_pow_sub_one_eq_mod]
 rw[h1,zap (by omega) (by omega)]
 omega
theorem zzP {l:List Int}(hl:l.length≤1000000000000) (hd:l.all zbh=true):zgI l=some (zlW l):=by
 unfold zgI
 have hd2:((l.length:Int)::l).all zbh=true:=by
  rw[List.all_cons,hd,Bool.and_true]
  exact zcP.2 ⟨by omega,by omega⟩
 refine zaw (zau (by simp only[List.length_cons,List.length_nil];omega) (zaa rfl (zae (ψ:=fun p=>p=((l.length:Int)::l).foldl zjb (1,2)) (zbb (fun n p=>p=(((l.length:Int)::l).take n).foldl zjb (1,2)) rfl ?_ ?_) ?_)))
 ·rintro n p hn rfl
  have ok:=ziD ((((l.length:Int)::l)).take n) (1,2) ⟨by decide,by decide⟩
  have dg:=zrP hd2 hn
  have b:=zcP.1 dg
  have ef:(((l.length:Int)::l)[n]).fdiv 2147483648=((l.length:Int)::l)[n]/2147483648:=Int.fdiv_eq_ediv_of_nonneg _ (by omega)
  have hn':n<((l.length:Int)::l).length:=hn
  refine zaQ hn (zab ?_)
  show(_,_)=_
  simp only[List.singleton_append]
  rw[zwf dg,ef,zh6 (.inl rfl) ok.1 (by omega),zh6 (.inr rfl) ok.2 (by omega),zh6 (.inl rfl) (zjW _ _ _) (by omega),zh6 (.inr rfl) (zjW _ _ _) (by omega),
   ←List.take_append_getElem hn',List.foldl_append]
  rfl
 ·rintro p rfl
  show((((l.length:Int)::l).take ([(l.length:Int)]++l).length).foldl zjb (1,2))=_
  rw[List.singleton_append,List.take_length]
 rintro p rfl
 obtain⟨h1,h2⟩:=ziD ((l.length:Int)::l) (1,2) ⟨by decide,by decide⟩
 refine zab ?_
 rw[zap (n:=_*2147483648) (by omega) (by omega),zap (by omega) (by omega)]
 rfl
def zi7 (s:ByteArray) (l:List Int):Int:=zlW ((s.size:Int)::byL s++l)
theorem zmK (s:ByteArray) (l:List Int):zbh (zi7 s l)=true:=zt5 _
def zhJ (s:ByteArray) (l:List Int):Bool:=decide (s.size≤40)&&decide (1+s.size+l.length≤400)&&l.all zbh
theorem zrG {s:ByteArray}{l:List Int}(hs:s.size≤1000000):((s.size:Int)::byL s++l).all zbh=l.all zbh:=by
 rw[List.cons_append,List.all_cons,List.all_append,zx6,zcP.2 ⟨by omega,by omega⟩,Bool.true_and,Bool.true_and]
theorem zmq {s:ByteArray}{l:List Int}(hs:s.size≤1000000) (hl:l.length≤100000000000) (hd:l.all zbh=true):zfZ s l=some (zi7 s l):=by
 unfold zfZ
 rw[ztR s l hs (by omega),Option.bind_some,zxO (by simp[zhB];omega) (by rw[zrG hs];exact hd)]
 rfl
theorem zqb (l:List Int):zet l=some (decide (l.length≤400)&&l.all zbh):=by
 unfold zet
 have h1:zcS l=some (l.all zbh):=zkh (f:=zb0) fun x _=>by
  unfold zb0
  rw[ztz];rfl
 rw[h1]
 by_cases h:l.length≤400
 ·rw[if_pos (by simp;omega)];simp[h]
 rw[if_neg (by simp;omega)];simp[h]
theorem ztG (l:List Int):zfh l=some (if(decide (l.length≤400)&&l.all zbh)=true then(zlW l,true)else(0,false)):=by
 unfold zfh
 rw[zqb,Option.bind_some]
 cases h:(decide (l.length≤400)&&l.all zbh)with
 |true=>
  simp only[Bool.and_eq_true,decide_eq_true_eq]at h
  rw[zzP (by omega) h.2];rfl
 |false=>rfl
theorem zjY (s:ByteArray) (l:List Int):zcx s l=some (if zhJ s l=true then(zi7 s l,true)else(0,false)):=by
 unfold zcx
 by_cases h1:s.size≤40
 ·by_cases h2:l.length≤400
  ·rw[if_neg (by simp;omega),Option.bind_some,if_neg (by simp;omega),zsw s l (by omega) (by omega),Option.bind_some,ztG,zrG (by omega)]
   have e:((s.size:Int)::byL s++l).length=1+s.size+l.length:=by simp[zhB];omega
   rw[e]
   have e2:zhJ s l=(decide (1+s.size+l.length≤400)&&l.all zbh):=by simp[zhJ,h1]
   rw[e2]
   cases decide (1+s.size+l.length≤400)<;>cases l.all zbh<;>rfl
  rw[if_neg (by simp;omega),Option.bind_some,if_pos (by simp;omega)]
  have:zhJ s l=false:=by
   have:¬1+s.size+l.length≤400:=by omega
   simp[zhJ,this]
  rw[this];rfl
 rw[if_pos (by simp;omega),Option.bind_some,if_pos rfl]
 have:zhJ s l=false:=by simp[zhJ,h1]
 rw[this];rfl
theorem ztW {p:Nat}(hp:Pr p) {b:Nat}(h1:1≤b) (h2:b<p):∀e:Nat,b^e%p≠0
 |0=>by
  have:=hp.1
  rw[Nat.pow_zero,Nat.mod_eq_of_lt (by omega)];omega
 |e+1=>fun h=>by
  have hb:((b^e:Nat):Int)%(p:Int)=0∨(b:Int)%(p:Int)=0:=zjU hp (by
   rw[←Int.natCast_mul,←Nat.pow_succ,←Int.natCast_emod,h];rfl)
  rcases hb with h3|h3
  ·exact ztW hp h1 h2 e (by rw[←Int.natCast_emod]at h3;omega)
  ·rw[←Int.natCast_emod,Nat.mod_eq_of_lt h2]at h3;omega
def zlt (gr:Group) (s:ByteArray) (k c:Int):Int:=1+zi7 s [gr.P,gr.Q,gr.G,k,c]%(gr.P-1)
def zfw (gr:Group) (s:ByteArray) (k c:Int):Int:=(((zlt gr s k c).toNat^((gr.P-1)/gr.Q).toNat%gr.P.toNat:Nat):Int)
theorem zn3 {gr:Group}(k:OkG gr) (s:ByteArray) (i c:Int):1≤zlt gr s i c∧zlt gr s i c≤gr.P-1:=by
 have hp:=k.p
 have h1:=Int.emod_nonneg (zi7 s [gr.P,gr.Q,gr.G,i,c]) (show gr.P-1≠0 by omega)
 have h2:=Int.emod_lt_of_pos (zi7 s [gr.P,gr.Q,gr.G,i,c]) (show 0<gr.P-1 by omega)
 unfold zlt
 omega
theorem zok {gr:Group}(k:OkG gr) (s:ByteArray) (i c:Int):1≤zfw gr s i c∧zfw gr s i c≤gr.P-1:=by
 have hp:=k.p
 have hx:=zn3 k s i c
 have h1:=ztW k.pp (b:=(zlt gr s i c).toNat) (by omega) (by omega) ((gr.P-1)/gr.Q).toNat
 have h2:=Nat.mod_lt ((zlt gr s i c).toNat^((gr.P-1)/gr.Q).toNat) (show 0<gr.P.toNat by omega)
 unfold zfw
 omega
theorem zrW {gr:Group}(k:OkG gr) (s:ByteArray) (i c:Int):
 zbG (IntKind.i64.wrap (1+((zi7 s [gr.P,gr.Q,gr.G,i,c]).tmod (IntKind.i64.wrap (gr.P-1))))) (IntKind.i64.wrap ((IntKind.i64.wrap (gr.P-1)).tdiv gr.Q)) gr.P=some (zfw gr s i c)∧
 zbi (IntKind.i64.wrap (1+((zi7 s [gr.P,gr.Q,gr.G,i,c]).tmod (IntKind.i64.wrap (gr.P-1))))) (IntKind.i64.wrap ((IntKind.i64.wrap (gr.P-1)).tdiv gr.Q)) gr.P=some (zfw gr s i c):=by
 have hp:=k.p
 have hq:=k.q
 have hd:=zcP.1 (zmK s [gr.P,gr.Q,gr.G,i,c])
 have hx:=zn3 k s i c
 have e1:IntKind.i64.wrap (gr.P-1)=gr.P-1:=zap (by omega) (by omega)
 have e2:IntKind.i64.wrap (1+((zi7 s [gr.P,gr.Q,gr.G,i,c]).tmod (gr.P-1)))=zlt gr s i c:=by
  rw[Int.tmod_eq_emod_of_nonneg hd.1]
  unfold zlt at hx⊢
  exact zap (by omega) (by omega)
 have h3:(gr.P-1)/gr.Q≤gr.P-1:=Int.ediv_le_self _ (by omega)
 have h4:0≤(gr.P-1)/gr.Q:=Int.ediv_nonneg (by omega) (by omega)
 have e3:IntKind.i64.wrap ((gr.P-1).tdiv gr.Q)=(gr.P-1)/gr.Q:=by
  rw[Int.tdiv_eq_ediv_of_nonneg (by omega),zap (by omega) (by omega)]
 rw[e1,e2,e3]
 exact zfi (by omega) (by omega) (by omega) (by omega) h4 (by omega)
theorem zrE {gr:Group}(k:OkG gr) {i c:Int}(hi:zbh i=true) (hc:0≤c∧c≤1000):[gr.P,gr.Q,gr.G,i,c].all zbh=true:=by
 have hp:=k.p
 have hq:=k.q
 have hg:=k.g
 simp only[List.all_cons,List.all_nil,Bool.and_true,Bool.and_eq_true]
 exact⟨zcP.2 (by omega),zcP.2 (by omega),zcP.2 (by omega),hi,zcP.2 (by omega)⟩
def zhF (gr:Group) (s:ByteArray) (i y:Int):Prop:=(∃c:Nat,c<1000∧y=zfw gr s i c∧zfw gr s i c≠1∧∀j:Nat,j<c→zfw gr s i j=1)∨(y=0∧∀j:Nat,j<1000→zfw gr s i j=1)
theorem zk3 {gr:Group}(k:OkG gr) {s:ByteArray}{i x y:Int}(h1:zhF gr s i x) (h2:zhF gr s i y):x=y:=by
 rcases h1 with⟨c,hc,rfl,h3,h4⟩|⟨rfl,h4⟩<;>rcases h2 with⟨d,hd,rfl,h5,h6⟩|⟨rfl,h6⟩
 ·rcases Nat.lt_trichotomy c d with h|h|h
  ·exact absurd (h6 c h) h3
  ·rw[h]
  exact absurd (h4 d h) h5
 ·exact absurd (h6 c hc) h3
 ·exact absurd (h4 d hd) h5
 rfl
theorem zw4 {gr:Group}(k:OkG gr) {s:ByteArray}{i x:Int}(h1:zhF gr s i x):0≤x∧x≤gr.P-1:=by
 have hp:=k.p
 rcases h1 with⟨c,hc,rfl,h3,h4⟩|⟨rfl,h4⟩
 ·have:=zok k s i c;omega
 omega
theorem zs6 {gr:Group}(k:OkG gr) {s:ByteArray}(hs:s.size≤40) {i:Int}(hi:zbh i=true):Rn (zen gr s i) (zhF gr s i):=by
 have hp:=k.p
 have hq:=k.q
 unfold zen
 refine zae (ψ:=fun x=>(x=.inl ()∧∀j:Nat,j<1000→zfw gr s i j=1)∨∃c:Nat,c<1000∧x=.inr (zfw gr s i c)∧zfw gr s i c≠1∧∀j:Nat,j<c→zfw gr s i j=1)
  (zeb 1000 (fun n p=>p=(n:Int)∧n≤1000∧∀j:Nat,j<n→zfw gr s i j=1) ⟨rfl,by omega,fun j hj=>by omega⟩ ?_ ?_) ?_
 ·rintro n p hn ⟨rfl,_,hI⟩
  refine zam (fun _=>?_) fun h=>absurd h (by simp;omega)
  refine zaa (zmq (by omega) (by simp) (zrE k hi (by omega))) (zau (by rw[zap (by omega) (by omega)];omega) (zau (by omega) (zaa (zrW k s i n).2 (zam (fun h=>zab (.inr ⟨n,hn,rfl,by simpa using h,hI⟩)) fun h=>zab ⟨by rw[zap (by omega) (by omega)];rfl,hn,fun j hj=>?_⟩))))
  rcases Nat.lt_or_ge j n with h1|h1
  ·exact hI j h1
  have:j=n:=by omega
  subst this
  simpa using h
 ·rintro p ⟨rfl,_,hI⟩
  refine zam (fun h=>absurd h (by simp)) fun _=>zab (.inl ⟨rfl,hI⟩)
 rintro x (⟨rfl,h⟩|⟨c,hc,rfl,h⟩)
 ·exact zab (.inr ⟨rfl,h⟩)
 exact zab (.inl ⟨c,hc,rfl,h⟩)
theorem zwq {gr:Group}(k:OkG gr) {s:ByteArray}(hs:s.size≤40) {i:Int}(hi:zbh i=true):Rn (zbQ gr s i) (fun x=>zhF gr s i x.1∧x.2=decide (0<x.1)):=by
 have hp:=k.p
 have hq:=k.q
 unfold zbQ
 refine zae (ψ:=fun x=>(x=.inl ()∧∀j:Nat,j<1000→zfw gr s i j=1)∨∃c:Nat,c<1000∧x=.inr (zfw gr s i c,true)∧zfw gr s i c≠1∧∀j:Nat,j<c→zfw gr s i j=1)
  (zeb 1000 (fun n p=>p=(n:Int)∧n≤1000∧∀j:Nat,j<n→zfw gr s i j=1) ⟨rfl,by omega,fun j hj=>by omega⟩ ?_ ?_) ?_
 ·rintro n p hn ⟨rfl,_,hI⟩
  refine zam (fun _=>?_) fun h=>absurd h (by simp;omega)
  have hl:zhJ s [gr.P,gr.Q,gr.G,i,(n:Int)]=true:=by
   have:=zrE k (i:=i) (c:=n) hi (by omega)
   simp only[zhJ,this,Bool.and_true,List.length_cons,List.length_nil,Bool.and_eq_true,decide_eq_true_eq]
   omega
  have eh:zcx s [gr.P,gr.Q,gr.G,i,(n:Int)]=some (zi7 s [gr.P,gr.Q,gr.G,i,(n:Int)],true):=by rw[zjY,if_pos hl]
  refine zaa eh (za1 rfl (zau (by rw[zap (by omega) (by omega)];omega) (zau (by omega) (zaa (zrW k s i n).1 (zam (fun h=>zab (.inr ⟨n,hn,rfl,by simpa using h,hI⟩)) fun h=>zab ⟨by rw[zap (by omega) (by omega)];rfl,hn,fun j hj=>?_⟩)))))
  rcases Nat.lt_or_ge j n with h1|h1
  ·exact hI j h1
  have:j=n:=by omega
  subst this
  simpa using h
 ·rintro p ⟨rfl,_,hI⟩
  refine zam (fun h=>absurd h (by simp)) fun _=>zab (.inl ⟨rfl,hI⟩)
 rintro x (⟨rfl,h⟩|⟨c,hc,rfl,h⟩)
 ·exact zab ⟨.inr ⟨rfl,h⟩,rfl⟩
 have:=zok k s i c
 exact zab ⟨.inl ⟨c,hc,rfl,h⟩,by symm;simp;omega⟩
theorem zo7 {gr:Group}(k:OkG gr) {s:ByteArray}(hs:s.size≤40) {i:Int}(hi:zbh i=true):∃y,zen gr s i=some y∧zbQ gr s i=some (y,decide (0<y))∧zhF gr s i y:=by
 obtain⟨y,h1,h2⟩:=zs6 k hs hi
 obtain⟨⟨z,t⟩,h3,h4,h5⟩:=zwq k hs hi
 refine⟨y,h1,?_,h2⟩
 simp only at h4 h5
 have:z=y:=zk3 k h4 h2
 subst this
 rw[h3,h5]
theorem zsn {α:Type}{R:Nat→α→Prop}{l:List α}{n:Nat}{z:α}(hl:l.length=n) (h:∀j (h:j<l.length),R j l[j]) (hz:R n z):∀j (h:j<(l++[z]).length),R j (l++[z])[j]:=by
 intro j hj
 rw[List.getElem_append]
 split
 ·exact h j _
 have hj:j<n+1:=by simpa[hl]using hj
 have e:j=n:=by omega
 subst e
 simpa[hl]using hz
def zol (gr:Group) (n:Nat) (l:List Int):Prop:=l.length=n∧∀j (h:j<l.length),zhF gr ⟨#[104,115]⟩ j l[j]
theorem zxp {gr:Group}(k:OkG gr) {n:Nat}(hn:n≤24):∃b t,zeH gr (n:Int)=some (b,t)∧zaG gr (n:Int)=some (b,t)∧
 (t=true→zhF gr ⟨#[104]⟩ 0 b.H∧0<b.H∧zol gr n b.Hs∧∀x∈b.Hs,0<x):=by
 have hp:=k.p
 obtain⟨y,hy1,hy2,hy3⟩:=zo7 k (s:=⟨#[104]⟩) (by decide) (i:=0) rfl
 have hok:okG gr=true:=zhP.2 k
 have D:∀m:Nat,m<24→∃z,zen gr ⟨#[104,115]⟩ m=some z∧zbQ gr ⟨#[104,115]⟩ m=some (z,decide (0<z))∧zhF gr ⟨#[104,115]⟩ m z:=fun m hm=>zo7 k (by decide) (zcP.2 ⟨by omega,by omega⟩)
 have S:Rn (zfB gr ⟨#[104,115]⟩ (n:Int)) (fun x=>(x.2=true∧zol gr n x.1∧∀z∈x.1,0<z)∨(x=([],false)∧∃m:Nat,m<n∧zhF gr ⟨#[104,115]⟩ m 0)):=by
  unfold zfB
  refine zae (ψ:=fun b=>b=false) ?_ ?_
  ·refine zaa (zfV gr) (za1 (by rw[hok];rfl) (za1 rfl (zaa (zf2 _ _ _) (zab ?_))))
   simp;omega
  ·rintro _ rfl
   refine za1 rfl (zae (ψ:=fun x=>(∃l,x=.inl l∧zol gr n l∧∀z∈l,0<z)∨(x=.inr ([],false)∧∃m:Nat,m<n∧zhF gr ⟨#[104,115]⟩ m 0)) (zeb n (fun m p=>p.2=(m:Int)∧m≤n∧zol gr m p.1∧∀z∈p.1,0<z) ⟨rfl,by omega,⟨rfl,fun j hj=>by simp at hj⟩,fun z hz=>by simp at hz⟩ ?_ ?_) ?_)
   ·rintro m ⟨l,c⟩ hm ⟨h1,_,hD,hpos⟩
    simp only at h1 hD hpos
    subst h1
    obtain⟨z,z1,z2,z3⟩:=D m (by omega)
    have zb:=zw4 k z3
    refine zam (fun _=>?_) fun h=>absurd h (by simp;omega)
    refine zaa z1 (zam (fun h=>zab (.inr ⟨rfl,m,hm,?_⟩)) fun h=>zau ?_ (zab ⟨?_,hm,⟨by simp[hD.1],zsn hD.1 hD.2 z3⟩,fun w hw=>?_⟩))
    ·have:z=0:=by simpa using h
     rw[←this];exact z3
    ·have:=hD.1;simp only;omega
    ·show IntKind.i64.wrap _=_
     rw[zap (by omega) (by omega)];rfl
    ·rcases List.mem_append.1 hw with h1|h1
     ·exact hpos w h1
     ·have:w=z:=by simpa using h1
      subst this
      have:¬w=0:=by simpa using h
      omega
   ·rintro⟨l,_⟩ ⟨rfl,_,hD⟩
    exact zam (fun h=>absurd h (by simp)) fun _=>zab (.inl ⟨l,rfl,hD⟩)
   ·rintro x (⟨l,rfl,h⟩|⟨rfl,h⟩)
    ·exact zab (.inl ⟨rfl,h⟩)
    ·exact zab (.inr ⟨rfl,h⟩)
 have I:Rn (zbS (σ:=Int×List Int×Bool×Int) (β:=Int×List Int×Bool) (fun s16=>
 if decide (s16.2.2.2<(n:Int))=true then(
 (zbQ gr (⟨#[104,115]⟩:ByteArray) s16.2.2.2).bind fun z22=>
 ((if s16.2.2.1=true then(
 some z22.2)else(
 some false):Option Bool).bind fun x25=>
 gd ((s16.2.1.length+1)*8≤140737488355328∧s16.2.1.length+1≤4611686018427387904)<|
 some (.go (s16.1,s16.2.1++[z22.1],x25,IntKind.i64.wrap (s16.2.2.2+1)))))else(
 some (.out (s16.1,s16.2.1,s16.2.2.1)))) (y,[],true,0)) (fun x=>x.1=y∧zol gr n x.2.1∧x.2.2=x.2.1.all (fun z=>decide (0<z))):=by
  refine zeb n (fun m p=>p.1=y∧p.2.2.2=(m:Int)∧m≤n∧zol gr m p.2.1∧p.2.2.1=p.2.1.all (fun z=>decide (0<z))) ⟨rfl,rfl,by omega,⟨rfl,fun j hj=>by simp at hj⟩,rfl⟩ ?_ ?_
  ·rintro m ⟨w,l,t,c⟩ hm ⟨h1,h2,_,hD,h3⟩
   simp only at h1 h2 hD h3
   subst h1 h2 h3
   obtain⟨z,z1,z2,z3⟩:=D m (by omega)
   refine zam (fun _=>?_) fun h=>absurd h (by simp;omega)
   refine zaa z2 (zae (ψ:=fun b=>b=(l.all (fun z=>decide (0<z))&&decide (0<z))) (zam (fun h=>zab ?_) fun h=>zab ?_) ?_)
   ·simp only at h;rw[h];rfl
   ·simp only at h;rw[h];rfl
   ·rintro _ rfl
    refine zau (by have:=hD.1;dsimp only;omega) (zab ⟨rfl,?_,hm,⟨by simp[hD.1],zsn hD.1 hD.2 z3⟩,?_⟩)
    ·show IntKind.i64.wrap ((m:Int)+1)=_
     rw[zap (by omega) (by omega)];rfl
    ·show _=(l++[z]).all _
     simp
  ·rintro⟨w,l,t,c⟩ ⟨h1,h2,_,hD,h3⟩
   simp only at h1 h2 hD h3
   subst h1 h2 h3
   exact zam (fun h=>absurd h (by simp)) fun _=>zab ⟨rfl,hD,rfl⟩
 obtain⟨⟨b,l,t⟩,i1,i2,i3,i4⟩:=I
 simp only at i2 i3 i4
 subst i2
 obtain⟨⟨l2,t2⟩,s1,s2⟩:=S
 have E:t2=t∧(t=true→l2=l∧∀z∈l,0<z):=by
  rcases s2 with⟨h1,h2,h3⟩|⟨h1,m,hm,h3⟩
  ·simp only at h1 h2 h3
   have e:l2=l:=List.ext_getElem (h2.1.trans i3.1.symm) fun j a c=>zk3 k (h2.2 j a) (i3.2 j c)
   subst e
   have:l2.all (fun z=>decide (0<z))=true:=by simpa using h3
   rw[this]at i4
   exact⟨by rw[h1,i4],fun _=>⟨rfl,h3⟩⟩
  ·cases h1
   have hml:m<l.length:=by rw[i3.1];exact hm
   have:l[m]=0:=zk3 k (i3.2 m hml) h3
   have hf:l.all (fun z=>decide (0<z))=false:=by
    rw[List.all_eq_false]
    exact⟨l[m],List.getElem_mem hml,by simp[this]⟩
   rw[hf]at i4
   exact⟨i4.symm,fun h=>by rw[i4]at h;cases h⟩
 have S0:zeH gr (n:Int)=some (if(decide (0<b)&&t2)=true then(⟨b,l2⟩,true)else(⟨0,[]⟩,false)):=by
  have hD:zfU gr ⟨#[104]⟩ 0=some (b,decide (0<b)):=by
   unfold zfU
   rw[zfV,hok]
   simp only[Option.bind_some,Bool.not_true,Bool.false_eq_true,if_false]
   rw[if_neg (show¬(decide (40<(((⟨#[104]⟩:ByteArray).size:Nat):Int))=true)by decide),zte,Option.bind_some,Option.bind_some,if_neg (by decide),hy1,Option.bind_some]
  unfold zeH
  rw[zfV,hok]
  simp only[Option.bind_some,Bool.not_true,Bool.false_eq_true,if_false]
  rw[zf2,Option.bind_some,Option.bind_some,if_neg (by simp;omega),hD,Option.bind_some,s1,Option.bind_some]
  cases decide (0<b)<;>cases t2<;>rfl
 have I0:zaG gr (n:Int)=some (if(decide (0<b)&&t)=true then(⟨b,l⟩,true)else(⟨0,[]⟩,false)):=by
  unfold zaG
  rw[hy2,Option.bind_some,i1,Option.bind_some]
  cases decide (0<b)<;>cases t<;>rfl
 obtain⟨rfl,E2⟩:=E
 cases hb:(decide (0<b)&&t2)with
 |false=>
  rw[hb]at S0 I0
  exact⟨_,_,S0,I0,fun h=>by cases h⟩
 |true=>
  rw[hb]at S0 I0
  simp only[Bool.and_eq_true,decide_eq_true_eq]at hb
  obtain⟨rfl,hpos⟩:=E2 hb.2
  exact⟨_,_,S0,I0,fun _=>⟨hy3,hb.1,i3,hpos⟩⟩
theorem zuv {α β γ:Type}{l:List α}{f:α→β}{body:Int→List β→Option (Stp (List β) γ)}{stop:List β→γ}(a0:List β) (hs:∀k (h:k<l.length) (s:List β),s.length=a0.length+k→body (k:Int) s=some (.go (s++[f l[k]]))):
 zaq body stop l.length 0 a0=some (stop (a0++l.map f)):=by
 refine zaw (zbb (fun k s=>s=a0++(l.take k).map f∧k≤l.length) ⟨by simp,by omega⟩ ?_ ?_)
 ·rintro k s hk ⟨rfl,_⟩
  refine⟨_,hs k hk _ (by simp;omega),?_,hk⟩
  rw[List.take_succ_eq_append_getElem hk,List.map_append,List.append_assoc];rfl
 rintro s ⟨rfl,_⟩
 simp
def inB (a b x:Int):Bool:=decide (a≤x)&&decide (x≤b)
theorem zxd {l:List Int}(h:l.length≤1048576):zli l=some l:=zdJ (by omega)
def itr {σ:Type}(f:Nat→σ→σ):Nat→σ→σ
 |0,s=>s
 |n+1,s=>f n (itr f n s)
theorem zlQ {σ:Type}{f:Nat→σ→σ}{I:Nat→σ→Prop}{s0:σ}(h0:I 0 s0) {m:Nat}(h:∀k s,k<m→I k s→I (k+1) (f k s)):∀k,k≤m→I k (itr f k s0)
 |0,_=>h0
 |k+1,hk=>h k _ (by omega) (zlQ h0 h k (by omega))
theorem zzx {σ β:Type}{body:Int→σ→Option (Stp σ β)}{stop:σ→β}{m:Nat}{s0:σ}(f:Nat→σ→σ) (I:Nat→σ→Prop) (h0:I 0 s0) (hi:∀k s,k<m→I k s→I (k+1) (f k s)) (hs:∀k s,k<m→I k s→body (k:Int) s=some (.go (f k s))):
 zaq body stop m 0 s0=some (stop (itr f m s0)):=by
 refine zaw (zbb (fun k s=>s=itr f k s0∧k≤m) ⟨rfl,by omega⟩ ?_ ?_)
 ·rintro k s hk ⟨rfl,_⟩
  exact⟨_,hs k _ hk (zlQ h0 hi k (by omega)),rfl,hk⟩
 rintro s ⟨rfl,_⟩;rfl
theorem zkr {α:Type}{L:List (List α)}{i:Nat}(h:i<L.length):(L.take (i+1)).flatten=(L.take i).flatten++L[i]:=by
 rw[List.take_succ_eq_append_getElem h,List.flatten_append];simp
theorem zqJ {α:Type}(L:List (List α)) (i:Nat):(L.take i).flatten.length≤L.flatten.length:=by
 have e:L.flatten=(L.take i).flatten++(L.drop i).flatten:=by rw[←List.flatten_append,List.take_append_drop]
 rw[e,List.length_append];omega
theorem zh4 (L:List (List Int)) (h:L.flatten.length≤1000000000000):zaS L=some L.flatten:=by
 unfold zaS
 refine zaw (zae (ψ:=fun n=>n=(L.flatten.length:Int)) (zbb (fun i s=>s=((L.take i).flatten.length:Int)) rfl ?_ ?_) ?_)
 ·rintro i s hi rfl
  have e:=congrArg List.length (zkr hi)
  rw[List.length_append]at e
  have hl:=zqJ L (i+1)
  refine zaQ hi ?_
  rw[zap (by omega) (by omega)]
  refine za1 (by simp only[decide_eq_false_iff_not];omega) (zab ?_)
  show _=_
  omega
 ·rintro s rfl
  rw[List.take_length]
 rintro n rfl
 refine zau (by omega) (zae (ψ:=fun r=>r=L.flatten) (zbb (fun i s=>s=(L.take i).flatten) rfl ?_ ?_) fun r hr=>zab hr)
 ·rintro i s hi rfl
  have e:=congrArg List.length (zkr hi)
  rw[List.length_append]at e
  have hl:=zqJ L (i+1)
  refine zaQ hi (zau (by omega) (zab ?_))
  show _=_
  rw[zkr hi]
 rintro s rfl
 rw[List.take_length]
def chG (gr:Group) (s:ByteArray) (l:List Int):Int:=zi7 s ([gr.P,gr.Q,gr.G]++l)%gr.Q
theorem zgn {gr:Group}(k:OkG gr) (s:ByteArray) (l:List Int):0≤chG gr s l∧chG gr s l<gr.Q:=by
 have:=k.q
 exact⟨Int.emod_nonneg _ (by omega),Int.emod_lt_of_pos _ (by omega)⟩
theorem zrR {gr:Group}(k:OkG gr) {l:List Int}:([gr.P,gr.Q,gr.G]++l).all zbh=l.all zbh:=by
 have hp:=k.p
 have hq:=k.q
 have hg:=k.g
 rw[List.all_append]
 have:[gr.P,gr.Q,gr.G].all zbh=true:=by
  simp only[List.all_cons,List.all_nil,Bool.and_true,Bool.and_eq_true]
  exact⟨zcP.2 (by omega),zcP.2 (by omega),zcP.2 (by omega)⟩
 rw[this,Bool.true_and]
theorem zi5 {gr:Group}(k:OkG gr) {s:ByteArray}{l:List Int}(hs:s.size≤1000000) (hl:l.length≤10000000000) (hd:l.all zbh=true):zex gr s l=some (chG gr s l):=by
 have hq:=k.q
 have hb:=zcP.1 (zmK s ([gr.P,gr.Q,gr.G]++l))
 unfold zex
 rw[zdJ (by simp only[List.length_cons,List.length_nil];omega),zmq hs (by simp only[List.length_append,List.length_cons,List.length_nil];omega) (by rw[zrR k];exact hd),Option.bind_some,zdJ (by omega),Int.tmod_eq_emod_of_nonneg hb.1]
 rfl
theorem zny {gr:Group}(k:OkG gr) (s:ByteArray) {l:List Int}(hl:l.length≤10000000000):zaz gr s l=some (if zhJ s ([gr.P,gr.Q,gr.G]++l)=true then(chG gr s l,true)else(0,false)):=by
 have hq:=k.q
 have hb:=zcP.1 (zmK s ([gr.P,gr.Q,gr.G]++l))
 unfold zaz
 rw[zdJ (by simp only[List.length_cons,List.length_nil];omega),zjY,Option.bind_some]
 cases zhJ s ([gr.P,gr.Q,gr.G]++l)with
 |false=>rfl
 |true=>
  simp only[if_true,Bool.not_true,Bool.false_eq_true,if_false]
  rw[zdJ (by omega),Int.tmod_eq_emod_of_nonneg hb.1]
  rfl
theorem zph {gr:Group}(k:OkG gr) {s:ByteArray}{l:List Int}(hs:s.size≤40) (hl:4+s.size+l.length≤400) (hd:l.all zbh=true):zhJ s ([gr.P,gr.Q,gr.G]++l)=true:=by
 unfold zhJ
 rw[zrR k,hd,Bool.and_true,Bool.and_eq_true,decide_eq_true_eq,decide_eq_true_eq]
 simp only[List.length_append,List.length_cons,List.length_nil]
 omega
theorem zec {gr:Group}(k:OkG gr) {l:List Int}(h:l.all (zal gr)=true):l.all zbh=true:=by
 have hp:=k.p
 rw[List.all_eq_true]at h⊢
 intro x hx
 have:=ze7 (h x hx)
 exact zcP.2 (by omega)
def za0 (gr:Group):List Int→List Int→Int→Int
 |x::l,e::m,o=>za0 gr l m (o*zah gr x e%gr.P)
 |_,_,o=>o
theorem zlw (gr:Group):∀(l m:List Int) (x e o:Int),l.length=m.length→za0 gr (l++[x]) (m++[e]) o=za0 gr l m o*zah gr x e%gr.P
 |[],[],x,e,o,_=>rfl
 |y::l,f::m,x,e,o,h=>zlw gr l m x e _ (by simpa using h)
theorem zpC (gr:Group):∀(l m:List Int) (o:Int),za0 gr l (m.take l.length) o=za0 gr l m o
 |[],m,o=>by cases m<;>rfl
 |y::l,[],o=>rfl
 |y::l,f::m,o=>zpC gr l m _
theorem zsb {gr:Group}(h:0<gr.P):∀(l m:List Int) (o:Int),0≤o∧o<gr.P→0≤za0 gr l m o∧za0 gr l m o<gr.P
 |x::l,e::m,o,_=>zsb h l m _ ⟨Int.emod_nonneg _ (by omega),Int.emod_lt_of_pos _ h⟩
 |[],_,o,ho=>ho
 |_::_,[],o,ho=>ho
theorem zj6 {gr:Group}(k:OkG gr) {x y:Int}(hx:0≤x∧x<gr.P) (hy:0≤y):zao gr [x,y]=x*y%gr.P:=by
 have hp:=k.p
 simp only[zao,List.foldl_cons,List.foldl_nil,Int.one_mul]
 rw[Int.emod_eq_of_lt hx.1 hx.2]
theorem zcJ {gr:Group}(k:OkG gr) {l m:List Int}(hl:∀x∈l,0≤x∧x≤2000000000) (hm:l.length≤m.length):zaE gr l m=some (za0 gr l m 1):=by
 have hp:=k.p
 unfold zaE
 refine zaw (zae (ψ:=fun b=>b=za0 gr l m 1) (zbb (fun i s=>s=za0 gr (l.take i) (m.take i) 1) rfl ?_ ?_) fun b hb=>zab hb)
 ·rintro i s hi rfl
  have bd:=zsb (gr:=gr) (by omega) (l.take i) (m.take i) 1 (by omega)
  have hx:=hl l[i] (List.getElem_mem hi)
  have pb:=zeJ k l[i] (m[i]'(by omega))
  refine zaQ hi (zaQ (show i<m.length by omega) (zaa (zhW k hx.1 hx.2 _).1 (zaa (ziz k ?_) (zab ?_))))
  ·intro y hy
   simp only[List.mem_cons,List.not_mem_nil,or_false]at hy
   rcases hy with rfl|rfl<;>omega
  show _=za0 gr (l.take (i+1)) (m.take (i+1)) 1
  rw[List.take_succ_eq_append_getElem hi,List.take_succ_eq_append_getElem (show i<m.length by omega),zlw _ _ _ _ _ _ (by simp;omega),zj6 k bd pb.1]
 rintro s rfl
 rw[List.take_length,zpC]
structure LinS (gr:Group) (bs:List (List Int)):Prop where
 n:1≤bs.length∧bs.length≤8
 m:1≤(bs.headD []).length∧(bs.headD []).length≤8
 r:∀r∈bs,r.length=(bs.headD []).length∧r.all (zal gr)=true
theorem LinS.dig {gr:Group}(k:OkG gr) {bs:List (List Int)}(h:LinS gr bs):bs.flatten.all zbh=true:=by
 rw[List.all_eq_true]
 intro x hx
 obtain⟨r,hr,hx⟩:=List.mem_flatten.1 hx
 exact List.all_eq_true.1 (zec k (h.r r hr).2) x hx
theorem zxL {gr:Group}(k:OkG gr) {l:List Int}(h:l.all (zal gr)=true):∀x∈l,0≤x∧x≤2000000000:=fun x hx=>by
 have hp:=k.p
 have:=ze7 (List.all_eq_true.1 h x hx)
 omega
theorem zeI {gr:Group}(k:OkG gr):zal gr gr.G=true:=by
 have hg:=k.g
 simp only[zal,Bool.and_eq_true,decide_eq_true_eq]
 exact⟨by omega,k.o⟩
theorem zyX {β γ:Type}{n:Nat}{f:Nat→β}{body:Int→List β→Option (Stp (List β) γ)}{stop:List β→γ}(hs:∀k (s:List β),k<n→s.length=k→body (k:Int) s=some (.go (s++[f k]))):
 zaq body stop n 0 []=some (stop ((List.range n).map f)):=by
 refine zaw (zbb (fun k s=>s=(List.range k).map f) rfl ?_ ?_)
 ·rintro k s hk rfl
  refine⟨_,hs k _ hk (by simp),?_⟩
  show _=_
  rw[List.range_succ,List.map_append];rfl
 rintro s rfl;rfl
def zBl {α:Type}(f:α→Int) (L:List α) (T:Nat):List α:=(List.range T).flatMap fun i=>L.filter fun e=>f e==((i+1:Nat):Int)
theorem znQ {gr:Group}(k:OkG gr) {a:Int}(ha:0≤a):zah gr gr.G a=((gr.G.toNat^a.toNat%gr.P.toNat:Nat):Int):=by
 have hq:=k.q
 obtain⟨n,rfl⟩:=Int.eq_ofNat_of_zero_le ha
 obtain⟨q,hQ⟩:=Int.eq_ofNat_of_zero_le (show 0≤gr.Q by omega)
 unfold zah
 have ho:=k.o
 rw[hQ]at ho⊢
 rw[Int.toNat_natCast]at ho
 rw[←Int.natCast_emod,Int.toNat_natCast,Int.toNat_natCast,zj8 ho]
theorem zvr {gr:Group}(k:OkG gr) {a b:Int}(ha:0≤a) (hb:0≤b):zao gr [zah gr gr.G a,zah gr gr.G b]=zah gr gr.G (a+b):=by
 have hp:=k.p
 obtain⟨P,hP⟩:=Int.eq_ofNat_of_zero_le (show 0≤gr.P by omega)
 have hx:=zeJ k gr.G a
 rw[zj6 k (by omega) (zeJ k gr.G b).1,znQ k ha,znQ k hb,znQ k (by omega),hP]
 rw[←Int.natCast_mul,←Int.natCast_emod,Int.toNat_natCast,←Nat.mul_mod,←Nat.pow_add,Int.toNat_add ha hb]
theorem zui {gr:Group}(k:OkG gr):zah gr gr.G 0=1:=by
 have hp:=k.p
 rw[znQ k (Int.le_refl 0)]
 show((1%gr.P.toNat:Nat):Int)=1
 rw[Nat.mod_eq_of_lt (by omega)];rfl
theorem zrO {gr:Group}{a b:Int}(x:Int) (h:a%gr.Q=b%gr.Q):zah gr x a=zah gr x b:=by
 unfold zah;rw[h]
structure Gb (gr:Group):Prop where
 p:1≤gr.P∧gr.P≤2000000000
 q:1≤gr.Q∧gr.Q≤2000000000
 g:0≤gr.G∧gr.G≤2000000000
theorem Gb.w {gr:Group}(k:Gb gr):Gw gr:=by
 have a:=k.p
 have b:=k.q
 have c:=k.g
 exact⟨by omega,by omega,by omega⟩
theorem zt3:∀{l v:List Int},l.Nodup→(∀x∈l,x∈v)→l.length≤v.length
 |[],v,_,_=>by simp
 |x::l,v,hn,hs=>by
  obtain⟨h1,h2⟩:=List.nodup_cons.1 hn
  have hx:=hs x (by simp)
  have:=zt3 (l:=l) (v:=v.erase x) h2 fun y hy=>(List.mem_erase_of_ne (show y≠x from fun e=>h1 (e▸hy))).2 (hs y (List.mem_cons_of_mem _ hy))
  rw[List.length_erase_of_mem hx]at this
  have:=List.length_pos_of_mem hx
  rw[List.length_cons];omega
theorem zsm {gr:Group}{x:Int}:zdV gr x=true↔0≤x∧x<gr.Q:=by
 unfold zdV
 simp only[Bool.and_eq_true,decide_eq_true_eq]
 omega
theorem zjN {gr:Group}(k:OkG gr) {l:List Int}(h:∀x∈l,zal gr x=true):∀x∈l,0≤x∧x≤2000000000:=zxL k (List.all_eq_true.2 h)
theorem zdQ {gr:Group}(k:OkG gr) (v:Int):zak gr v=some (v%gr.Q):=by
 have hp:=k.p
 have hq:=k.q
 unfold zak
 rw[zsy (by omega) (by omega)];rfl
theorem zaC {α:Type}{l:List α}{d:α}{i:Nat}(h:i<l.length):l.getD i d=l[i]:=by
 rw[List.getD_eq_getElem?_getD,List.getElem?_eq_getElem h];rfl
theorem zvv {code c0:List Int}{at_ seed n:Int}{m:Nat}(hb:Bt code) (h:Cu code n (c0,at_,seed)) (hn:n≤8000000000000000) (hm:1≤m):Rn (zat c0 at_ seed (m:Int)) (fun z=>(∃i:Nat,z.1=(i:Int)∧i<m)∧Cu code (n+2) z.2):=by
 obtain⟨z,h1,h2,h3,h4,_,h5⟩:=zeh (m:=(m:Int)) hb h hn
 obtain⟨i,hi⟩:=Int.eq_ofNat_of_zero_le h2
 refine⟨z,h1,⟨i,hi,?_⟩,h5⟩
 rcases Nat.lt_or_ge 1 m with h6|h6
 ·have:=h4 (by omega);omega
 have:=h3 (by omega);omega
def R9 (x:Int):Prop:=0≤x∧x≤2000000000
theorem zc6 {gr:Group}(k:OkG gr) {x:Int}(h:zal gr x=true):R9 x:=by
 have:=ze7 h;have:=k.p;exact⟨by omega,by omega⟩
theorem zba {gr:Group}(k:OkG gr) (x e:Int):R9 (zah gr x e):=by
 have:=zeJ k x e;have:=k.p;exact⟨by omega,by omega⟩
theorem zsW {x y:Int}(hx:R9 x) (hy:R9 y):∀z∈[x,y],0≤z∧z≤2000000000:=by
 intro z hz
 simp only[List.mem_cons,List.not_mem_nil,or_false]at hz
 rcases hz with rfl|rfl
 ·exact hx
 exact hy
theorem zpc {gr:Group}(k:OkG gr) {l:List Int}(h:∀x∈l,0≤x∧x≤2000000000):R9 (zao gr l):=by
 have:=zse k h;have:=k.p;exact⟨by omega,by omega⟩
theorem zft {gr:Group}(k:OkG gr) {x y:Int}(hx:R9 x) (hy:R9 y):R9 (zao gr [x,y]):=zpc k (zsW hx hy)
theorem zwI {l:List Int}(h:∀x∈l,R9 x):l.all zbh=true:=List.all_eq_true.2 fun x hx=>zcP.2 ⟨(h x hx).1,by have:=(h x hx).2;omega⟩
theorem m2I {gr:Group}(k:OkG gr) {x y:Int}(hx:R9 x) (hy:R9 y):zai gr [x,y]=some (zao gr [x,y]):=ziz k (zsW hx hy)
theorem m2S {gr:Group}(k:OkG gr) {x y:Int}(hx:R9 x) (hy:R9 y):zcR gr [x,y]=some (zao gr [x,y]):=zlD k (zsW hx hy)
theorem pwI {gr:Group}(k:OkG gr) {x:Int}(hx:R9 x) (e:Int):zag gr x e=some (zah gr x e):=(zhW k hx.1 hx.2 e).1
theorem r_G {gr:Group}(k:OkG gr):R9 gr.G:=zc6 k (zeI k)
theorem znE {gr:Group}(k:OkG gr) {n:Nat}(h0:n<gr.P.toNat) (h:n^gr.Q.toNat%gr.P.toNat=1):zal gr (n:Int)=true:=by
 have hp:=k.p
 have hq:=k.q
 have h1:1≤n:=by
  rcases Nat.eq_zero_or_pos n with h2|h2
  ·rw[h2,Nat.zero_pow (by omega),Nat.zero_mod]at h;omega
  ·exact h2
 simp only[zal,Bool.and_eq_true,decide_eq_true_eq]
 exact⟨⟨by omega,by omega⟩,by rw[Int.toNat_natCast];exact h⟩
theorem zdt {gr:Group}(k:OkG gr) {x:Int}(hx:zal gr x=true) (e:Int):zal gr (zah gr x e)=true:=by
 have hp:=k.p
 refine znE k (Nat.mod_lt _ (by omega)) ?_
 rw[←Nat.pow_mod,←Nat.pow_mul,Nat.mul_comm,Nat.pow_mul,Nat.pow_mod,(ziI hx).2.2,Nat.one_pow,Nat.mod_eq_of_lt (by omega)]
theorem zfu {gr:Group}(k:OkG gr) {x y:Int}(hx:zal gr x=true) (hy:zal gr y=true):zal gr (zao gr [x,y])=true:=by
 have hp:=k.p
 have bx:=ze7 hx
 have by':=ze7 hy
 rw[zj6 k ⟨by omega,by omega⟩ (by omega)]
 obtain⟨a,rfl⟩:=Int.eq_ofNat_of_zero_le (show 0≤x by omega)
 obtain⟨b,rfl⟩:=Int.eq_ofNat_of_zero_le (show 0≤y by omega)
 obtain⟨p,hP⟩:=Int.eq_ofNat_of_zero_le (show 0≤gr.P by omega)
 have h1:=(ziI hx).2.2
 have h2:=(ziI hy).2.2
 rw[Int.toNat_natCast]at h1 h2
 have e:((a:Int)*(b:Int))%gr.P=((a*b%gr.P.toNat:Nat):Int):=by rw[hP,Int.toNat_natCast,Int.natCast_emod,Int.natCast_mul]
 rw[e]
 refine znE k (Nat.mod_lt _ (by omega)) ?_
 rw[←Nat.pow_mod,Nat.mul_pow,Nat.mul_mod,h1,h2,Nat.mod_eq_of_lt (by omega)]
theorem zj5 {gr:Group}(k:OkG gr):zal gr 1=true:=by
 have hp:=k.p
 exact znE (n:=1) k (by omega) (by rw[Nat.one_pow,Nat.mod_eq_of_lt (by omega)])
theorem zpG {p a b:Int}(h:a%p=b%p):(a-b)%p=0:=by rw[Int.sub_emod,h,Int.sub_self,Int.zero_emod]
def prI (l:List Int):Int:=l.foldr (· * ·) 1
theorem zwd {l m:List Int}(h:l.Perm m):prI l=prI m:=by
 induction h with
 |nil=>rfl
 |cons x _ ih=>show x*prI _=x*prI _;rw[ih]
 |swap x y l=>show y*(x*prI l)=x*(y*prI l);rw[←Int.mul_assoc,←Int.mul_assoc,Int.mul_comm y x]
 |trans _ _ h1 h2=>rw[h1,h2]
theorem zsd:∀{l m:List Int},l.Nodup→(∀x∈l,x∈m)→m.length≤l.length→l.Perm m
 |[],m,_,_,h=>by rw[List.length_eq_zero_iff.1 (show m.length=0 by simpa using h)]
 |x::l,m,hn,hs,h=>by
  obtain⟨h1,h2⟩:=List.nodup_cons.1 hn
  have hx:=hs x (by simp)
  have hl:(m.erase x).length=m.length-1:=List.length_erase_of_mem hx
  have:=zsd (l:=l) (m:=m.erase x) h2 (fun y hy=>by
   have hy2:=hs y (List.mem_cons_of_mem _ hy)
   exact(List.mem_erase_of_ne (fun e=>h1 (by rw[←e];exact hy))).2 hy2) (by rw[List.length_cons]at h;omega)
  exact(this.cons x).trans (List.perm_cons_erase hx).symm
theorem zrH {p a:Int}:∀l:List Int,prI (l.map fun i=>(a*i)%p)%p=(a^l.length*prI l)%p
 |[]=>by simp[prI]
 |x::l=>by
  have ih:=zrH (p:=p) (a:=a) l
  show((a*x)%p*prI (l.map fun i=>(a*i)%p))%p=(a^(l.length+1)*(x*prI l))%p
  rw[Int.mul_emod,Int.emod_emod,ih,←Int.mul_emod]
  congr 1
  rw[Int.pow_succ]
  grind
theorem zuy {p:Nat}(hp:Pr p) (h2:2≤p):∀{l:List Int},(∀x∈l,x%(p:Int)≠0)→prI l%(p:Int)≠0
 |[],_=>by show(1:Int)%(p:Int)≠0;rw[Int.emod_eq_of_lt (by omega) (by omega)];omega
 |x::l,h=>fun e=>by
  rcases zjU hp (a:=x) (b:=prI l) e with e|e
  ·exact h x (by simp) e
  ·exact zuy hp h2 (fun y hy=>h y (List.mem_cons_of_mem _ hy)) e
theorem zza {p:Nat}(hp:Pr p) (h2:2≤p) {a:Nat}(ha:1≤a) (hap:a<p):a^(p-1)%p=1:=by
 let L:List Int:=(List.range (p-1)).map fun(i:Nat)=>(i:Int)+1
 have hL:∀x,x∈L↔1≤x∧x≤(p:Int)-1:=by
  intro x
  simp only[L,List.mem_map,List.mem_range]
  constructor
  ·rintro⟨i,hi,rfl⟩;omega
  ·rintro⟨h1,h2⟩;exact⟨(x-1).toNat,by omega,by omega⟩
 have hN:L.Nodup:=List.Pairwise.map _ (fun a b (h:a≠b)=>by omega) List.nodup_range
 have inj:∀x∈L,∀y∈L,((a:Int)*x)%p=((a:Int)*y)%p→x=y:=by
  intro x hx y hy e
  have hx:=(hL x).1 hx
  have hy:=(hL y).1 hy
  have e2:((a:Int)*(x-y))%(p:Int)=0:=by
   rw[Int.mul_sub];exact zpG e
  rcases zjU hp e2 with e3|e3
  ·rw[Int.emod_eq_of_lt (by omega) (by omega)]at e3;omega
  ·obtain⟨c,hc⟩:=Int.dvd_of_emod_eq_zero e3
   have:c=0:=by
    rcases Int.lt_trichotomy c 0 with h|h|h
    ·have:(p:Int)*c≤(p:Int)*(-1):=Int.mul_le_mul_of_nonneg_left (by omega) (by omega)
     omega
    ·exact h
    ·have:(p:Int)*1≤(p:Int)*c:=Int.mul_le_mul_of_nonneg_left (by omega) (by omega)
     omega
   rw[this,Int.mul_zero]at hc;omega
 have hM:(L.map fun i=>((a:Int)*i)%(p:Int)).Perm L:=by
  refine zsd ?_ ?_ (by simp)
  ·refine List.pairwise_map.2 (List.Pairwise.imp_of_mem ?_ hN)
   intro x y hx hy hne e
   exact hne (inj x hx y hy e)
  ·intro z hz
   obtain⟨x,hx,rfl⟩:=List.mem_map.1 hz
   refine(hL _).2 ?_
   have h1:=Int.emod_nonneg ((a:Int)*x) (show(p:Int)≠0 by omega)
   have h3:=Int.emod_lt_of_pos ((a:Int)*x) (show(0:Int)<p by omega)
   have:((a:Int)*x)%(p:Int)≠0:=fun e=>by
    have hx:=(hL x).1 hx
    rcases zjU hp e with e|e<;>rw[Int.emod_eq_of_lt (by omega) (by omega)]at e<;>omega
   omega
 have h4:=zrH (p:=(p:Int)) (a:=(a:Int)) L
 rw[zwd hM]at h4
 have hne:prI L%(p:Int)≠0:=zuy hp h2 fun x hx=>by
  have hx:=(hL x).1 hx
  rw[Int.emod_eq_of_lt (by omega) (by omega)];omega
 have hlen:L.length=p-1:=by simp[L]
 rw[hlen]at h4
 have e5:(((a:Int)^(p-1)-1)*prI L)%(p:Int)=0:=by
  rw[Int.sub_mul,Int.one_mul];exact zpG h4.symm
 rcases zjU hp e5 with e|e
 ·obtain⟨c,hc⟩:=Int.dvd_of_emod_eq_zero e
  have e6:(a:Int)^(p-1)%(p:Int)=1:=by
   rw[show(a:Int)^(p-1)=1+(p:Int)*c by omega,Int.add_mul_emod_self_left,Int.emod_eq_of_lt (by omega) (by omega)]
  have:((a^(p-1)%p:Nat):Int)=1:=by rw[Int.natCast_emod,Int.natCast_pow];exact e6
  omega
 exact absurd e hne
theorem zrw {gr:Group}(k:OkG gr) {s:ByteArray}{i y:Int}(h:zhF gr s i y) (h0:0<y):zal gr y=true:=by
 have hp:=k.p
 have hq:=k.q
 rcases h with⟨c,_,hy,_,_⟩|⟨hy,_⟩
 ·rw[hy]
  have hx:=zn3 k s i c
  refine znE k (Nat.mod_lt _ (by omega)) ?_
  rw[←Nat.pow_mod,←Nat.pow_mul]
  have e:((gr.P-1)/gr.Q).toNat*gr.Q.toNat=gr.P.toNat-1:=by
   obtain⟨P,hP⟩:=Int.eq_ofNat_of_zero_le (show 0≤gr.P-1 by omega)
   obtain⟨Q,hQ⟩:=Int.eq_ofNat_of_zero_le (show 0≤gr.Q by omega)
   have hd:=k.d
   have hPn:gr.P.toNat-1=P:=by omega
   rw[hPn,hQ,Int.toNat_natCast]at hd
   rw[hP,hQ,hPn,Int.toNat_natCast,←Int.natCast_ediv,Int.toNat_natCast]
   exact Nat.div_mul_cancel (Nat.dvd_of_mod_eq_zero hd)
  rw[e]
  exact zza k.pp (by omega) (by omega) (by omega)
 omega
def reV (gr:Group) (key:Int) (c:Cipher) (r:Int):Cipher:=⟨zao gr [c.A,zah gr gr.G r],zao gr [c.B,zao gr [1,zah gr key r]]⟩
theorem zAi {gr:Group}(k:OkG gr) {key:Int}(hk:zal gr key=true) {c:Cipher}(hc:zbg gr c=true) (r:Int):zbg gr (reV gr key c r)=true:=by
 simp only[zbg,Bool.and_eq_true]at hc⊢
 exact⟨zfu k hc.1 (zdt k (zeI k) r),zfu k hc.2 (zfu k (zj5 k) (zdt k hk r))⟩
theorem zuI {gr:Group}(k:OkG gr) {x:Int}(hx:0≤x∧x<gr.P):zcR gr [1,x]=some x:=by
 have hp:=k.p
 rw[m2S k (x:=1) (y:=x) ⟨by omega,by omega⟩ ⟨by omega,by omega⟩,zj6 k ⟨by omega,by omega⟩ (by omega),Int.one_mul,Int.emod_eq_of_lt hx.1 hx.2]
theorem zBz {gr:Group}(k:OkG gr) {key:Int}(hk:zal gr key=true) {c:Cipher}(hc:zbg gr c=true) (r:Int):zcr gr key c r=some (reV gr key c r):=by
 have hc2:=hc
 simp only[zbg,Bool.and_eq_true]at hc2
 unfold zcr
 rw[(zov k hk (zj5 k) r).1,Option.bind_some]
 unfold zeV
 rw[m2I k (zc6 k hc2.1) (zba k _ _),Option.bind_some,m2I k (zc6 k hc2.2) (zft k ⟨by omega,by omega⟩ (zba k _ _))]
 rfl
theorem zCx {gr:Group}(k:OkG gr) {key:Int}(hk:zal gr key=true) {c:Cipher}(hc:zbg gr c=true) (r:Int):zfg gr key c r=some (reV gr key c r):=by
 have hc2:=hc
 simp only[zbg,Bool.and_eq_true]at hc2
 have hp:=k.p
 have b1:=ze7 hc2.1
 have b2:=ze7 hc2.2
 unfold zfg
 rw[(zov k hk (zj5 k) r).2,Option.bind_some]
 unfold zgG
 simp only[List.length_cons,List.length_nil,zaq]
 have e0:∀{a b:Cipher},ix [a,b] 0=some a:=fun{a b}=>rfl
 have e1:∀{a b:Cipher},ix [a,b] (0+1)=some b:=fun{a b}=>rfl
 simp only[e0,e1,Option.bind_some,zuI k (x:=c.A) ⟨by omega,by omega⟩,zuI k (x:=c.B) ⟨by omega,by omega⟩,m2S k (zc6 k hc2.1) (zba k _ _),m2S k (zc6 k hc2.2) (zft k (x:=1) ⟨by omega,by omega⟩ (zba k _ _))]
 rfl
theorem znS {gr:Group}(k:OkG gr) (key:Int) (l:List Cipher):zcO gr key l=some (zal gr key&&(inB 1 12 l.length&&l.all (zbg gr))):=by
 unfold zcO zf7
 rw[zfV,zhP.2 k,Option.bind_some,if_pos rfl,zuD k]
 simp only[Option.bind_some]
 cases zal gr key
 ·rfl
 simp only[if_pos,zf2,Option.bind_some,Bool.true_and]
 show Option.bind (if inB 1 12 l.length=true then _ else _) _=_
 by_cases h:inB 1 12 l.length=true
 ·rw[if_pos h,zrL k,h]
  have h2:l.length≤24:=by simp only[inB,Bool.and_eq_true,decide_eq_true_eq]at h;omega
  simp[h2]
 rw[if_neg h];simp only[Bool.not_eq_true]at h;rw[h];rfl
theorem zwi {gr:Group}(k:¬OkG gr) (key:Int) (l:List Cipher):zcO gr key l=some false:=by
 unfold zcO zf7
 rw[zfV,zfs k,Option.bind_some,if_neg (by simp)]
 rfl
theorem zhi {gr:Group}(k:OkG gr) (l:List Cipher):zbw gr l=some (inB 1 12 l.length&&l.all (zbg gr)):=by
 unfold zbw
 rw[zfT,Option.bind_some]
 show Option.bind (if inB 1 12 l.length=true then _ else _) _=_
 by_cases h:inB 1 12 l.length=true
 ·rw[if_pos h,zqK k,h]
  have h2:l.length≤24:=by simp only[inB,Bool.and_eq_true,decide_eq_true_eq]at h;omega
  simp[h2]
 rw[if_neg h];simp only[Bool.not_eq_true]at h;rw[h];rfl
def zdq (l:List Int):Bool:=l.all (inB 0 ((l.length:Int)-1))&&zif l
theorem zxD (l:List Int) (m:Nat) (hm:m≤1000):zeT l (m:Int)=some (decide (l.length=m)&&zdq l):=by
 unfold zeT
 by_cases h:l.length=m
 ·subst h
  rw[zap (n:=(l.length:Int)-1) (by omega) (by omega),zn7,zuo l (by omega)]
  simp only[beq_self_eq_true,if_true,Option.bind_some,decide_true,Bool.true_and]
  show Option.bind (if l.all (inB 0 ((l.length:Int)-1))=true then _ else _) _=_
  unfold zdq
  cases l.all (inB 0 ((l.length:Int)-1))<;>rfl
 have h2:((l.length:Int)==(m:Int))=false:=by simp;omega
 simp[h2,h]
theorem zwv (l:List Int):zdK l=some (decide (l.length≤24)&&zdq l):=by
 unfold zdK
 by_cases h:l.length≤24
 ·have h2:decide ((l.length:Int)≤24)=true:=by simp;omega
  rw[h2,if_pos rfl]
  have e:zbA l l=some (l.all (inB 0 ((l.length:Int)-1))):=by
   unfold zbA zaR zaV
   refine zkh (p:=inB 0 ((l.length:Int)-1)) (f:=fun x=>zbt x l) fun x _=>?_
   unfold zbt zdZ
   rw[zap (n:=(l.length:Int)-1) (by omega) (by omega),zfT]
   rfl
  rw[e,ztM l (by omega)]
  unfold zdq
  cases l.all (inB 0 ((l.length:Int)-1))<;>simp[h]
 have h2:decide ((l.length:Int)≤24)=false:=by simp;omega
 simp[h2,h]
theorem zkM {gr:Group}(k:OkG gr) {n:Nat}(hn:n≤24) (perm rs:List Int):zce gr perm rs (n:Int)=some (decide (perm.length=n)&&zdq perm&&(decide (rs.length=n)&&rs.all (zdV gr))):=by
 have hq:=k.q
 have hp:=k.p
 unfold zce
 rw[zwv,zh3 (by omega) (by omega)]
 have e1:((perm.length:Int)==(n:Int))=decide (perm.length=n):=by by_cases h:perm.length=n<;>simp[h];omega
 have e2:((rs.length:Int)==(n:Int))=decide (rs.length=n):=by by_cases h:rs.length=n<;>simp[h];omega
 rw[e1,e2]
 by_cases h1:perm.length=n
 ·have h24:decide (perm.length≤24)=true:=by simp;omega
  rw[h24]
  simp only[h1,decide_true,Bool.true_and]
  cases zdq perm<;>by_cases h3:rs.length=n<;>simp[h3]
 simp only[h1,decide_false,Bool.false_and]
 cases (decide (perm.length≤24)&&zdq perm)<;>simp
theorem znT {l:List Int}(h:zdq l=true) {j:Int}(hj:0≤j∧j<l.length):j∈l:=by
 simp only[zdq,Bool.and_eq_true,zif,decide_eq_true_eq,List.all_eq_true,inB]at h
 refine Classical.byContradiction fun hn=>?_
 have:=zt3 (l:=j::l) (v:=(List.range l.length).map fun(i:Nat)=>(i:Int)) (List.nodup_cons.2 ⟨hn,h.2⟩) (fun x hx=>by
  simp only[List.mem_map,List.mem_range]
  rcases List.mem_cons.1 hx with rfl|hx
  ·exact⟨x.toNat,by omega,by omega⟩
  ·have:=h.1 x hx;exact⟨x.toNat,by omega,by omega⟩)
 simp at this
 omega
structure MxOk (gr:Group) (key:Int) (l:List Cipher) (perm rs:List Int):Prop where
 key:zal gr key=true
 n:1≤l.length∧l.length≤12
 c:∀x∈l,zbg gr x=true
 pl:perm.length=l.length
 pr:∀x∈perm,0≤x∧x<l.length
 pb:zdq perm=true
 rl:rs.length=l.length
 re:rs.all (zdV gr)=true
theorem zCe {gr:Group}{key:Int}{l:List Cipher}{perm rs:List Int}:((zal gr key&&(inB 1 12 l.length&&l.all (zbg gr)))&&(decide (perm.length=l.length)&&zdq perm&&(decide (rs.length=l.length)&&rs.all (zdV gr))))=true↔MxOk gr key l perm rs:=by
 constructor
 ·intro h
  simp only[Bool.and_eq_true,decide_eq_true_eq,inB]at h
  obtain⟨⟨h1,⟨h2,h3⟩,h4⟩,⟨h5,h6⟩,h7,h8⟩:=h
  refine⟨h1,by omega,List.all_eq_true.1 h4,h5,fun x hx=>?_,h6,h7,h8⟩
  simp only[zdq,Bool.and_eq_true]at h6
  have:=List.all_eq_true.1 h6.1 x hx
  simp only[inB,Bool.and_eq_true,decide_eq_true_eq]at this
  omega
 intro h
 simp only[Bool.and_eq_true,decide_eq_true_eq,inB]
 have:=h.n
 exact⟨⟨h.key,⟨by omega,by omega⟩,List.all_eq_true.2 h.c⟩,⟨h.pl,h.pb⟩,h.rl,h.re⟩
def za2 (gr:Group) (key:Int) (l:List Cipher) (perm rs:List Int):List Cipher:=(List.range perm.length).map fun i=>reV gr key (l.getD (perm.getD i 0).toNat ⟨0,0⟩) (rs.getD i 0)
theorem zpj {gr:Group}(k:OkG gr) {key:Int}{l:List Cipher}{perm rs:List Int}(m:MxOk gr key l perm rs) (E:Cipher→Int→Option Cipher) (hE:∀c r,zbg gr c=true→E c r=some (reV gr key c r)):zaq (σ:=List Cipher) (fun i5 s4=>
 (ix perm i5).bind fun x11=>
 (ix l x11).bind fun x12=>
 (ix rs i5).bind fun x13=>
 (E x12 x13).bind fun z14=>
 gd ((s4.length+1)*16≤140737488355328∧s4.length+1≤4611686018427387904)<|
 some (.go (s4++[z14]))) (fun s4=>s4) perm.length 0 []=some (za2 gr key l perm rs):=by
 have hn:=m.n
 have hpl:=m.pl
 have hrl:=m.rl
 refine zyX (f:=fun i=>reV gr key (l.getD (perm.getD i 0).toNat ⟨0,0⟩) (rs.getD i 0)) fun i s hi hs=>?_
 have hx:=m.pr _ (List.getElem_mem hi)
 obtain⟨j,hj⟩:=Int.eq_ofNat_of_zero_le hx.1
 have hj2:j<l.length:=by omega
 rw[zed hi,Option.bind_some,hj,zed hj2,Option.bind_some,zed (show i<rs.length by omega),Option.bind_some,hE _ _ (m.c _ (List.getElem_mem hj2)),Option.bind_some,zdJ (by omega),zaC hi,hj,Int.toNat_natCast,zaC hj2,zaC (show i<rs.length by omega)]
theorem zpi {gr:Group}(k:OkG gr) {key:Int}{l:List Cipher}{perm rs:List Int}(m:MxOk gr key l perm rs):zdp gr key l perm rs=some (za2 gr key l perm rs):=by
 unfold zdp
 rw[zpj k m (zcr gr key) fun c r hc=>zBz k m.key hc r]
 rfl
theorem zzU {gr:Group}(k:OkG gr) {key:Int}{l:List Cipher}{perm rs:List Int}(m:MxOk gr key l perm rs):zgb gr key l perm rs=some (za2 gr key l perm rs):=by
 unfold zgb
 rw[zpj k m (zfg gr key) fun c r hc=>zCx k m.key hc r]
 rfl
theorem zd6 (gr:Group) (key:Int) (l:List Cipher) (perm rs:List Int):(za2 gr key l perm rs).length=perm.length:=by simp[za2]
theorem zg4 {gr:Group}(k:OkG gr) {key:Int}{l:List Cipher}{perm rs:List Int}(m:MxOk gr key l perm rs):∀c∈za2 gr key l perm rs,zbg gr c=true:=by
 intro c hc
 obtain⟨i,hi,rfl⟩:=List.mem_map.1 hc
 have hi:=List.mem_range.1 hi
 refine zAi k m.key ?_ _
 have hx:=m.pr _ (List.getElem_mem hi)
 rw[zaC hi,zaC (show(perm[i]).toNat<l.length by omega)]
 exact m.c _ (List.getElem_mem _)
structure BsOk (gr:Group) (n:Nat) (b:Bases):Prop where
 h:zal gr b.H=true
 l:b.Hs.length=n
 s:∀x∈b.Hs,zal gr x=true
theorem zIb {gr:Group}(k:OkG gr) {n:Nat}(hn:n≤24):∃b t,zeH gr (n:Int)=some (b,t)∧zaG gr (n:Int)=some (b,t)∧(t=true→BsOk gr n b):=by
 obtain⟨b,t,h1,h2,h3⟩:=zxp k hn
 refine⟨b,t,h1,h2,fun ht=>?_⟩
 obtain⟨c1,c2,c3,c4⟩:=h3 ht
 refine⟨zrw k c1 c2,c3.1,fun x hx=>?_⟩
 obtain⟨j,hj,rfl⟩:=List.getElem_of_mem hx
 exact zrw k (c3.2 j hj) (c4 _ hx)
def zi8 (gr:Group) (Hs perm ss:List Int) (i:Nat) (s:List Int):List Int:=s.set (perm.getD i 0).toNat (zao gr [zah gr gr.G (ss.getD (perm.getD i 0).toNat 0),Hs.getD i 0])
def zeS (gr:Group) (Hs perm ss:List Int):List Int:=itr (zi8 gr Hs perm ss) perm.length (List.replicate perm.length 0)
theorem zvz {gr:Group}(k:OkG gr) {perm ss Hs:List Int}(hp:∀x∈perm,0≤x∧x<perm.length) (hs:ss.length=perm.length) (hH:Hs.length=perm.length) (hb:∀x∈Hs,zal gr x=true) (P:Int→Int→Option Int) (M:List Int→Option Int) (hP:∀x e,R9 x→P x e=some (zah gr x e)) (hM:∀x y,R9 x→R9 y→M [x,y]=some (zao gr [x,y])):zaq (σ:=(List Int)) (fun i21 s20=>
 (ix perm i21).bind fun x27=>
 (ix ss x27).bind fun x28=>
 (ix Hs i21).bind fun x29=>
 (P gr.G x28).bind fun z30=>
 (M [z30,x29]).bind fun z31=>
 (ix s20 x27).bind fun x32=>
 some (.go (s20.set x27.toNat z31))) (fun s20=>s20) perm.length 0 (List.replicate perm.length 0)=some (zeS gr Hs perm ss):=by
 refine zzx (zi8 gr Hs perm ss) (fun _ s=>s.length=perm.length) (by simp) (fun i s _ h=>by simp[zi8,h]) fun i s hi h=>?_
 have hx:=hp _ (List.getElem_mem hi)
 obtain⟨j,hj⟩:=Int.eq_ofNat_of_zero_le hx.1
 have hj2:j<perm.length:=by omega
 have hc:=hb _ (List.getElem_mem (show i<Hs.length by omega))
 rw[zed hi,Option.bind_some,hj,zed (show j<ss.length by omega),Option.bind_some,zed (show i<Hs.length by omega),Option.bind_some,hP _ _ (r_G k),Option.bind_some,hM _ _ (zba k _ _) (zc6 k hc),Option.bind_some,zed (show j<s.length by omega),Option.bind_some]
 unfold zi8
 rw[zaC hi,hj,Int.toNat_natCast,zaC (show j<ss.length by omega),zaC (show i<Hs.length by omega)]
theorem zys {gr:Group}(k:OkG gr) {perm ss:List Int}{b:Bases}(hp:∀x∈perm,0≤x∧x<perm.length) (hl:perm.length≤1000) (hs:ss.length=perm.length) (hb:BsOk gr perm.length b):zcl gr b perm ss=some (zeS gr b.Hs perm ss):=by
 unfold zcl
 rw[zdJ (by omega),Option.bind_some,zvz k hp hs hb.l hb.s (zag gr) (zai gr) (fun x e hx=>pwI k hx e) fun x y hx hy=>m2I k hx hy]
 rfl
theorem zyc {gr:Group}(k:OkG gr) {perm ss Hs:List Int}(hp:zdq perm=true) (hH:Hs.length=perm.length) (hb:∀x∈Hs,zal gr x=true):(zeS gr Hs perm ss).length=perm.length∧∀x∈zeS gr Hs perm ss,zal gr x=true:=by
 have h:=zlQ (f:=zi8 gr Hs perm ss) (I:=fun m s=>s.length=perm.length∧∀i (hi:i<m) (hi2:i<perm.length),zal gr (s.getD (perm[i]).toNat 0)=true) (s0:=List.replicate perm.length 0) (m:=perm.length) ⟨by simp,fun i hi=>by omega⟩ (fun m s hm ⟨h1,h2⟩=>by
  refine⟨by simp[zi8,h1],fun i hi hi2=>?_⟩
  unfold zi8
  rw[zaC hm]
  by_cases e:(perm[m]).toNat=(perm[i]).toNat
  ·by_cases hlt:(perm[i]).toNat<s.length
   ·rw[e,List.getD_eq_getElem?_getD,List.getElem?_set_self hlt,Option.getD_some]
    refine zfu k (zdt k (zeI k) _) ?_
    rw[zaC (show m<Hs.length by omega)]
    exact hb _ (List.getElem_mem _)
   ·have hx:=List.all_eq_true.1 (Bool.and_eq_true _ _▸hp:perm.all _=true∧zif perm=true).1 _ (List.getElem_mem hi2)
    simp only[inB,Bool.and_eq_true,decide_eq_true_eq]at hx
    omega
  ·rw[List.getD_eq_getElem?_getD,List.getElem?_set_ne e,←List.getD_eq_getElem?_getD]
   rcases Nat.lt_or_ge i m with h|h
   ·exact h2 i h hi2
   ·have:i=m:=by omega
    subst this;exact absurd rfl e) perm.length (Nat.le_refl _)
 refine⟨h.1,fun x hx=>?_⟩
 obtain⟨j,hj,rfl⟩:=List.getElem_of_mem hx
 have hj':j<(zeS gr Hs perm ss).length:=hj
 have hl:(zeS gr Hs perm ss).length=perm.length:=h.1
 have hm:=znT hp (j:=(j:Int)) ⟨by omega,by omega⟩
 obtain⟨i,hi,he⟩:=List.getElem_of_mem hm
 have:=h.2 i hi hi
 rw[he,Int.toNat_natCast]at this
 have e:(itr (zi8 gr Hs perm ss) perm.length (List.replicate perm.length 0)).getD j 0=(zeS gr Hs perm ss)[j]:=zaC hj'
 rwa [e]at this
def hN (gr:Group) (h:Int) (es ts:List Int):Nat→Int
 |0=>h
 |i+1=>zao gr [zah gr gr.G (ts.getD i 0),zah gr (hN gr h es ts i) (es.getD i 0)]
theorem zzO {gr:Group}(k:OkG gr) {h:Int}(hh:R9 h) (es ts:List Int):∀i,R9 (hN gr h es ts i)
 |0=>hh
 |i+1=>zft k (zba k _ _) (zba k _ _)
theorem zpK {gr:Group}(k:OkG gr) {h:Int}(hh:zal gr h=true) (es ts:List Int):∀i,zal gr (hN gr h es ts i)=true
 |0=>hh
 |i+1=>zfu k (zdt k (zeI k) _) (zdt k (zpK k hh es ts i) _)
def zdh (gr:Group) (h:Int) (es ts:List Int):List Int:=(List.range es.length).map fun i=>hN gr h es ts (i+1)
theorem zzN {gr:Group}(k:OkG gr) {h:Int}(hh:R9 h) {es ts:List Int}(hl:es.length≤1000) (ht:ts.length=es.length):zek gr h es ts=some (zdh gr h es ts):=by
 unfold zek
 refine zaw (zae (ψ:=(· =zdh gr h es ts)) (zbb (fun i s=>s=(hN gr h es ts i,(List.range i).map fun i=>hN gr h es ts (i+1))) rfl ?_ ?_) fun x hx=>zab hx)
 ·rintro i s hi rfl
  refine zaQ hi (zaQ (show i<ts.length by omega) (zaa (pwI k (r_G k) _) (zaa (pwI k (zzO k hh es ts i) _) (zaa (m2I k (zba k _ _) (zba k _ _)) (zau (by simp;omega) (zab ?_))))))
  show _=_
  rw[List.range_succ,List.map_append]
  simp only[List.map_cons,List.map_nil,hN,zaC hi,zaC (show i<ts.length by omega)]
 rintro s rfl;rfl
def abL (l:List Cipher):List Int:=l.flatMap fun c=>[c.A,c.B]
def zep (key:Int) (l out:List Cipher) (m:List Int):List Int:=key::(abL l++(abL out++m))
theorem zlp (l:List Cipher):(abL l).length=2*l.length:=by
 induction l with
 |nil=>rfl
 |cons c l ih=>show([c.A,c.B]++abL l).length=_;simp[ih];omega
theorem zw8 (l:List Cipher) (c:Cipher):abL (l++[c])=abL l++[c.A,c.B]:=by simp[abL]
theorem zyx (l m:List Cipher):abL (l++m)=abL l++abL m:=by simp[abL]
theorem znW {l:List Cipher}(h0:List Int) (hl:l.length≤100000) (hh:h0.length≤1000000):zaq (σ:=List Int) (fun i5 s4=>
 (ix l i5).bind fun x11=>
 gd ((s4.length+2)*8≤140737488355328∧s4.length+2≤4611686018427387904)<|
 some (.go (s4++[x11.A,x11.B]))) (fun s4=>s4) l.length 0 h0=some (h0++abL l):=by
 refine zaw (zbb (fun i s=>s=h0++abL (l.take i)) (by simp[abL]) ?_ ?_)
 ·rintro i s hi rfl
  refine zaQ hi (zau ?_ (zab ?_))
  ·rw[List.length_append,zlp,List.length_take];omega
  show _=_
  rw[List.take_succ_eq_append_getElem hi,zw8,List.append_assoc]
 rintro s rfl;rw[List.take_length]
theorem zj9 {key:Int}{l out:List Cipher}{m:List Int}(h1:l.length≤1000) (h2:out.length≤1000) (h3:m.length≤1000000):zbL key l out m=some (zep key l out m):=by
 unfold zbL zbP
 rw[zdJ (by omega),Option.bind_some,zdJ (by omega),Option.bind_some,znW [key] (by simp;omega) (by simp),Option.bind_some,zdJ (by simp[zlp];omega)]
 simp[zep,zyx]
theorem zuZ {key:Int}{l out:List Cipher}{m:List Int}(h1:l.length≤1000) (h2:out.length≤1000) (h3:m.length≤1000000):zfy key l out m=some (zep key l out m):=by
 unfold zfy
 rw[znW [key] (by omega) (by simp),Option.bind_some,znW _ (by omega) (by simp[zlp];omega),Option.bind_some,zdJ (by simp[zlp];omega)]
 simp[zep]
theorem ziK {key:Int}{l out:List Cipher}{m:List Int}:(zep key l out m).length=1+2*l.length+2*out.length+m.length:=by
 simp[zep,zlp];omega
theorem ziO {gr:Group}(k:OkG gr) {key:Int}(hk:zal gr key=true) {l out:List Cipher}(h1:∀c∈l,zbg gr c=true) (h2:∀c∈out,zbg gr c=true) {m:List Int}(h3:m.all zbh=true):(zep key l out m).all zbh=true:=by
 have A:∀l:List Cipher,(∀c∈l,zbg gr c=true)→(abL l).all zbh=true:=fun l h=>by
  refine zec k (List.all_eq_true.2 fun x hx=>?_)
  obtain⟨c,hc,hx⟩:=List.mem_flatMap.1 hx
  have:=h c hc
  simp only[zbg,Bool.and_eq_true]at this
  simp only[List.mem_cons,List.not_mem_nil,or_false]at hx
  rcases hx with rfl|rfl
  ·exact this.1
  ·exact this.2
 have hd:zbh key=true:=by have:=zec k (l:=[key]) (by simp[hk]);simpa using this
 simp only[zep,List.all_cons,List.all_append,hd,A l h1,A out h2,h3,Bool.and_self]
abbrev zps:ByteArray:=⟨#[109,105,120,32,99,111,108,117,109,110,115]⟩
abbrev endS:ByteArray:=⟨#[109,105,120,32,112,114,111,111,102]⟩
def zg1 (gr:Group) (s:ByteArray) (l:List Int) (n:Nat):List Int:=(List.range n).map fun(i:Nat)=>chG gr s (l++[(i:Int)])
theorem zqs {l:List Int}(hd:l.all zbh=true) {i:Nat}(hi:i≤1000000):(l++[(i:Int)]).all zbh=true:=by
 have:zbh (i:Int)=true:=zcP.2 ⟨by omega,by omega⟩
 simp[hd,this]
theorem zuM {gr:Group}(k:OkG gr) {s:ByteArray}(hs:s.size≤40) {l:List Int}(hl:l.length≤300) (hd:l.all zbh=true) {n:Nat}(h1:1≤n) (hn:n≤1000):zbC gr s l (n:Int)=some (zg1 gr s l n,true):=by
 unfold zbC
 rw[if_neg (show¬((n:Int)<1)by omega)]
 refine zaw (zae (ψ:=(· =.inl (zg1 gr s l n))) (zeb n (fun i t=>t=((List.range i).map fun(i:Nat)=>chG gr s (l++[(i:Int)]),(i:Int))) rfl ?_ ?_) ?_)
 ·rintro i t hi rfl
  refine zf0 (by simp;omega) (zaa (a:=l) ?_ (zau (by omega) (zaa (zny k s (by simp;omega)) ?_)))
  ·unfold zb4;rw[zdJ (by omega)]
  rw[if_pos (zph k hs (by simp;omega) (zqs hd (by omega)))]
  refine za1 rfl (zau (by simp;omega) (zab ?_))
  show _=_
  rw[List.range_succ,List.map_append,zap (by omega) (by omega)]
  rfl
 ·rintro t rfl
  exact za1 (by simp) (zab rfl)
 rintro t rfl
 refine zau (by omega) (zau (by simp[zg1]) (zab ?_))
 rw[Int.toNat_natCast,List.take_of_length_le (by simp[zg1])]
theorem zuB {gr:Group}(k:OkG gr) {s:ByteArray}(hs:s.size≤40) {l:List Int}(hl:l.length≤300) (hd:l.all zbh=true) {n:Nat}(hn:n≤1000):zfb gr s l (n:Int)=some (zg1 gr s l n):=by
 unfold zfb
 refine zaw (zae (ψ:=(· =zg1 gr s l n)) (zeb n (fun i t=>t=((List.range i).map fun(i:Nat)=>chG gr s (l++[(i:Int)]),(i:Int))) rfl ?_ ?_) fun x hx=>zab hx)
 ·rintro i t hi rfl
  refine zf0 (by simp;omega) (zaa (zxd (by omega)) (zau (by omega) (zaa (zi5 k (by omega) (by simp;omega) (zqs hd (by omega))) (zau (by simp;omega) (zab ?_)))))
  show _=_
  rw[List.range_succ,List.map_append,zap (by omega) (by omega)]
  rfl
 rintro t rfl
 exact za1 (by simp) (zab rfl)
theorem zu6 {gr:Group}(k:OkG gr) (s:ByteArray) (l:List Int) (n:Nat):(zg1 gr s l n).length=n∧∀x∈zg1 gr s l n,0≤x∧x<gr.Q:=by
 refine⟨by simp[zg1],fun x hx=>?_⟩
 obtain⟨i,_,rfl⟩:=List.mem_map.1 hx
 exact zgn k s _
def E9 (q x:Int):Prop:=0≤x∧x<q
theorem zqo {gr:Group}{l:List Int}(h:l.all (zdV gr)=true):∀x∈l,E9 gr.Q x:=fun x hx=>zsm.1 (List.all_eq_true.1 h x hx)
theorem zhr {q a z t:Int}(hq:q≤2000000000) (ha:E9 q a) (hz:E9 q z) (ht:E9 q t):IntKind.i64.wrap (a+IntKind.i64.wrap (z*t))=a+z*t∧(IntKind.i64.wrap (a+IntKind.i64.wrap (z*t))).tmod q=(a+z*t)%q:=by
 obtain⟨a1,a2⟩:=ha
 obtain⟨z1,z2⟩:=hz
 obtain⟨t1,t2⟩:=ht
 have h1:0≤z*t:=Int.mul_nonneg z1 t1
 have h2:z*t≤2000000000*2000000000:=Int.mul_le_mul (by omega) (by omega) t1 (by omega)
 rw[zap (n:=z*t) (by omega) (by omega),zap (n:=a+z*t) (by omega) (by omega)]
 exact⟨rfl,Int.tmod_eq_emod_of_nonneg (by omega)⟩
theorem zdL {q:Int}(hq:0<q) (x:Int):E9 q (x%q):=⟨Int.emod_nonneg _ (by omega),Int.emod_lt_of_pos _ hq⟩
def dtN (q:Int) (l m:List Int):Nat→Int
 |0=>0
 |i+1=>(dtN q l m i+l.getD i 0*m.getD i 0)%q
theorem zo2 {q:Int}(hq:0<q) (l m:List Int):∀i,E9 q (dtN q l m i)
 |0=>⟨by show(0:Int)≤0;omega,hq⟩
 |i+1=>zdL hq _
theorem zfc {α:Type}{l:List α}{P:α→Prop}(h:∀x∈l,P x) {i:Nat}(hi:i<l.length):P l[i]:=h _ (List.getElem_mem hi)
theorem zqv {q:Int}(hq:0<q∧q≤2000000000) {l m:List Int}(hl:∀x∈l,E9 q x) (hm:∀x∈m,E9 q x) (hn:m.length=l.length):zef l m q=some (dtN q l m l.length):=by
 unfold zef
 refine zaw (zae (ψ:=(· =dtN q l m l.length)) (zbb (fun i s=>s=dtN q l m i) rfl ?_ fun s h=>h) fun x hx=>zab hx)
 rintro i s hi rfl
 have ha:=zo2 hq.1 l m i
 have h1:=zfc hl hi
 have h2:=zfc hm (show i<m.length by omega)
 refine zaQ hi (zaQ (show i<m.length by omega) (zau (by omega) (zau (by omega) (zab ?_))))
 show _=(dtN q l m i+l.getD i 0*m.getD i 0)%q
 rw[zaC hi,zaC (show i<m.length by omega)]
 have e:=zhr hq.2 ⟨Int.le_refl 0,hq.1⟩ h1 h2
 rw[Int.zero_add,Int.zero_add]at e
 have e2:IntKind.i64.wrap (l[i]*m[i])=l[i]*m[i]:=by
  have h3:0≤l[i]*m[i]:=Int.mul_nonneg h1.1 h2.1
  have h4:l[i]*m[i]≤2000000000*2000000000:=Int.mul_le_mul (by have:=h1.2;omega) (by have:=h2.2;omega) h2.1 (by omega)
  exact zap (by omega) (by omega)
 rw[e2,Int.tmod_eq_emod_of_nonneg (Int.mul_nonneg h1.1 h2.1)]
 have h5:=zdL hq.1 (l[i]*m[i])
 rw[zap (by have:=ha.1;have:=h5.1;omega) (by have:=ha.2;have:=h5.2;omega),Int.tmod_eq_emod_of_nonneg (by have:=ha.1;have:=h5.1;omega)]
 rw[Int.add_emod,Int.emod_emod,←Int.add_emod]
def smN (q:Int) (l:List Int):Nat→Int
 |0=>0
 |i+1=>(smN q l i+l.getD i 0)%q
theorem ztk {q:Int}(hq:0<q) (l:List Int):∀i,E9 q (smN q l i)
 |0=>⟨by show(0:Int)≤0;omega,hq⟩
 |i+1=>zdL hq _
theorem zAm {q:Int}(hq:0<q∧q≤2000000000) {l:List Int}(hl:∀x∈l,E9 q x):zgy l q=some (smN q l l.length)∧zmw l q=some (smN q l l.length):=by
 refine⟨?_,?_⟩
 ·unfold zgy
  refine zaw (zae (ψ:=(· =smN q l l.length)) (zbb (fun i s=>s=smN q l i) rfl ?_ fun s h=>h) fun x hx=>zab hx)
  rintro i s hi rfl
  have ha:=ztk hq.1 l i
  have h1:=zfc hl hi
  refine zaQ hi (zau (by omega) (zab ?_))
  show _=(smN q l i+l.getD i 0)%q
  rw[zaC hi,zap (by have:=ha.1;have:=h1.1;omega) (by have:=ha.2;have:=h1.2;omega),Int.tmod_eq_emod_of_nonneg (by have:=ha.1;have:=h1.1;omega)]
 unfold zmw
 refine zaw (zae (ψ:=(· =smN q l l.length)) (zbb (fun i s=>s=smN q l i) rfl ?_ fun s h=>h) fun x hx=>zab hx)
 rintro i s hi rfl
 have ha:=ztk hq.1 l i
 have h1:=zfc hl hi
 refine zaQ hi (zau (by omega) (zab ?_))
 show _=(smN q l i+l.getD i 0)%q
 rw[zaC hi,zap (by have:=ha.1;have:=h1.1;omega) (by have:=ha.2;have:=h1.2;omega),Int.tmod_eq_emod_of_nonneg (by have:=ha.1;have:=h1.1;omega)]
def yN (q:Int) (own t:List Int):Nat→Int
 |0=>0
 |i+1=>(t.getD i 0+own.getD i 0*yN q own t i)%q
theorem zz3 {q:Int}(hq:0<q) (own t:List Int):∀i,E9 q (yN q own t i)
 |0=>⟨by show(0:Int)≤0;omega,hq⟩
 |i+1=>zdL hq _
def zjR (e perm:List Int):List Int:=perm.map fun j=>e.getD j.toNat 0
theorem zJm {e perm:List Int}(hp:∀x∈perm,0≤x∧x<e.length) (hl:perm.length≤1000):zha e perm=some (zjR e perm):=by
 unfold zha
 rw[zuv (l:=perm) (f:=fun j=>e.getD j.toNat 0) []]
 ·rw[List.nil_append];rfl
 intro i hi s hs
 have hx:=zfc hp hi
 obtain⟨j,hj⟩:=Int.eq_ofNat_of_zero_le hx.1
 rw[zed hi,Option.bind_some,hj,zed (show j<e.length by omega),Option.bind_some,zdJ (by simp at hs;omega),Int.toNat_natCast,zaC (show j<e.length by omega)]
def sdV (l:List Cipher):List Int×List Int:=(l.map (·.A),l.map (·.B))
theorem ziE {l:List Cipher}(hl:l.length≤1000):zdf l=some (sdV l)∧zkT l=some (sdV l):=by
 have h:zaq (σ:=(List Int)×List Int) (fun i5 s4=>
  (ix l i5).bind fun x11=>
  gd ((s4.1.length+1)*8≤140737488355328∧s4.1.length+1≤4611686018427387904)<|
  gd ((s4.2.length+1)*8≤140737488355328∧s4.2.length+1≤4611686018427387904)<|
  some (.go (s4.1++[x11.A],s4.2++[x11.B]))) (fun s4=>(s4.1,s4.2)) (l.length) 0 ([],[])=some (sdV l):=by
  refine zaw (zbb (fun i s=>s=sdV (l.take i)) rfl ?_ ?_)
  ·rintro i s hi rfl
   refine zaQ hi (zau (by simp[sdV];omega) (zau (by simp[sdV];omega) (zab ?_)))
   show _=_
   rw[List.take_succ_eq_append_getElem hi]
   simp only[sdV,List.map_append,List.map_cons,List.map_nil]
  ·rintro s rfl;rw[List.take_length]
 unfold zdf zkT
 rw[h]
 exact⟨rfl,rfl⟩
theorem zl9 {gr:Group}(k:OkG gr) {l:List Cipher}(h:∀c∈l,zbg gr c=true):(∀x∈(sdV l).1,0≤x∧x≤2000000000)∧∀x∈(sdV l).2,0≤x∧x≤2000000000:=by
 refine⟨fun x hx=>?_,fun x hx=>?_⟩<;>obtain⟨c,hc,rfl⟩:=List.mem_map.1 hx<;>obtain⟨b1,b2,b3,b4⟩:=zl2 k (h c hc)
 ·exact⟨b1,b2⟩
 exact⟨b3,b4⟩
theorem zwP {gr:Group}(k:OkG gr):∀(l m:List Int) (o:Int),0≤o∧o<gr.P→R9 (za0 gr l m o)
 |[],_,o,h=>by have:=k.p;unfold za0;exact⟨h.1,by omega⟩
 |_::_,[],o,h=>by have:=k.p;unfold za0;exact⟨h.1,by omega⟩
 |x::l,e::m,o,h=>by
  have:=k.p
  unfold za0
  exact zwP k l m _ ⟨Int.emod_nonneg _ (by omega),Int.emod_lt_of_pos _ (by omega)⟩
theorem zdN {gr:Group}(k:OkG gr) (l m:List Int):R9 (za0 gr l m 1):=zwP k l m 1 (by have:=k.p;exact⟨by omega,by omega⟩)
theorem zd0 {a r:List Int}{n:Nat}(h:a.length=n):zan (a++r) (n:Int)=some (a,r):=by
 unfold zan
 rw[Int.toNat_natCast,zdJ (by omega),zdJ (by simp;omega),zdJ (by omega),zdJ (by simp;omega)]
 simp[h,List.take_of_length_le]
theorem zxz {a:List Int}{n:Nat}(h:a.length=n):zan a (n:Int)=some (a,[]):=by
 have:=zd0 (r:=[]) h
 rwa [List.append_nil]at this
theorem zh8 (x:Int) (r:List Int):za7 (x::r)=some (x,r):=by
 unfold za7
 have h:=zd0 (a:=[x]) (r:=r) (n:=1) rfl
 show(zan ([x]++r) ((1:Nat):Int)).bind _=_
 rw[h]
 rfl
structure Coins (gr:Group) (n:Nat) (s t w x:List Int) (a b d f:Int):Prop where
 s:s.length=n∧∀z∈s,E9 gr.Q z
 t:t.length=n∧∀z∈t,E9 gr.Q z
 w:w.length=n∧∀z∈w,E9 gr.Q z
 x:x.length=n∧∀z∈x,E9 gr.Q z
 a:E9 gr.Q a
 b:E9 gr.Q b
 d:E9 gr.Q d
 f:E9 gr.Q f
theorem zvY {gr:Group}{n:Nat}{coins:List Int}(hl:coins.length=4*n+4) (he:coins.all (zdV gr)=true):∃s t w x a b d f,coins=s++(t++(a::b::d::f::(w++x)))∧Coins gr n s t w x a b d f:=by
 have h:=zqo he
 obtain⟨s,r,rfl,hs⟩:∃s r,coins=s++r∧s.length=n:=⟨coins.take n,coins.drop n,(List.take_append_drop n coins).symm,by simp;omega⟩
 obtain⟨t,r,rfl,ht⟩:∃t r',r=t++r'∧t.length=n:=⟨r.take n,r.drop n,(List.take_append_drop n r).symm,by simp at hl⊢;omega⟩
 simp only[List.length_append]at hl
 match r,hl with
 |a::b::d::f::r,hl=>
  obtain⟨w,x,rfl,hw⟩:∃w x,r=w++x∧w.length=n:=⟨r.take n,r.drop n,(List.take_append_drop n r).symm,by simp at hl⊢;omega⟩
  simp only[List.length_cons,List.length_append]at hl
  refine⟨s,t,w,x,a,b,d,f,rfl,⟨hs,fun z hz=>h z ?_⟩,⟨ht,fun z hz=>h z ?_⟩,⟨hw,fun z hz=>h z ?_⟩,⟨by omega,fun z hz=>h z ?_⟩,h a ?_,h b ?_,h d ?_,h f ?_⟩<;>simp_all
 |[],hl=>simp at hl;omega
 |[_],hl=>simp at hl;omega
 |[_,_],hl=>simp at hl;omega
 |[_,_,_],hl=>simp at hl;omega
section
attribute [local irreducible] chG zg1 zeS za2 zep zdh za0 dtN smN yN
def pmL (gr:Group) (key:Int) (B:Bases) (l:List Cipher) (perm rs s:List Int):List Int:=zep key l (za2 gr key l perm rs) (zeS gr B.Hs perm s)
def pmE (gr:Group) (key:Int) (B:Bases) (l:List Cipher) (perm rs s:List Int):List Int:=zg1 gr zps (pmL gr key B l perm rs s) l.length
def pmO (gr:Group) (key:Int) (B:Bases) (l:List Cipher) (perm rs s:List Int):List Int:=zjR (pmE gr key B l perm rs s) perm
def zkJ (gr:Group) (h:Int) (own t w x:List Int) (i:Nat):Int:=zao gr [zah gr gr.G (w.getD i 0),zah gr (hN gr h own t i) (x.getD i 0)]
def zlu (gr:Group) (key:Int) (Hs:List Int) (out:List Cipher) (x:List Int) (a b d f:Int):List Int:=[zah gr gr.G a,zao gr [zah gr gr.G b,za0 gr Hs x 1],zah gr gr.G d,zao gr [zah gr gr.G (IntKind.i64.wrap (0-f)),za0 gr (sdV out).1 x 1],zao gr [zah gr key (IntKind.i64.wrap (0-f)),za0 gr (sdV out).2 x 1]]
def pmC (gr:Group) (key:Int) (B:Bases) (l:List Cipher) (perm rs s t w x:List Int) (a b d f:Int):List Int:=zlu gr key B.Hs (za2 gr key l perm rs) x a b d f++(List.range l.length).map (zkJ gr B.H (pmO gr key B l perm rs s) t w x)
def pmZ (gr:Group) (key:Int) (B:Bases) (l:List Cipher) (perm rs s t w x:List Int) (a b d f:Int):Int:=chG gr endS (pmL gr key B l perm rs s++zdh gr B.H (pmO gr key B l perm rs s) t++pmC gr key B l perm rs s t w x a b d f)
def rsF (q z:Int) (w t:List Int) (i:Nat):Int:=(w.getD i 0+z*t.getD i 0)%q
def pmR (gr:Group) (z:Int) (n:Nat) (e own rs s t w x:List Int) (a b d f:Int):List Int:=[(a+z*smN gr.Q s n)%gr.Q,(b+z*dtN gr.Q s e n)%gr.Q,(d+z*yN gr.Q own t n)%gr.Q,(f+z*dtN gr.Q rs own n)%gr.Q]++(List.range n).map (rsF gr.Q z w t)++(List.range n).map (rsF gr.Q z x own)
def pmV (gr:Group) (key:Int) (B:Bases) (l:List Cipher) (perm rs s t w x:List Int) (a b d f:Int):MatrixProof:=
 ⟨zeS gr B.Hs perm s,zdh gr B.H (pmO gr key B l perm rs s) t,⟨pmC gr key B l perm rs s t w x a b d f,[pmZ gr key B l perm rs s t w x a b d f],pmR gr (pmZ gr key B l perm rs s t w x a b d f) l.length (pmE gr key B l perm rs s) (pmO gr key B l perm rs s) rs s t w x a b d f⟩⟩
structure PmOk (gr:Group) (key:Int) (B:Bases) (l:List Cipher) (perm rs s t w x:List Int) (a b d f:Int):Prop where
 m:MxOk gr key l perm rs
 bs:BsOk gr l.length B
 c:Coins gr l.length s t w x a b d f
section
variable {gr:Group}{key:Int}{B:Bases}{l:List Cipher}{perm rs s t w x:List Int}{a b d f:Int}
theorem PmOk.prn (P:PmOk gr key B l perm rs s t w x a b d f):∀z∈perm,0≤z∧z<perm.length:=fun z hz=>by have:=P.m.pr z hz;have:=P.m.pl;omega
theorem PmOk.bl (P:PmOk gr key B l perm rs s t w x a b d f):BsOk gr perm.length B:=by rw[P.m.pl];exact P.bs
theorem PmOk.cols (k:OkG gr) (P:PmOk gr key B l perm rs s t w x a b d f):(zeS gr B.Hs perm s).length=l.length∧∀z∈zeS gr B.Hs perm s,zal gr z=true:=by
 have h:=zyc k (ss:=s) P.m.pb (by rw[P.m.pl];exact P.bs.l) P.bs.s
 exact⟨by rw[h.1,P.m.pl],h.2⟩
theorem PmOk.len (k:OkG gr) (P:PmOk gr key B l perm rs s t w x a b d f):(pmL gr key B l perm rs s).length=1+5*l.length:=by
 have h1:=(P.cols k).1
 have h2:=P.m.pl
 unfold pmL
 rw[ziK,zd6,h1];omega
theorem PmOk.dig (k:OkG gr) (P:PmOk gr key B l perm rs s t w x a b d f):(pmL gr key B l perm rs s).all zbh=true:=
 ziO k P.m.key P.m.c (zg4 k P.m) (zec k (List.all_eq_true.2 (P.cols k).2))
theorem PmOk.e (k:OkG gr) (P:PmOk gr key B l perm rs s t w x a b d f):(pmE gr key B l perm rs s).length=l.length∧∀z∈pmE gr key B l perm rs s,E9 gr.Q z:=zu6 k _ _ _
theorem PmOk.o (k:OkG gr) (P:PmOk gr key B l perm rs s t w x a b d f):(pmO gr key B l perm rs s).length=l.length∧∀z∈pmO gr key B l perm rs s,E9 gr.Q z:=by
 obtain⟨h1,h2⟩:=P.e k
 refine⟨by rw[←P.m.pl];simp[pmO,zjR],fun z hz=>?_⟩
 obtain⟨j,hj,rfl⟩:=List.mem_map.1 hz
 have:=P.m.pr j hj
 rw[zaC (show j.toNat<_ by omega)]
 exact h2 _ (List.getElem_mem _)
theorem PmOk.chn (k:OkG gr) (P:PmOk gr key B l perm rs s t w x a b d f):(zdh gr B.H (pmO gr key B l perm rs s) t).length=l.length∧∀z∈zdh gr B.H (pmO gr key B l perm rs s) t,zal gr z=true:=by
 unfold zdh
 refine⟨by simp[(P.o k).1],fun z hz=>?_⟩
 obtain⟨j,hj,rfl⟩:=List.mem_map.1 hz
 exact zpK k P.bs.h _ _ _
theorem zzG {h:Int}{es ts:List Int}{i:Nat}(hi:i<es.length):ix ([h]++zdh gr h es ts) (i:Int)=some (hN gr h es ts i):=by
 unfold zdh
 cases i with
 |zero=>rfl
 |succ i=>exact zD9 (by simp[show i<es.length by omega])
theorem PmOk.com (k:OkG gr) (P:PmOk gr key B l perm rs s t w x a b d f):(pmC gr key B l perm rs s t w x a b d f).length=l.length+5∧∀z∈pmC gr key B l perm rs s t w x a b d f,R9 z:=by
 have hh:=zc6 k P.bs.h
 refine⟨by simp[pmC,zlu],fun z hz=>?_⟩
 rcases List.mem_append.1 hz with h|h
 ·simp only[zlu,List.mem_cons,List.not_mem_nil,or_false]at h
  rcases h with rfl|rfl|rfl|rfl|rfl
  ·exact zba k _ _
  ·exact zft k (zba k _ _) (zdN k _ _)
  ·exact zba k _ _
  ·exact zft k (zba k _ _) (zdN k _ _)
  exact zft k (zba k _ _) (zdN k _ _)
 obtain⟨i,_,rfl⟩:=List.mem_map.1 h
 exact zft k (zba k _ _) (zba k _ _)
theorem PmOk.lend (k:OkG gr) (P:PmOk gr key B l perm rs s t w x a b d f):(pmL gr key B l perm rs s++zdh gr B.H (pmO gr key B l perm rs s) t++pmC gr key B l perm rs s t w x a b d f).length=6+7*l.length∧(pmL gr key B l perm rs s++zdh gr B.H (pmO gr key B l perm rs s) t++pmC gr key B l perm rs s t w x a b d f).all zbh=true:=by
 have h1:=P.len k
 have h2:=(P.chn k).1
 have h3:=(P.com k).1
 refine⟨by rw[List.length_append,List.length_append,h1,h2,h3];omega,?_⟩
 rw[List.all_append,List.all_append,P.dig k,zec k (List.all_eq_true.2 (P.chn k).2),zwI (P.com k).2]
 rfl
theorem zzJ (P:PmOk gr key B l perm rs s t w x a b d f) (k:OkG gr):zbL key l (za2 gr key l perm rs) (zeS gr B.Hs perm s)=some (pmL gr key B l perm rs s)∧zfy key l (za2 gr key l perm rs) (zeS gr B.Hs perm s)=some (pmL gr key B l perm rs s):=by
 have hn:=P.m.n
 have hpl:=P.m.pl
 exact⟨zj9 (by omega) (by rw[zd6];omega) (by rw[(P.cols k).1];omega),zuZ (by omega) (by rw[zd6];omega) (by rw[(P.cols k).1];omega)⟩
theorem zy7 (P:PmOk gr key B l perm rs s t w x a b d f) (k:OkG gr):zbC gr zps (pmL gr key B l perm rs s) (l.length:Int)=some (pmE gr key B l perm rs s,true)∧zfb gr zps (pmL gr key B l perm rs s) (l.length:Int)=some (pmE gr key B l perm rs s):=by
 have hn:=P.m.n
 exact⟨zuM k (by decide) (by rw[P.len k];omega) (P.dig k) (by omega) (by omega),zuB k (by decide) (by rw[P.len k];omega) (P.dig k) (by omega)⟩
theorem zEe (P:PmOk gr key B l perm rs s t w x a b d f) (k:OkG gr):zha (pmE gr key B l perm rs s) perm=some (pmO gr key B l perm rs s):=by
 have hn:=P.m.n
 have hpl:=P.m.pl
 have h:=(P.e k).1
 exact zJm (e:=pmE gr key B l perm rs s) (fun z hz=>by have:=P.m.pr z hz;omega) (by omega)
theorem zAd (P:PmOk gr key B l perm rs s t w x a b d f) (k:OkG gr):zaS [pmL gr key B l perm rs s,zdh gr B.H (pmO gr key B l perm rs s) t,pmC gr key B l perm rs s t w x a b d f]=some (pmL gr key B l perm rs s++zdh gr B.H (pmO gr key B l perm rs s) t++pmC gr key B l perm rs s t w x a b d f):=by
 have hfl:[pmL gr key B l perm rs s,zdh gr B.H (pmO gr key B l perm rs s) t,pmC gr key B l perm rs s t w x a b d f].flatten=pmL gr key B l perm rs s++zdh gr B.H (pmO gr key B l perm rs s) t++pmC gr key B l perm rs s t w x a b d f:=by simp
 have h:=P.lend k
 have hn:=P.m.n
 rw[zh4 _ (by rw[hfl];omega),hfl]
theorem zz2 (P:PmOk gr key B l perm rs s t w x a b d f) (k:OkG gr):zaz gr endS (pmL gr key B l perm rs s++zdh gr B.H (pmO gr key B l perm rs s) t++pmC gr key B l perm rs s t w x a b d f)=some (pmZ gr key B l perm rs s t w x a b d f,true)∧zex gr endS (pmL gr key B l perm rs s++zdh gr B.H (pmO gr key B l perm rs s) t++pmC gr key B l perm rs s t w x a b d f)=some (pmZ gr key B l perm rs s t w x a b d f):=by
 have h:=P.lend k
 have hn:=P.m.n
 refine⟨?_,zi5 k (by decide) (by omega) h.2⟩
 rw[zny k _ (by omega),if_pos (zph k (by decide) (by rw[show endS.size=9 from rfl];omega) h.2)]
 rfl
theorem PmOk.z (P:PmOk gr key B l perm rs s t w x a b d f) (k:OkG gr):E9 gr.Q (pmZ gr key B l perm rs s t w x a b d f):=zgn k _ _
theorem zzm:zlu gr key B.Hs (za2 gr key l perm rs) x a b d f++(List.range l.length).map (zkJ gr B.H (pmO gr key B l perm rs s) t w x)=pmC gr key B l perm rs s t w x a b d f:=rfl
end
theorem zAj {gr:Group}(k:OkG gr) {own t:List Int}{n:Nat}(ho:own.length=n) (ht:t.length=n) (hoe:∀z∈own,E9 gr.Q z) (hte:∀z∈t,E9 gr.Q z):zaq (σ:=Int) (fun i20 s19=>
 (ix t i20).bind fun x26=>
 (ix own i20).bind fun x27=>
 (zak gr (IntKind.i64.wrap (x26+(IntKind.i64.wrap (x27*s19))))).bind fun z28=>
 some (.go z28)) (fun s19=>s19) n 0 0=some (yN gr.Q own t n):=by
 have hp:=k.p
 have hq:=k.q
 refine zaw (zbb (fun i y=>y=yN gr.Q own t i) (by unfold yN;rfl) ?_ fun y h=>h)
 rintro i y hi rfl
 refine zaQ (show i<t.length by omega) (zaQ (show i<own.length by omega) (zaa (zdQ k _) (zab ?_)))
 rw[(zhr (q:=gr.Q) (by omega) (zfc hte (by omega)) (zfc hoe (by omega)) (zz3 (by omega) _ _ _)).1]
 show _=yN gr.Q own t (i+1)
 conv=>rhs;unfold yN
 rw[zaC (show i<t.length by omega),zaC (show i<own.length by omega)]
theorem zuK {gr:Group}(k:OkG gr) {h:Int}(hh:R9 h) {own t w x A D E c5:List Int}{n:Nat}(ho:own.length=n) (hw:w.length=n) (hx:x.length=n) (h5:c5.length=5) (hn:n≤100):zaq (σ:=(List Int)×List Int×List Int×List Int×List Int) (fun i62 s61=>
 (ix w i62).bind fun x68=>
 (ix ([h]++zdh gr h own t) i62).bind fun x69=>
 (ix x i62).bind fun x70=>
 (zag gr gr.G x68).bind fun z71=>
 (zag gr x69 x70).bind fun z72=>
 (zai gr [z71,z72]).bind fun z73=>
 gd ((s61.2.2.1.length+1)*8≤140737488355328∧s61.2.2.1.length+1≤4611686018427387904)<|
 some (.go (s61.1,s61.2.1,s61.2.2.1++[z73],s61.2.2.2.1,s61.2.2.2.2))) (fun s61=>(s61.1,s61.2.1,s61.2.2.1,s61.2.2.2.1,s61.2.2.2.2)) n 0 (A,zdh gr h own t,c5,D,E)=some (A,zdh gr h own t,c5++(List.range n).map (zkJ gr h own t w x),D,E):=by
 refine zaw (zbb (fun i y=>y=(A,zdh gr h own t,c5++(List.range i).map (zkJ gr h own t w x),D,E)) (by simp) ?_ (by rintro y rfl;rfl))
 rintro i y hi rfl
 refine zaQ (show i<w.length by omega) (zaa (zzG (by omega)) (zaQ (show i<x.length by omega) (zaa (pwI k (r_G k) _) (zaa (pwI k (zzO k hh _ _ _) _) (zaa (m2I k (zba k _ _) (zba k _ _)) (zau (by simp;omega) (zab ?_)))))))
 show _=_
 rw[List.range_succ,List.map_append,←List.append_assoc]
 simp only[List.map_cons,List.map_nil,zkJ,zaC (show i<w.length by omega),zaC (show i<x.length by omega)]
theorem zp8 {gr:Group}(k:OkG gr) {z:Int}(hz:E9 gr.Q z) {w t A B C D R:List Int}{n:Nat}(hw:w.length=n∧∀z∈w,E9 gr.Q z) (ht:t.length=n∧∀z∈t,E9 gr.Q z) (hR:R.length≤1000) (hn:n≤100):zaq (σ:=(List Int)×List Int×List Int×List Int×List Int) (fun i102 s101=>
 (ix w i102).bind fun x108=>
 (ix t i102).bind fun x109=>
 (zak gr (IntKind.i64.wrap (x108+(IntKind.i64.wrap (z*x109))))).bind fun z110=>
 gd ((s101.2.2.2.2.length+1)*8≤140737488355328∧s101.2.2.2.2.length+1≤4611686018427387904)<|
 some (.go (s101.1,s101.2.1,s101.2.2.1,s101.2.2.2.1,s101.2.2.2.2++[z110]))) (fun s101=>(s101.1,s101.2.1,s101.2.2.1,s101.2.2.2.1,s101.2.2.2.2)) n 0 (A,B,C,D,R)=some (A,B,C,D,R++(List.range n).map (rsF gr.Q z w t)):=by
 have hp:=k.p
 have hq:=k.q
 refine zaw (zbb (fun i y=>y=(A,B,C,D,R++(List.range i).map (rsF gr.Q z w t))) (by simp) ?_ (by rintro y rfl;rfl))
 rintro i y hi rfl
 refine zaQ (show i<w.length by omega) (zaQ (show i<t.length by omega) (zaa (zdQ k _) (zau (by simp;omega) (zab ?_))))
 rw[(zhr (q:=gr.Q) (by omega) (zfc (i:=i) hw.2 (by omega)) hz (zfc (i:=i) ht.2 (by omega))).1]
 show _=_
 rw[List.range_succ,List.map_append,←List.append_assoc]
 simp only[List.map_cons,List.map_nil,rsF,zaC (show i<w.length by omega),zaC (show i<t.length by omega)]
attribute [local irreducible] pmL pmE pmO pmC pmZ zkJ rsF sdV hN
section
variable {gr:Group}{key:Int}{B:Bases}{l:List Cipher}{perm rs s t w x:List Int}{a b d f:Int}
theorem zf3 (l:List Cipher):(sdV l).1.length=l.length∧(sdV l).2.length=l.length:=by unfold sdV;simp
set_option maxHeartbeats 4000000 in
theorem zEl (k:OkG gr) (P:PmOk gr key B l perm rs s t w x a b d f):zcK gr B key l perm rs (s++(t++(a::b::d::f::(w++x))))=some (pmV gr key B l perm rs s t w x a b d f,true):=by
 have hp:=k.p
 have hq:=k.q
 have hq2:0<gr.Q∧gr.Q≤2000000000:=by omega
 have hn:=P.m.n
 have hpl:=P.m.pl
 have hrl:=P.m.rl
 have hk:=zc6 k P.m.key
 have hH:=zc6 k P.bs.h
 have hmh:=zg4 k P.m
 have hml:(za2 gr key l perm rs).length=l.length:=by rw[zd6,P.m.pl]
 have hsd:=zl9 k hmh
 have hsl:=zf3 (za2 gr key l perm rs)
 rw[hml]at hsl
 obtain⟨hol,hoe⟩:=P.o k
 obtain⟨hel,hee⟩:=P.e k
 have hz:=P.z k
 have hXl:=P.c.x.1
 have hWl:=P.c.w.1
 have hTl:=P.c.t.1
 have hSl:=P.c.s.1
 have hB:=zjN k P.bs.s
 have hBl:=P.bs.l
 have c1:=zpi k P.m
 have c2:=zys (ss:=s) k P.prn (by omega) (by omega) P.bl
 have c3:=(zzJ P k).1
 have c4:=(zy7 P k).1
 have c5:=zEe P k
 have c6:=zzN k hH (es:=pmO gr key B l perm rs s) (ts:=t) (by omega) (by omega)
 have c7:=zAj k hol hTl hoe P.c.t.2
 have c8:=(ziE (l:=za2 gr key l perm rs) (by omega)).1
 have c9:=zAd P k
 have c10:=(zz2 P k).1
 have c11:=zuK (A:=zeS gr B.Hs perm s) (D:=[]) (E:=[]) (t:=t) k hH hol hWl hXl (show(zlu gr key B.Hs (za2 gr key l perm rs) x a b d f).length=5 from rfl) (by omega)
 rw[zzm]at c11
 have p1:=zcJ (m:=x) k hB (by omega)
 have p2:=zcJ (m:=x) k hsd.1 (by omega)
 have p3:=zcJ (m:=x) k hsd.2 (by omega)
 have d1:=((zAm hq2 P.c.s.2).1.trans (by rw[hSl]):zgy s gr.Q=some (smN gr.Q s l.length))
 have d2:=((zqv hq2 (m:=pmE gr key B l perm rs s) P.c.s.2 hee (by omega)).trans (by rw[hSl]):zef s (pmE gr key B l perm rs s) gr.Q=some (dtN gr.Q s (pmE gr key B l perm rs s) l.length))
 have d3:=((zqv hq2 (l:=rs) (m:=pmO gr key B l perm rs s) (zqo P.m.re) hoe (by omega)).trans (by rw[P.m.rl]):zef rs (pmO gr key B l perm rs s) gr.Q=some (dtN gr.Q rs (pmO gr key B l perm rs s) l.length))
 have hsm:=ztk hq2.1 s l.length
 have hd1:=zo2 hq2.1 s (pmE gr key B l perm rs s) l.length
 have hd2:=zo2 hq2.1 rs (pmO gr key B l perm rs s) l.length
 have hy:=zz3 hq2.1 (pmO gr key B l perm rs s) t l.length
 have hcn:(zdh gr B.H (pmO gr key B l perm rs s) t).length=l.length:=(P.chn k).1
 have x1:=(zdQ k _).trans (congrArg (fun v=>some (v%gr.Q)) (zhr (by omega) P.c.a hz hsm).1)
 have x2:=(zdQ k _).trans (congrArg (fun v=>some (v%gr.Q)) (zhr (by omega) P.c.b hz hd1).1)
 have x3:=(zdQ k _).trans (congrArg (fun v=>some (v%gr.Q)) (zhr (by omega) P.c.d hz hy).1)
 have x4:=(zdQ k _).trans (congrArg (fun v=>some (v%gr.Q)) (zhr (by omega) P.c.f hz hd2).1)
 have r1:=fun R hR=>zp8 (A:=zeS gr B.Hs perm s) (B:=zdh gr B.H (pmO gr key B l perm rs s) t) (C:=pmC gr key B l perm rs s t w x a b d f) (D:=[pmZ gr key B l perm rs s t w x a b d f]) (R:=R) k hz P.c.w P.c.t hR (by omega)
 have r2:=fun R hR=>zp8 (A:=zeS gr B.Hs perm s) (B:=zdh gr B.H (pmO gr key B l perm rs s) t) (C:=pmC gr key B l perm rs s t w x a b d f) (D:=[pmZ gr key B l perm rs s t w x a b d f]) (R:=R) k hz P.c.x ⟨hol,hoe⟩ hR (by omega)
 clear hsl hsd hmh hB
 unfold zcK
 refine zaw (zaa (zd0 hSl) (zaa (zd0 hTl) (zaa (zh8 _ _) (zaa (zh8 _ _) (zaa (zh8 _ _) (zaa (zh8 _ _) (zaa (zd0 hWl) (zaa (zxz hXl) ?_))))))))
 dsimp only
 refine zaa c1 (zaa c2 (zaa c3 (zaa c4 (za1 rfl (zaa c5 (zaa c6 (zaa c7 (zaa c8 ?_))))))))
 refine zaa (pwI k (r_G k) _) (zaa (pwI k (r_G k) _) (zaa p1 (zaa (m2I k (zba k _ _) (zdN k _ _)) (zaa (pwI k (r_G k) _) (zaa (pwI k (r_G k) _) (zaa p2 (zaa (m2I k (zba k _ _) (zdN k _ _)) (zaa (pwI k hk _) (zaa p3 (zaa (m2I k (zba k _ _) (zdN k _ _)) (zau ?_ (zaa rfl (zaa c11 (zaa c9 (zaa c10 (za1 rfl ?_))))))))))))))))
 ·simp only[List.length_cons,List.length_nil];omega
 refine zaa d1 (zaa x1 (zaa d2 (zaa x2 (zaa x3 (zaa d3 (zaa x4 (zaa (r1 _ ?_) (zaa (r2 _ ?_) (zab ?_)))))))))
 ·simp
 ·simp;omega
 unfold pmV pmR;rfl
end
end
section
attribute [local irreducible] chG zg1 zeS za2 zep zdh za0 dtN smN yN
section
variable {gr:Group}{key:Int}{B:Bases}{l:List Cipher}{perm rs s t w x:List Int}{a b d f:Int}
theorem zfo {m:Nat}(h:m≤1000000) {z:Int}(e:z=(m:Int)):IntKind.i64.wrap z=(m:Int):=by rw[e];exact zap (by omega) (by omega)
attribute [local irreducible] pmL pmE pmO pmC pmZ zkJ rsF sdV hN
end
end
def mkB (gr:Group) (key:Int) (l:List Cipher):Bool:=zal gr key&&(inB 1 12 l.length&&l.all (zbg gr))
def pkB (gr:Group) (n:Nat) (perm rs:List Int):Bool:=decide (perm.length=n)&&zdq perm&&(decide (rs.length=n)&&rs.all (zdV gr))
theorem zht {gr:Group}(k:OkG gr) (key:Int) (l:List Cipher) {B:Bases}{tb:Bool}(hB:zaG gr (l.length:Int)=some (B,tb)):zb3 gr key l=some (if mkB gr key l=true then(B,tb)else(⟨0,[]⟩,false)):=by
 unfold zb3
 rw[zpQ,zhP.2 k,zoY k,zhi k,hB]
 unfold mkB
 cases zal gr key<;>cases (inB 1 12 l.length&&l.all (zbg gr))<;>rfl
theorem zmu {gr:Group}(k:¬OkG gr) (key:Int) (l:List Cipher):zb3 gr key l=some (⟨0,[]⟩,false):=by
 unfold zb3
 rw[zpQ,zfs k]
 rfl
theorem zk7 {gr:Group}{key:Int}{l:List Cipher}{perm rs:List Int}:(mkB gr key l&&pkB gr l.length perm rs)=true↔MxOk gr key l perm rs:=zCe
theorem zud {gr:Group}(k:OkG gr) (key:Int) {l:List Cipher}(hl:l.length≤20) (perm rs:List Int) {B:Bases}{tb:Bool}(hB:zaG gr (l.length:Int)=some (B,tb)):zct gr key l perm rs=some (if(tb&&(mkB gr key l&&pkB gr l.length perm rs))=true then(za2 gr key l perm rs,true)else([],false)):=by
 unfold zct
 rw[zht k key l hB,zkM k (by omega)]
 show Option.bind _ _=_
 rw[show(decide (perm.length=l.length)&&zdq perm&&(decide (rs.length=l.length)&&rs.all (zdV gr)))=pkB gr l.length perm rs from rfl]
 cases h1:mkB gr key l<;>cases tb<;>cases h2:pkB gr l.length perm rs<;>try rfl
 have m:=zk7.1 (show(mkB gr key l&&pkB gr l.length perm rs)=true by rw[h1,h2];rfl)
 simp[zpi k m]
theorem zAx {gr:Group}(k:OkG gr) (key:Int) {l:List Cipher}(hl:l.length≤20) (perm rs:List Int):zbE gr key l perm rs=some (if(mkB gr key l&&pkB gr l.length perm rs)=true then(za2 gr key l perm rs,true)else([],false)):=by
 have hq:=k.q
 have hp:=k.p
 unfold zbE
 rw[znS k,zxD perm l.length (by omega),zl3 (by omega) (by omega)]
 have e2:((rs.length:Int) !=(l.length:Int))= !decide (rs.length=l.length):=by by_cases h:rs.length=l.length<;>simp[h];omega
 rw[e2,show(zal gr key&&(inB 1 12 l.length&&l.all (zbg gr)))=mkB gr key l from rfl]
 cases h1:mkB gr key l
 ·rfl
 cases h2:(decide (perm.length=l.length)&&zdq perm)
 ·simp[pkB,h2]
 cases h3:decide (rs.length=l.length)
 ·simp[pkB,h3]
 cases h4:rs.all (zdV gr)
 ·simp[pkB,h4]
 have m:=zk7.1 (show(mkB gr key l&&pkB gr l.length perm rs)=true by simp only[pkB,h1,h2,h3,h4,Bool.and_self])
 simp[pkB,h2,h3,h4,zzU k m]
theorem zxn {gr:Group}(k:¬OkG gr) (key:Int) (l:List Cipher) (perm rs:List Int):zbE gr key l perm rs=some ([],false):=by
 unfold zbE
 rw[zwi k]
 rfl
def shB (gr:Group) (n:Nat) (p:MatrixProof):Bool:=decide (p.Columns.length=n)&&(decide (p.Chain.length=n)&&(decide (p.Pi.Commits.length=n+5)&&(decide (p.Pi.Challenges.length=1)&&(decide (p.Pi.Responses.length=2*n+4)&&(p.Columns.all (zal gr)&&(p.Chain.all (zal gr)&&(p.Pi.Commits.all (zal gr)&&p.Pi.Responses.all (zdV gr))))))))
theorem ze4 (a b:Nat):((a:Int)==(b:Int))=decide (a=b):=by by_cases h:a=b<;>simp[h];omega
theorem zEo {gr:Group}(k:OkG gr) {n:Nat}(hn:n≤1000) (p:MatrixProof):zcB gr p (n:Int)=some (shB gr n p):=by
 have hq:=k.q
 have hp:=k.p
 have e1:IntKind.i64.wrap ((n:Int)+5)=((n+5:Nat):Int):=zfo (by omega) (by omega)
 have e2:IntKind.i64.wrap (IntKind.i64.wrap (2*(n:Int))+4)=((2*n+4:Nat):Int):=by
  rw[zap (n:=2*(n:Int)) (by omega) (by omega)];exact zfo (by omega) (by omega)
 unfold zcB
 have e3:((p.Pi.Challenges.length:Int)==1)=decide (p.Pi.Challenges.length=1):=ze4 _ 1
 rw[e1,e2,ze4,ze4,ze4,ze4,e3,zg2 k,zg2 k,zg2 k,zh3 (by omega) (by omega)]
 unfold shB
 generalize decide (p.Columns.length=n)=a1
 generalize decide (p.Chain.length=n)=a2
 generalize decide (p.Pi.Commits.length=n+5)=a3
 generalize decide (p.Pi.Challenges.length=1)=a4
 generalize decide (p.Pi.Responses.length=2*n+4)=a5
 generalize p.Columns.all (zal gr)=a6
 generalize p.Chain.all (zal gr)=a7
 generalize p.Pi.Commits.all (zal gr)=a8
 generalize p.Pi.Responses.all (zdV gr)=a9
 cases a1<;>cases a2<;>cases a3<;>cases a4<;>cases a5<;>cases a6<;>cases a7<;>cases a8<;>rfl
def alN (q:Int) (e:List Int):Nat→Int
 |0=>1
 |i+1=>(alN q e i*e.getD i 0)%q
theorem zwY {q:Int}(hq:1<q) (e:List Int):∀i,E9 q (alN q e i)
 |0=>⟨by show(0:Int)≤1;omega,hq⟩
 |i+1=>zdL (by omega) _
theorem e_m {q a b:Int}(hq:q≤2000000000) (ha:E9 q a) (hb:E9 q b):IntKind.i64.wrap (a*b)=a*b∧(IntKind.i64.wrap (a*b)).tmod q=(a*b)%q:=by
 have h1:0≤a*b:=Int.mul_nonneg ha.1 hb.1
 have h2:a*b≤2000000000*2000000000:=Int.mul_le_mul (by have:=ha.2;omega) (by have:=hb.2;omega) hb.1 (by omega)
 rw[zap (n:=a*b) (by omega) (by omega)]
 exact⟨rfl,Int.tmod_eq_emod_of_nonneg h1⟩
theorem zwe {gr:Group}(k:OkG gr) {e:List Int}(he:∀z∈e,E9 gr.Q z):zaq (σ:=Int) (fun i22 s21=>
 (ix e i22).bind fun x28=>
 (zak gr (IntKind.i64.wrap (s21*x28))).bind fun z29=>
 some (.go z29)) (fun s21=>s21) e.length 0 1=some (alN gr.Q e e.length):=by
 have hp:=k.p
 have hq:=k.q
 refine zaw (zbb (fun i y=>y=alN gr.Q e i) rfl ?_ fun y h=>h)
 rintro i y hi rfl
 refine zaQ hi (zaa (zdQ k _) (zab ?_))
 rw[(e_m (q:=gr.Q) (by omega) (zwY (by omega) _ _) (zfc he hi)).1]
 show _=(alN gr.Q e i*e.getD i 0)%gr.Q
 rw[zaC hi]
theorem zw1 {gr:Group}(k:OkG gr) {x:Int}(h:zal gr x=true) {s:Int}(hs:0≤s):zah gr (zah gr x s) (-1)=zah gr x (0-s):=by
 have hq:=k.q
 have e1:(-1:Int)%gr.Q=(gr.Q-1)%gr.Q:=by rw[show gr.Q-1=-1+gr.Q by omega,Int.add_emod_right]
 have h1:zah gr (zah gr x s) (-1)=zah gr (zah gr x s) (gr.Q-1):=zrO _ e1
 rw[h1,zqj k h hs (by omega)]
 refine zrO _ ?_
 rw[show s*(gr.Q-1)=(0-s)+gr.Q*s by grind,Int.add_mul_emod_self_left]
def bef (h:Int) (ch:List Int) (i:Nat):Int:=([h]++ch).getD i 0
theorem zsC {gr:Group}(k:OkG gr) {h:Int}(hh:zal gr h=true) {ch:List Int}(hc:∀z∈ch,zal gr z=true) (i:Nat) (hi:i≤ch.length):ix ([h]++ch) (i:Int)=some (bef h ch i)∧R9 (bef h ch i):=by
 have hl:i<([h]++ch).length:=by simp;omega
 unfold bef
 rw[zed hl,zaC hl]
 refine⟨rfl,zc6 k ?_⟩
 rcases List.mem_append.1 (List.getElem_mem hl)with h1|h1
 ·rw[List.mem_singleton]at h1;rw[h1];exact hh
 exact hc _ h1
section
attribute [local irreducible] chG zg1 zep za0 alN sdV
def wvL (key:Int) (l out:List Cipher) (p:MatrixProof):List Int:=zep key l out p.Columns
def wvE (gr:Group) (key:Int) (l out:List Cipher) (p:MatrixProof):List Int:=zg1 gr zps (wvL key l out p) l.length
def wvZ (gr:Group) (key:Int) (l out:List Cipher) (p:MatrixProof):Int:=chG gr endS (wvL key l out p++p.Chain++p.Pi.Commits)
def lf5 (gr:Group) (B:Bases) (l:List Cipher) (e cols:List Int) (last al:Int):List Int:=[zao gr [zao gr cols,zah gr (zao gr B.Hs) (-1)],za0 gr cols e 1,zao gr [last,zah gr B.H (0-al)],za0 gr (sdV l).1 e 1,za0 gr (sdV l).2 e 1]
def rt5 (gr:Group) (key:Int) (B:Bases) (out:List Cipher) (x r:List Int):List Int:=[zah gr gr.G (r.getD 0 0),zao gr [zah gr gr.G (r.getD 1 0),za0 gr B.Hs x 1],zah gr gr.G (r.getD 2 0),zao gr [zah gr gr.G (IntKind.i64.wrap (0-r.getD 3 0)),za0 gr (sdV out).1 x 1],zao gr [zah gr key (IntKind.i64.wrap (0-r.getD 3 0)),za0 gr (sdV out).2 x 1]]
def zkB (gr:Group) (h:Int) (ch x r:List Int) (i:Nat):Int:=zao gr [zah gr gr.G (r.getD (4+i) 0),zah gr (bef h ch i) (x.getD i 0)]
def hlB (gr:Group) (z c b d:Int):Bool:=zao gr [c,zah gr b z]==d
def vfB (gr:Group) (z:Int) (c left right:List Int) (i:Nat):Bool:=hlB gr z (c.getD i 0) (left.getD i 0) (right.getD i 0)
def vLf (gr:Group) (B:Bases) (l:List Cipher) (e:List Int) (p:MatrixProof):List Int:=lf5 gr B l e p.Columns (p.Chain.getD (l.length-1) 0) (alN gr.Q e e.length)++p.Chain
def vRt (gr:Group) (key:Int) (B:Bases) (n:Nat) (out:List Cipher) (p:MatrixProof):List Int:=rt5 gr key B out (p.Pi.Responses.drop (n+4)) p.Pi.Responses++(List.range n).map (zkB gr B.H p.Chain (p.Pi.Responses.drop (n+4)) p.Pi.Responses)
def vmB (gr:Group) (key:Int) (B:Bases) (l out:List Cipher) (p:MatrixProof):Bool:=
 decide (out.length=l.length)&&(shB gr l.length p&&((p.Pi.Challenges.getD 0 0==wvZ gr key l out p)&&(List.range (5+l.length)).all (vfB gr (wvZ gr key l out p) p.Pi.Commits (vLf gr B l (wvE gr key l out p) p) (vRt gr key B l.length out p))))
structure VmOk (gr:Group) (key:Int) (B:Bases) (l out:List Cipher) (p:MatrixProof):Prop where
 key:zal gr key=true
 n:1≤l.length∧l.length≤12
 lc:∀c∈l,zbg gr c=true
 oc:∀c∈out,zbg gr c=true
 ol:out.length=l.length
 bs:BsOk gr l.length B
 cols:p.Columns.length=l.length∧∀z∈p.Columns,zal gr z=true
 chn:p.Chain.length=l.length∧∀z∈p.Chain,zal gr z=true
 com:p.Pi.Commits.length=l.length+5∧∀z∈p.Pi.Commits,zal gr z=true
 chl:p.Pi.Challenges.length=1
 rsp:p.Pi.Responses.length=2*l.length+4∧∀z∈p.Pi.Responses,E9 gr.Q z
section
variable {gr:Group}{key:Int}{B:Bases}{l out:List Cipher}{p:MatrixProof}
theorem VmOk.len (V:VmOk gr key B l out p):(wvL key l out p).length=1+5*l.length:=by
 have h1:=V.cols.1
 have h2:=V.ol
 unfold wvL
 rw[ziK,h1];omega
theorem VmOk.dig (k:OkG gr) (V:VmOk gr key B l out p):(wvL key l out p).all zbh=true:=ziO k V.key V.lc V.oc (zec k (List.all_eq_true.2 V.cols.2))
theorem VmOk.lst (V:VmOk gr key B l out p):zbL key l out p.Columns=some (wvL key l out p)∧zfy key l out p.Columns=some (wvL key l out p):=by
 have hn:=V.n
 have h1:=V.cols.1
 have h2:=V.ol
 exact⟨zj9 (by omega) (by omega) (by omega),zuZ (by omega) (by omega) (by omega)⟩
theorem VmOk.chs (k:OkG gr) (V:VmOk gr key B l out p):zbC gr zps (wvL key l out p) (l.length:Int)=some (wvE gr key l out p,true)∧zh5 gr key l out p.Columns=some (wvE gr key l out p):=by
 have hn:=V.n
 refine⟨zuM k (by decide) (by rw[V.len];omega) (V.dig k) (by omega) (by omega),?_⟩
 unfold zh5
 exact zaw (zaa V.lst.2 (zaa (zuB k (by decide) (by rw[V.len];omega) (V.dig k) (by omega)) (zab rfl)))
theorem VmOk.e (k:OkG gr) (V:VmOk gr key B l out p):(wvE gr key l out p).length=l.length∧∀z∈wvE gr key l out p,E9 gr.Q z:=zu6 k _ _ _
theorem VmOk.lend (k:OkG gr) (V:VmOk gr key B l out p):(wvL key l out p++p.Chain++p.Pi.Commits).length=6+7*l.length∧(wvL key l out p++p.Chain++p.Pi.Commits).all zbh=true:=by
 have h1:=V.len
 have h2:=V.chn.1
 have h3:=V.com.1
 refine⟨by rw[List.length_append,List.length_append,h1,h2,h3];omega,?_⟩
 rw[List.all_append,List.all_append,V.dig k,zec k (List.all_eq_true.2 V.chn.2),zec k (List.all_eq_true.2 V.com.2)]
 rfl
theorem VmOk.cat (k:OkG gr) (V:VmOk gr key B l out p):zaS [wvL key l out p,p.Chain,p.Pi.Commits]=some (wvL key l out p++p.Chain++p.Pi.Commits):=by
 have hfl:[wvL key l out p,p.Chain,p.Pi.Commits].flatten=wvL key l out p++p.Chain++p.Pi.Commits:=by simp
 have h:=V.lend k
 have hn:=V.n
 rw[zh4 _ (by rw[hfl];omega),hfl]
theorem VmOk.chlI (k:OkG gr) (V:VmOk gr key B l out p):zaz gr endS (wvL key l out p++p.Chain++p.Pi.Commits)=some (wvZ gr key l out p,true):=by
 have h:=V.lend k
 have hn:=V.n
 rw[zny k _ (by omega),if_pos (zph k (by decide) (by rw[show endS.size=9 from rfl];omega) h.2)]
 rfl
theorem zDd (hk:zal gr key=true) (hn:1≤l.length∧l.length≤12) (lc:∀c∈l,zbg gr c=true) (oc:∀c∈out,zbg gr c=true) (hb:BsOk gr l.length B) (ho:out.length=l.length) (hs:shB gr l.length p=true):VmOk gr key B l out p:=by
 simp only[shB,Bool.and_eq_true,decide_eq_true_eq]at hs
 obtain⟨a1,a2,a3,a4,a5,a6,a7,a8,a9⟩:=hs
 exact⟨hk,hn,lc,oc,ho,hb,⟨a1,List.all_eq_true.1 a6⟩,⟨a2,List.all_eq_true.1 a7⟩,⟨a3,List.all_eq_true.1 a8⟩,a4,⟨a5,zqo a9⟩⟩
theorem zn9 (k:OkG gr) {x y w z:Int}(hx:R9 x) (hy:R9 y):zaN x y w gr.P gr.Q gr.G z=some (hlB gr z x y w):=by
 unfold zaN
 show(zag gr y z).bind _=_
 rw[pwI k hy,Option.bind_some]
 show(zai gr _).bind _=_
 rw[m2I k hx (zba k _ _),Option.bind_some]
 rfl
theorem ztY (k:OkG gr) {h z:Int}(hh:zal gr h=true) {ch c x r:List Int}{n:Nat}(hc:c.length=n+5∧∀z∈c,zal gr z=true) (hch:ch.length=n∧∀z∈ch,zal gr z=true) (hx:x.length=n) (hr:r.length=2*n+4) (hn:n≤100) (b:Bool):zaq (σ:=Bool) (fun i81 s80=>
 ((if s80=true then(
 (ix c (IntKind.i64.wrap (5+i81))).bind fun x91=>
 (ix ch i81).bind fun x92=>
 (ix r (IntKind.i64.wrap (4+i81))).bind fun x93=>
 (ix ([h]++ch) i81).bind fun x94=>
 (ix x i81).bind fun x95=>
 (zag gr gr.G x93).bind fun z96=>
 (zag gr x94 x95).bind fun z97=>
 (zai gr [z96,z97]).bind fun z98=>
 (zaN x91 x92 z98 gr.P gr.Q gr.G z).bind fun z99=>
 some z99)else(
 some false):Option Bool).bind fun x89=>
 some (.go x89))) (fun s80=>s80) n 0 b=some (b&&(List.range n).all fun i=>hlB gr z (c.getD (5+i) 0) (ch.getD i 0) (zkB gr h ch x r i)):=by
 refine zaw (zbb (fun i y=>y=(b&&(List.range i).all fun i=>hlB gr z (c.getD (5+i) 0) (ch.getD i 0) (zkB gr h ch x r i))) (by simp) ?_ fun y h=>h)
 rintro i y hi hy
 have h5:5+i<c.length:=by omega
 have h4:4+i<r.length:=by omega
 have hci:i<ch.length:=by omega
 have hxi:i<x.length:=by omega
 have hb:=zsC k hh hch.2 i (by omega)
 refine zae (ψ:=fun y'=>y'=(y&&hlB gr z (c.getD (5+i) 0) (ch.getD i 0) (zkB gr h ch x r i))) (zam (fun g=>?_) fun g=>zab (by rw[g];rfl)) fun y' hy'=>zab ?_
 ·rw[show IntKind.i64.wrap (5+(i:Int))=((5+i:Nat):Int)from zfo (by omega) (by omega),show IntKind.i64.wrap (4+(i:Int))=((4+i:Nat):Int)from zfo (by omega) (by omega)]
  refine zaQ h5 (zaQ hci (zaQ h4 (zaa hb.1 (zaQ hxi (zaa (pwI k (r_G k) _) (zaa (pwI k hb.2 _) (zaa (m2I k (zba k _ _) (zba k _ _)) (zaa (zn9 k (zc6 k (zfc hc.2 h5)) (zc6 k (zfc hch.2 hci))) (zab ?_)))))))))
  rw[g,Bool.true_and,zaC h5,zaC hci]
  unfold zkB
  rw[zaC h4,zaC hxi]
 show y'=_
 rw[hy',hy,List.range_succ,List.all_append]
 simp[Bool.and_assoc]
theorem zuf (p:Nat→Bool) (n:Nat):(List.range (5+n)).all p=((p 0&&(p 1&&(p 2&&(p 3&&p 4))))&&(List.range n).all fun i=>p (5+i)):=by
 rw[List.range_add,List.all_append,List.all_map]
 have:(List.range 5).all p=(p 0&&(p 1&&(p 2&&(p 3&&p 4)))):=by
  show(p 0&&(p 1&&(p 2&&(p 3&&(p 4&&true)))))=_
  rw[Bool.and_true]
 rw[this];rfl
end
attribute [local irreducible] wvL wvE wvZ hlB zkB bef
section
variable {gr:Group}{key:Int}{B:Bases}{l out:List Cipher}{p:MatrixProof}
set_option maxHeartbeats 4000000 in
theorem zDe (k:OkG gr) (hk:zal gr key=true) (hn:1≤l.length∧l.length≤12) (lc:∀c∈l,zbg gr c=true) (oc:∀c∈out,zbg gr c=true) (hb:BsOk gr l.length B):zb7 gr B key l out p=some (vmB gr key B l out p):=by
 have hp:=k.p
 have hq:=k.q
 unfold zb7
 refine zaw (zae (ψ:=(· = !(decide (out.length=l.length)&&shB gr l.length p))) ?_ ?_)
 ·rw[show((out.length:Int) !=(l.length:Int))= !decide (out.length=l.length)by rw[bne,ze4]]
  refine zam (fun g=>zab ?_) fun g=>zaa (zEo k (by omega) p) (zab ?_)
  ·have:decide (out.length=l.length)=false:=by simpa using g
   rw[this];rfl
  have:decide (out.length=l.length)=true:=by simpa using g
  rw[this];rfl
 rintro b rfl
 refine zam (fun g=>zab ?_) fun g=>?_
 ·rw[Bool.not_eq_true']at g
  unfold vmB
  rw[←Bool.and_assoc,g];rfl
 have g:(decide (out.length=l.length)&&shB gr l.length p)=true:=by simpa using g
 obtain⟨g1,g2⟩:=Bool.and_eq_true_iff.1 g
 have V:=zDd (p:=p) hk hn lc oc hb (of_decide_eq_true g1) g2
 have hv:vmB gr key B l out p=((p.Pi.Challenges.getD 0 0==wvZ gr key l out p)&&(List.range (5+l.length)).all (vfB gr (wvZ gr key l out p) p.Pi.Commits (vLf gr B l (wvE gr key l out p) p) (vRt gr key B l.length out p))):=by unfold vmB;rw[g1,g2];rfl
 rw[hv]
 obtain⟨hel,hee⟩:=V.e k
 have hc0:0<p.Pi.Challenges.length:=by rw[V.chl];omega
 refine zaa V.lst.1 (zaa (V.chs k).1 (zaa (V.cat k) (zaa (V.chlI k) (zae (ψ:=(· =(p.Pi.Challenges.getD 0 0 !=wvZ gr key l out p))) (za1 rfl (za1 rfl (zaQ (k:=0) hc0 (zab (by rw[zaC hc0]))))) ?_))))
 rintro b rfl
 refine zam (fun g=>zab ?_) fun g=>?_
 ·rw[bne,Bool.not_eq_true']at g;rw[g];rfl
 rw[bne,Bool.not_eq_false']at g
 rw[g,Bool.true_and]
 have w4:IntKind.i64.wrap ((l.length:Int)+4)=((l.length+4:Nat):Int):=zfo (by omega) (by omega)
 have w1:IntKind.i64.wrap ((l.length:Int)-1)=((l.length-1:Nat):Int):=zfo (by omega) (by omega)
 have hdr:(p.Pi.Responses.take p.Pi.Responses.length).drop (l.length+4)=p.Pi.Responses.drop (l.length+4):=by rw[List.take_length]
 have hrl:=V.rsp.1
 have hxl:(p.Pi.Responses.drop (l.length+4)).length=l.length:=by rw[List.length_drop,hrl];omega
 rw[w4,w1,Int.toNat_natCast,hdr]
 generalize hX:p.Pi.Responses.drop (l.length+4)=x at hxl
 refine zau (by omega) (zau (by omega) (zaa (zwe k hee) (zaa (ziE (by omega)).1 (zaa (ziE (by rw[V.ol];omega)).1 ?_))))
 have hsl:=zl9 k lc
 have hso:=zl9 k oc
 have hll:=zf3 l
 have hol:=zf3 out
 rw[V.ol]at hol
 have hH:=zc6 k hb.h
 have hK:=zc6 k hk
 have hBr:=zjN k hb.s
 have hCr:=zjN k V.cols.2
 have hBl:=hb.l
 have hcl:=V.cols.1
 have hchl:=V.chn.1
 have hcm:∀i,i<5→∃h:i<p.Pi.Commits.length,R9 p.Pi.Commits[i]:=fun i hi=>⟨by rw[V.com.1];omega,zc6 k (zfc V.com.2 (by rw[V.com.1];omega))⟩
 obtain⟨m0,t0⟩:=hcm 0 (by omega)
 obtain⟨m1,t1⟩:=hcm 1 (by omega)
 obtain⟨m2,t2⟩:=hcm 2 (by omega)
 obtain⟨m3,t3⟩:=hcm 3 (by omega)
 obtain⟨m4,t4⟩:=hcm 4 (by omega)
 have r0:0<p.Pi.Responses.length:=by omega
 have r1:1<p.Pi.Responses.length:=by omega
 have r2:2<p.Pi.Responses.length:=by omega
 have r3:3<p.Pi.Responses.length:=by omega
 have hla:l.length-1<p.Chain.length:=by omega
 have hal:=zwY (show 1<gr.Q by omega) (wvE gr key l out p) (wvE gr key l out p).length
 have hlb:=zc6 k (zfc V.chn.2 hla)
 have qB:=zpc k hBr
 have qC:=zpc k hCr
 have f0:vfB gr (wvZ gr key l out p) p.Pi.Commits (vLf gr B l (wvE gr key l out p) p) (vRt gr key B l.length out p) 0=hlB gr (wvZ gr key l out p) p.Pi.Commits[0] (zao gr [zao gr p.Columns,zah gr (zao gr B.Hs) (-1)]) (zah gr gr.G p.Pi.Responses[0]):=by
  rw[←zaC (d:=0) m0,←zaC (d:=0) r0];rfl
 have f1:vfB gr (wvZ gr key l out p) p.Pi.Commits (vLf gr B l (wvE gr key l out p) p) (vRt gr key B l.length out p) 1=hlB gr (wvZ gr key l out p) p.Pi.Commits[1] (za0 gr p.Columns (wvE gr key l out p) 1) (zao gr [zah gr gr.G p.Pi.Responses[1],za0 gr B.Hs x 1]):=by
  rw[←zaC (d:=0) m1,←zaC (d:=0) r1,←hX];rfl
 have f2:vfB gr (wvZ gr key l out p) p.Pi.Commits (vLf gr B l (wvE gr key l out p) p) (vRt gr key B l.length out p) 2=hlB gr (wvZ gr key l out p) p.Pi.Commits[2] (zao gr [p.Chain[l.length-1],zah gr (zah gr B.H (alN gr.Q (wvE gr key l out p) (wvE gr key l out p).length)) (-1)]) (zah gr gr.G p.Pi.Responses[2]):=by
  rw[zw1 k hb.h hal.1,←zaC (d:=0) m2,←zaC (d:=0) r2,←zaC (d:=0) hla];rfl
 have f3:vfB gr (wvZ gr key l out p) p.Pi.Commits (vLf gr B l (wvE gr key l out p) p) (vRt gr key B l.length out p) 3=hlB gr (wvZ gr key l out p) p.Pi.Commits[3] (za0 gr (sdV l).1 (wvE gr key l out p) 1) (zao gr [zah gr gr.G (IntKind.i64.wrap (0-p.Pi.Responses[3])),za0 gr (sdV out).1 x 1]):=by
  rw[←zaC (d:=0) m3,←zaC (d:=0) r3,←hX];rfl
 have f4:vfB gr (wvZ gr key l out p) p.Pi.Commits (vLf gr B l (wvE gr key l out p) p) (vRt gr key B l.length out p) 4=hlB gr (wvZ gr key l out p) p.Pi.Commits[4] (za0 gr (sdV l).2 (wvE gr key l out p) 1) (zao gr [zah gr key (IntKind.i64.wrap (0-p.Pi.Responses[3])),za0 gr (sdV out).2 x 1]):=by
  rw[←zaC (d:=0) m4,←zaC (d:=0) r3,←hX];rfl
 have f5:((List.range l.length).all fun i=>vfB gr (wvZ gr key l out p) p.Pi.Commits (vLf gr B l (wvE gr key l out p) p) (vRt gr key B l.length out p) (5+i))=(List.range l.length).all fun i=>hlB gr (wvZ gr key l out p) (p.Pi.Commits.getD (5+i) 0) (p.Chain.getD i 0) (zkB gr B.H p.Chain x p.Pi.Responses i):=by
  rw[Bool.eq_iff_iff,List.all_eq_true,List.all_eq_true]
  refine forall_congr' fun i=>forall_congr' fun hi=>?_
  have hi:=List.mem_range.1 hi
  have a1:(vLf gr B l (wvE gr key l out p) p).getD (5+i) 0=p.Chain.getD i 0:=by
   unfold vLf
   rw[List.getD_eq_getElem?_getD,List.getElem?_append_right (by simp[lf5]),List.getD_eq_getElem?_getD]
   congr 2;simp[lf5]
  have a2:(vRt gr key B l.length out p).getD (5+i) 0=zkB gr B.H p.Chain x p.Pi.Responses i:=by
   unfold vRt
   rw[List.getD_eq_getElem?_getD,List.getElem?_append_right (by simp[rt5]),hX]
   have:5+i-(rt5 gr key B out x p.Pi.Responses).length=i:=by simp[rt5]
   rw[this];simp[hi]
  unfold vfB
  rw[a1,a2]
 rw[zuf,f0,f1,f2,f3,f4,f5]
 have p0:=zpA k (b:=zao gr p.Columns) (x:=zao gr B.Hs) qC.1 qC.2 qB.1 qB.2
 have p2:=zpA k (b:=p.Chain[l.length-1]) (x:=zah gr B.H (alN gr.Q (wvE gr key l out p) (wvE gr key l out p).length)) hlb.1 hlb.2 (zba k _ _).1 (zba k _ _).2
 have u1:=zcJ k (m:=wvE gr key l out p) hCr (by omega)
 have u2:=zcJ k (m:=x) hBr (by omega)
 have u3:=zcJ k (m:=wvE gr key l out p) hsl.1 (by omega)
 have u4:=zcJ k (m:=wvE gr key l out p) hsl.2 (by omega)
 have u5:=zcJ k (m:=x) hso.1 (by omega)
 have u6:=zcJ k (m:=x) hso.2 (by omega)
 have mm:=fun a b ha hb=>m2I k (x:=a) (y:=b) ha hb
 generalize hb0:hlB gr (wvZ gr key l out p) p.Pi.Commits[0] (zao gr [zao gr p.Columns,zah gr (zao gr B.Hs) (-1)]) (zah gr gr.G p.Pi.Responses[0])=b0
 generalize hb1:hlB gr (wvZ gr key l out p) p.Pi.Commits[1] (za0 gr p.Columns (wvE gr key l out p) 1) (zao gr [zah gr gr.G p.Pi.Responses[1],za0 gr B.Hs x 1])=b1
 generalize hb2:hlB gr (wvZ gr key l out p) p.Pi.Commits[2] (zao gr [p.Chain[l.length-1],zah gr (zah gr B.H (alN gr.Q (wvE gr key l out p) (wvE gr key l out p).length)) (-1)]) (zah gr gr.G p.Pi.Responses[2])=b2
 generalize hb3:hlB gr (wvZ gr key l out p) p.Pi.Commits[3] (za0 gr (sdV l).1 (wvE gr key l out p) 1) (zao gr [zah gr gr.G (IntKind.i64.wrap (0-p.Pi.Responses[3])),za0 gr (sdV out).1 x 1])=b3
 generalize hb4:hlB gr (wvZ gr key l out p) p.Pi.Commits[4] (za0 gr (sdV l).2 (wvE gr key l out p) 1) (zao gr [zah gr key (IntKind.i64.wrap (0-p.Pi.Responses[3])),za0 gr (sdV out).2 x 1])=b4
 refine zae (ψ:=(· =(b0&&(b1&&(b2&&(b3&&b4)))))) ?_ ?_
 ·refine zaQ (k:=0) m0 (zaQ (k:=0) r0 (zaa (ziz k hCr) (zaa (ziz k hBr) (zaa p0 (zaa (pwI k (r_G k) _) (zaa ((zn9 k t0 (zft k qC (zba k _ _))).trans (congrArg some hb0)) (zam (fun g=>?_) fun g=>zab (by rw[g];rfl))))))))
  rw[g,Bool.true_and]
  refine zaQ (k:=1) m1 (zaQ (k:=1) r1 (zaa u1 (zaa (pwI k (r_G k) _) (zaa u2 (zaa (m2I k (zba k _ _) (zdN k _ _)) (zaa ((zn9 k t1 (zdN k _ _)).trans (congrArg some hb1)) (zam (fun g=>?_) fun g=>zab (by rw[g];rfl))))))))
  rw[g,Bool.true_and]
  refine zaQ (k:=2) m2 (zaQ hla (zaQ (k:=2) r2 (zaa (pwI k hH _) (zaa p2 (zaa (pwI k (r_G k) _) (zaa ((zn9 k t2 (zft k hlb (zba k _ _))).trans (congrArg some hb2)) (zam (fun g=>?_) fun g=>zab (by rw[g];rfl))))))))
  rw[g,Bool.true_and]
  refine zaQ (k:=3) m3 (zaQ (k:=3) r3 (zaa u3 (zaa (pwI k (r_G k) _) (zaa u5 (zaa (m2I k (zba k _ _) (zdN k _ _)) (zaa ((zn9 k t3 (zdN k _ _)).trans (congrArg some hb3)) (zam (fun g=>?_) fun g=>zab (by rw[g];rfl))))))))
  rw[g,Bool.true_and]
  exact zaQ (k:=4) m4 (zaa u4 (zaa (pwI k hK _) (zaa u6 (zaa (m2I k (zba k _ _) (zdN k _ _)) (zaa ((zn9 k t4 (zdN k _ _)).trans (congrArg some hb4)) (zab rfl))))))
 rintro b rfl
 exact zau (by simp only[List.length_cons,List.length_nil];omega) (zaa rfl (zaa (ztY k hb.h V.com V.chn hxl hrl (by omega) _) (zab rfl)))
end
end
section
attribute [local irreducible] chG zg1 zep za0 alN sdV wvL wvE wvZ
section
variable {gr:Group}{key:Int}{B:Bases}{l out:List Cipher}{p:MatrixProof}
theorem zvB {P:Int→Prop}{a b c d e:Int}(h1:P a) (h2:P b) (h3:P c) (h4:P d) (h5:P e):∀x∈[a,b,c,d,e],P x:=by
 intro x hx
 simp only[List.mem_cons,List.not_mem_nil,or_false]at hx
 rcases hx with rfl|rfl|rfl|rfl|rfl<;>assumption
end
end
section
variable {gr:Group}{key:Int}{B:Bases}{l:List Cipher}{perm rs s t w x:List Int}{a b d f:Int}
theorem zo8 {gr:Group}{l:List Int}(h:∀z∈l,E9 gr.Q z):l.all (zdV gr)=true:=List.all_eq_true.2 fun z hz=>zsm.2 (h z hz)
end
def smL (f:Nat→Int):Nat→Int
 |0=>0
 |n+1=>smL f n+f n
theorem zp5 {q:Int}{f g:Nat→Int}:∀n,(∀k,k<n→f k%q=g k%q)→smL f n%q=smL g n%q
 |0,_=>rfl
 |n+1,h=>by
  show(smL f n+f n)%q=(smL g n+g n)%q
  exact zzQ (zp5 n fun k hk=>h k (by omega)) (h n (by omega))
theorem ziS {f g:Nat→Int}:∀n,(∀k,k<n→f k=g k)→smL f n=smL g n
 |0,_=>rfl
 |n+1,h=>by show smL f n+f n=smL g n+g n;rw[ziS n fun k hk=>h k (by omega),h n (by omega)]
theorem zzC (l:List Int):(srt l).Pairwise (·≤ ·):=by
 have h:=List.pairwise_mergeSort (le:=fun x y:Int=>decide (x≤y)) (fun a b c h1 h2=>by simp only[decide_eq_true_eq]at*;omega) (fun a b=>by simp only[Bool.or_eq_true,decide_eq_true_eq];omega) l
 exact h.imp fun h=>by simpa using h
theorem zql {α:Type}{e:Option α}{φ χ:α→Prop}(h1:Rn e φ) (h2:Rn e χ):Rn e (fun x=>φ x∧χ x):=by
 obtain⟨a,e1,p1⟩:=h1
 obtain⟨b,e2,p2⟩:=h2
 rw[e1]at e2;cases e2
 exact⟨a,e1,p1,p2⟩
def drB (gr:Group) (s:ByteArray) (k:Int):Bool:=(List.range 60).any fun c=>zfw gr s k (c:Int) !=1
def okD (gr:Group):Bool:=drB gr ⟨#[104]⟩ 0&&(List.range 13).all fun i=>drB gr ⟨#[104,115]⟩ (i:Int)
theorem zrX {gr:Group}(k:OkG gr) {s:ByteArray}{i y:Int}(h:drB gr s i=true) (hy:zhF gr s i y):0<y:=by
 rcases hy with⟨c,hc,rfl,_,_⟩|⟨_,h4⟩
 ·have:=zok k s i c;omega
 obtain⟨c,hc,h5⟩:=List.any_eq_true.1 h
 rw[h4 c (by have:=List.mem_range.1 hc;omega)]at h5
 cases h5
theorem zvU {gr:Group}(k:OkG gr) (hd:okD gr=true) {n:Nat}(hn:n≤13):Rn (zaG gr (n:Int)) (fun x=>x.2=true):=by
 obtain⟨d1,d2⟩:=Bool.and_eq_true_iff.1 hd
 obtain⟨y,_,hy2,hy3⟩:=zo7 k (s:=⟨#[104]⟩) (by decide) (i:=0) rfl
 have hy:=zrX k d1 hy3
 unfold zaG
 refine zaa hy2 (zae (ψ:=fun p=>p.2.2=true) (zeb n (fun m p=>p.2.2.2=(m:Int)∧p.2.1.length=m∧p.2.2.1=true) ⟨rfl,rfl,rfl⟩ ?_ ?_) ?_)
 ·rintro m ⟨w,l,t,c⟩ hm ⟨h1,h2,h3⟩
  simp only at h1 h2 h3
  subst h1 h3
  obtain⟨z,_,z2,z3⟩:=zo7 k (s:=⟨#[104,115]⟩) (by decide) (i:=(m:Int)) (zcP.2 ⟨by omega,by omega⟩)
  have hz:=zrX k (List.all_eq_true.1 d2 m (List.mem_range.2 (by omega))) z3
  refine zam (fun _=>?_) fun h=>absurd h (by simp;omega)
  refine zaa z2 (zae (ψ:=fun b=>b=true) (zf0 rfl (zab (by simpa using hz))) fun b hb=>?_)
  subst hb
  refine zau (by dsimp only;omega) (zab ⟨?_,by simp[h2],rfl⟩)
  show IntKind.i64.wrap ((m:Int)+1)=_
  rw[zap (by omega) (by omega)];rfl
 ·rintro⟨w,l,t,c⟩ ⟨h1,h2,h3⟩
  simp only at h1 h2 h3
  subst h1 h3
  exact zam (fun h=>absurd h (by simp)) fun _=>zab rfl
 rintro⟨w,l,t⟩ h
 have h:t=true:=h
 subst h
 refine zae (ψ:=fun b=>b=false) (za1 (by simpa using hy) (zab rfl)) fun b hb=>?_
 subst hb
 exact za1 rfl (zab rfl)
theorem znD {gr:Group}(k:OkG gr) (hd:okD gr=true) {n:Nat}(hn:n≤13):∃b,zeH gr (n:Int)=some (b,true)∧zaG gr (n:Int)=some (b,true)∧BsOk gr n b:=by
 obtain⟨b,t,h1,h2,h3⟩:=zIb k (n:=n) (by omega)
 obtain⟨x,e1,e2⟩:=zvU k hd hn
 rw[h2]at e1
 cases e1
 have e2:t=true:=e2
 subst e2
 exact⟨b,h1,h2,h3 rfl⟩
def prC (n b:Nat):Bool:=decide (2≤n)&&decide (n<b*b)&&(List.range b).all fun d=>decide (d<2)||decide (n<d*d)||n%d !=0
theorem zwX {n b:Nat}(h:prC n b=true):Pr n:=by
 simp only[prC,Bool.and_eq_true,decide_eq_true_eq]at h
 obtain⟨⟨h1,h2⟩,h3⟩:=h
 refine⟨h1,fun d a1 a2=>?_⟩
 have hd:d<b:=Nat.lt_of_not_le fun hle=>by have:=Nat.mul_le_mul hle hle;omega
 have:=List.all_eq_true.1 h3 d (List.mem_range.2 hd)
 simp only[Bool.or_eq_true,decide_eq_true_eq,bne_iff_ne,ne_eq]at this
 omega
def npC (n:Nat):Bool:=(List.range 3500).any fun d=>decide (2≤d)&&(decide (d*d≤n)&&n%d==0)
theorem zCs {n:Nat}(h:npC n=true):¬Pr n:=by
 obtain⟨d,_,hd⟩:=List.any_eq_true.1 h
 simp only[Bool.and_eq_true,decide_eq_true_eq,beq_iff_eq]at hd
 exact fun hp=>hp.2 d hd.1 hd.2.1 hd.2.2
def mgC (q K:Nat):Bool:=decide (q≤1000000)&&(decide (1≤K)&&(decide (1+K*q≤2000000000)&&(prC q 1001&&(prC (1+K*q) 3500&&(2^K%(1+K*q) !=1&&(List.range K).all fun k=>k==0||npC (1+k*q))))))
def grp (x:Nat×Nat):Group:=⟨((1+x.2*x.1:Nat):Int),(x.1:Int),((2^x.2%(1+x.2*x.1):Nat):Int)⟩
theorem zwC {q K:Nat}(h:mgC q K=true):zb5 (q:Int)=some (grp (q,K),true):=by
 simp only[mgC,Bool.and_eq_true,decide_eq_true_eq,bne_iff_ne,ne_eq]at h
 obtain⟨h1,h2,h3,h4,h5,h6,h7⟩:=h
 have hpq:=zwX h4
 have hpp:=zwX h5
 have hq:=hpq.1
 have hnp:∀k,1≤k→k<K→¬Pr (1+k*q):=fun k a b=>by
  have:=List.all_eq_true.1 h7 k (List.mem_range.2 b)
  rw[Bool.or_eq_true,beq_iff_eq]at this
  exact zCs (this.resolve_left (by omega))
 unfold zb5
 refine zaw (zae (ψ:=fun b=>b=false) ?_ ?_)
 ·refine zaa (zf2 _ _ _) (za1 (by simp;omega) (zaa (zhD _ (by omega)) (zab ?_)))
  rw[zfk.2 hpq];rfl
 rintro _ rfl
 refine za1 rfl (zae (ψ:=fun b=>b=.inr (grp (q,K),true)) ?_ ?_)
 ·rw[zap (by omega) (by omega)]
  refine zeq (fun s=>∃k:Nat,1≤k∧k≤K∧s=((1+k*q:Nat):Int)) (fun s=>(2001000001-s).toNat) ⟨1,by omega,h2,by rw[Nat.one_mul];omega⟩ ?_
  rintro s ⟨k,hk,hkK,rfl⟩
  have hle:k*q≤K*q:=Nat.mul_le_mul_right q hkK
  refine zf0 (by simp;omega) (zaa (zhD _ (by omega)) ?_)
  by_cases e:k=K
  ·subst e
   rw[zfk.2 hpp]
   refine za1 rfl ?_
   have hdv:IntKind.i64.wrap ((IntKind.i64.wrap (((1+k*q:Nat):Int)-1)).tdiv (q:Int))=(k:Int):=by
    have e1:((1+k*q:Nat):Int)-1=(k:Int)*(q:Int):=by push_cast;omega
    have e2:(k:Int)*(q:Int)=((k*q:Nat):Int):=by push_cast;rfl
    have e3:k*1≤k*q:=Nat.mul_le_mul_left k (by omega)
    rw[e1,zap (n:=(k:Int)*(q:Int)) (by omega) (by omega),Int.mul_tdiv_cancel _ (by omega),zap (by omega) (by omega)]
   simp only[hdv]
   have e3:k*1≤k*q:=Nat.mul_le_mul_left k (by omega)
   have hpw:=(zfi (a:=2) (e:=(k:Int)) (m:=((1+k*q:Nat):Int)) (by omega) (by omega) (by omega) (by omega) (by omega) (by omega)).2
   rw[Int.toNat_natCast,Int.toNat_natCast]at hpw
   refine zae (ψ:=fun h=>h=2) (zeq (fun s=>s=2) (fun _=>0) rfl ?_) ?_
   ·rintro _ rfl
    refine zau (by omega) (zaa hpw (za1 ?_ (zab rfl)))
    have h8:¬(((2^k%(1+k*q):Nat):Int)=1):=fun e=>h6 (by exact_mod_cast e)
    exact beq_eq_false_iff_ne.2 h8
   rintro _ rfl
   exact zau (by omega) (zaa hpw (zab rfl))
  have hn:=hnp k hk (by omega)
  have hf:prB ((1+k*q:Nat):Int)=false:=by
   cases hb:prB ((1+k*q:Nat):Int)
   ·rfl
   ·exact absurd (zfk.1 hb) hn
  rw[hf]
  have hle2:(k+1)*q≤K*q:=Nat.mul_le_mul_right q (by omega)
  rw[Nat.succ_mul]at hle2
  have e1:IntKind.i64.wrap (((1+k*q:Nat):Int)+(q:Int))=((1+(k+1)*q:Nat):Int):=by
   rw[zap (by omega) (by omega),Nat.succ_mul];omega
  refine zf0 rfl (zab ⟨⟨k+1,by omega,by omega,e1⟩,?_⟩)
  rw[e1,Nat.succ_mul];omega
 rintro _ rfl
 exact zab rfl
def ckG (gr:Group):Bool:=decide (gr.Q<2)||(decide (gr.P<3)||((gr.Q%2==0&&gr.Q !=2)||((gr.P-1)%gr.Q !=0||okD gr)))
def Dg (gr:Group):Prop:=OkG gr→okD gr=true
theorem zDJ {gr:Group}(h:ckG gr=true):Dg gr:=by
 intro k
 have hp:=k.p
 have hq:=k.q
 have hd:=k.d
 have hpq:=k.pq
 simp only[ckG,Bool.or_eq_true,Bool.and_eq_true,decide_eq_true_eq,beq_iff_eq,bne_iff_ne,ne_eq]at h
 rcases h with h|h|h|h|h
 ·omega
 ·omega
 ·exfalso
  obtain⟨n,hn⟩:=Int.eq_ofNat_of_zero_le (show 0≤gr.Q by omega)
  rw[hn,Int.toNat_natCast]at hpq
  exact hpq.2 2 (by omega) (by omega) (by omega)
 ·exfalso
  apply h
  obtain⟨n,hn⟩:=Int.eq_ofNat_of_zero_le (show 0≤gr.Q by omega)
  obtain⟨m,hm⟩:=Int.eq_ofNat_of_zero_le (show 0≤gr.P-1 by omega)
  have e:gr.P.toNat-1=m:=by omega
  rw[e,hn,Int.toNat_natCast]at hd
  rw[hm,hn,←Int.natCast_emod,hd];rfl
 exact h
def zmL (gr:Group):List Group:=gr::([0,gr.P+2,4,-7].map fun x=>⟨x,gr.Q,gr.G⟩)++([0,1,gr.Q+1,gr.P-1].map fun x=>⟨gr.P,x,gr.G⟩)++([0,1,gr.P-1,gr.P,gr.G+1].map fun x=>⟨gr.P,gr.Q,x⟩)
def zmB (gr:Group):Bool:=(zmL gr).all ckG
def tinyL:List (Nat×Nat):=[(3,2),(5,2),(7,4),(11,2),(13,4),(23,2)]
def midL:List (Nat×Nat):=[(101,6),(1009,10),(1019,2),(65537,14),(999983,12)]
theorem zuL:((tinyL++midL).all fun x=>mgC x.1 x.2)=true:=by decide+kernel
theorem zxE:zmB ⟨1000000007,500000003,4⟩=true:=by decide+kernel
theorem zxv:(midL.all fun x=>zmB (grp x))=true:=by decide+kernel
def zDi (x:Nat×Nat) (e:Nat):Group:=⟨(grp x).P,(grp x).Q,(((grp x).G.toNat^e%(grp x).P.toNat:Nat):Int)⟩
theorem zwo:(tinyL.all fun x=>(List.range x.1).all fun e=>zmB (zDi x e))=true:=by decide+kernel
attribute [local irreducible] okD zmB
end
end Go.Pm
