/-
  FnCascades: plain laws.
  No condition.
-/
import Derived.Test.YtjnidpmkglobfaaGreatM43c
import Derived.Test.YtjnidpmkglobfaaGreatPmZ
open Bool renaming false→Z,true→O
open Option renaming some→J
set_option linter.defProp false
namespace Go.Pm
open Go.Am IntKind
def e8:=@Int.emod_emod
def ju:=@Int.tmod_eq_emod_of_nonneg
def jQ:=@List.take_length
def kg:=@List.not_mem_nil
def kh:=@or_false
def kU:=@List.all_append
def mA:=@List.getD_eq_getElem?_getD
def ng:=@List.range_succ
def nh:=@Int.mul_emod
def nT:=@List.take_succ_eq_append_getElem
def oJ:=@Int.emod_nonneg
def pS:=@Int.natCast_emod
def pT:=@Nat.pow_mul
def pU:=@Int.add_emod
def qR:=@Nat.pow_mod
def qS:=@Int.emod_eq_of_lt
def tK:=@Int.sub_emod
def tL:=@Int.emod_lt_of_pos
def tM:=@Int.mul_nonneg
def uV:=@Nat.mul_mod
def xO:=@Int.mul_le_mul
def zw:=@of_decide_eq_true
def zx:=@List.all_eq_false
def BW:=@List.mem_iff_getElem
def BX:=@Int.le_refl
def BZ:=@Bool.and_true
def B0:=@Bool.and_eq_true_iff
def HP:=@List.foldl_append
def HQ:=@Nat.one_pow
def HR:=@Int.add_mul_emod_self_left
def HS:=@List.all_nil
def Mo:=@decide_eq_false
def Mp:=@List.take_append_drop
def Mq:=@Int.mul_assoc
def Mr:=@Bool.and_assoc
def QD:=@Int.tmod_lt_of_pos
def QE:=@Nat.mod_mod
def QF:=@Nat.pow_add
def QG:=@Classical.byContradiction
def QH:=@List.pairwise_map
def QI:=@List.drop_left'
def Wr:=@Int.tdiv_eq_ediv_of_nonneg
def Ws:=@Nat.mod_mul_mod
def Wt:=@Nat.pow_two
def Wu:=@Nat.pow_zero
def Ww:=@Int.lt_tmod_of_pos
def Wx:=@Int.add_emod_right
def Wy:=@Int.sub_zero
def Wz:=@Nat.dvd_of_mod_eq_zero
def WA:=@Int.mul_one
def WB:=@List.nodup_cons
def WC:=@Int.dvd_of_emod_eq_zero
def WD:=@Int.natCast_pow
def WE:=@Int.mul_le_mul_of_nonneg_left
def WG:=@Int.one_mul
def WH:=@Nat.add_sub_cancel_left
def WI:=@Bool.eq_iff_iff
def a1L:=@BitVec.toNat_and
def a1M:=@Int.fdiv_eq_ediv_of_nonneg
def a1N:=@Int.tmod_def
def a1O:=@Int.mul_emod_right
def a1P:=@of_decide_eq_false
def a1Q:=@Int.ofNat_dvd_left
def a1R:=@Int.emod_eq_zero_of_dvd
def a1S:=@Int.pow_succ
def a1T:=@List.Pairwise.imp_of_mem
def a1U:=@List.take_append_getElem
def a1V:=@Int.mul_comm
def a1W:=@beq_self_eq_true
def a1X:=@List.take_left'
def a5O:=@Nat.mod_eq_zero_of_dvd
def a5P:=@Bool.and_eq_false_iff
def a5Q:=@List.nodup_iff_pairwise_ne
def a5R:=@List.pairwise_iff_getElem
def a5S:=@List.pairwise_lt_range
def a5T:=@Int.mul_tdiv_cancel
def a5U:=@List.mem_erase_of_ne
def a5V:=@List.length_erase_of_mem
def a5W:=@List.getElem?_set_self
def a5X:=@List.getElem?_set_ne
set_option linter.unusedVariables false
noncomputable def Fg(e:am)(g:Int)(j:List ao)(o:bZ):Option (Bool×Bool):=
 (nr e g j).bind λr=>
 if(!r)=O then(
 J (Z,Z))else(
 (DI e g j o).bind λu=>
 J (u,O))
set_option linter.unusedVariables false
set_option linter.unusedSimpArgs false
variable{a Y b h i key q X x y:Int}{c:ao}{c0 code l m perm rs ss:List Int}{gr:am}{k n p:Nat}{out:List ao}{s:ByteArray}
def vi(a b c:Int):pY a b c=J (decide (b<=a)&&decide (a<=c)):=by
 unfold pY;by_cases h:b<=a<;>simp[h]
def qs(a b c:Int):nO a b c=J (decide (b<=a)&&decide (a<=c)):=by
 unfold nO;by_cases h:b<=a<;>simp[h]
def Ys(a:Int):Kh a=J (decide (2<=a)&&decide (a<=2000000000)):=by
 unfold Kh;rw[vi];rfl
def qN(a b:Nat):(a:Int).tmod (b:Int)=((a%b:Nat):Int):=by rw[ju (by omega)];exact(pS _ _).symm
def zw7(a b:Nat):(a:Int).tdiv (b:Int)=((a/b:Nat):Int):=by rw[Wr (by omega)];exact(Int.natCast_ediv _ _).symm
def AP(a b:Nat):(a:Int)*(b:Int)=((a*b:Nat):Int):=(Ev _ _).symm
def zBa{e:Nat}(r:e<=9223372036854775807):i64.wrap (BitVec.ofInt IntKind.i64.bits (e:Int)&&&BitVec.ofInt IntKind.i64.bits 1).toNat=((e%2:Nat):Int):=by
 have o:(BitVec.ofInt IntKind.i64.bits (e:Int)&&&BitVec.ofInt IntKind.i64.bits 1).toNat=e%2:=by
  rw[a1L]
  have g:(BitVec.ofInt IntKind.i64.bits (e:Int)).toNat=e:=by
   rw[BitVec.toNat_ofInt];have:IntKind.i64.bits=64:=rfl;rw[this];omega
  have j:(BitVec.ofInt IntKind.i64.bits 1).toNat=1:=by decide
  rw[g,j,Nat.and_one_is_mod]
 rw[o,aK (by omega) (by omega)]
def zBm{a e m:Nat}(D:a<=2000000000)(G:1<=m)(L:m<=2000000000)(F:e<=9223372036854775807):ou (a:Int) (e:Int) (m:Int)=J ((a^e%m:Nat):Int):=by
 unfold ou
 refine bW (aJ (by omega) (ax (φ:=(· =((a^e%m:Nat):Int))) (tZ (φ:=(· =((a^e%m:Nat):Int))) (λs=>∃x y o:Nat,s=((x:Int),(y:Int),(o:Int))/\x<=2000000000/\y<=e/\o<m/\o*x^y%m=a^e%m) (λs=>s.2.1.toNat)
  ⟨a,e,1%m,by rw[show(1:Int)=((1:Nat):Int)from rfl,qN],D,cq _,nc _ (by omega),by rw[Ws,Mf]⟩ ?_) λx r=>ak r))
 rintro s ⟨x,y,o,rfl,r,K,v,u⟩;refine aU (λg=>?_) λg=>?_
 ·have g:0<y:=by simpa using g
  have H:o*x<=4000000000000000000:=ii (su (show o<=2000000000 by omega) r) (by decide);have I:x*x<=4000000000000000000:=ii (su r r) (by decide);refine ax (ψ:=λz=>∃k:Nat,z=(k:Int)/\k<m/\k*(x*x)^(y/2)%m=a^e%m) ?_ ?_
  ·simp only[zBa (show y<=9223372036854775807 by omega)];refine aU (λj=>aJ (by omega) (ak ⟨o*x%m,?_,nc _ (by omega),?_⟩)) λj=>ak ⟨o,rfl,v,?_⟩
   ·rw[AP,aK (by omega) (by omega),qN]
   ·have j:y%2=1:=by
     have:((y%2:Nat):Int)=1:=by simpa using j
     omega
    rw[Ws,<-u,<-Wt,<-pT,Nat.mul_assoc,<-Nat.pow_succ'];congr 3;omega
   have j:y%2=0:=by
    have:¬((y%2:Nat):Int)=1:=by simpa using j
    omega
   rw[<-u,<-Wt,<-pT];congr 3;omega
  rintro z ⟨k,rfl,E,A⟩;refine aJ (by omega) (ak ⟨⟨x*x%m,y/2,k,?_,by have:=nc (x*x) (show 0<m by omega);omega,by omega,E,?_⟩,?_⟩)
  ·rw[AP,aK (by omega) (by omega),qN];have C:(y:Int).fdiv 2=((y/2:Nat):Int):=by rw[a1M _ (by omega)];rfl
   show(_,(y:Int).fdiv 2,_)=_;rw[C]
  ·rw[uV,<-qR,<-uV];exact A
  show((y:Int).fdiv 2).toNat<(y:Int).toNat;rw[a1M _ (by omega)];omega
 have g:y=0:=by
  have:¬(0<y):=by simpa using g
  omega
 subst g;refine ak ?_;show(o:Int)=_;rw[Wu,Mh,oG v]at u;rw[u]
def zzn{a e m:Nat}(E:a<=2000000000)(H:1<=m)(M:m<=2000000000)(G:e<=9223372036854775807):l4 (a:Int) (e:Int) (m:Int)=J ((a^e%m:Nat):Int):=by
 unfold l4
 refine bW (aJ (by omega) (ax (φ:=(· =((a^e%m:Nat):Int))) (tZ (φ:=(· =((a^e%m:Nat):Int))) (λs=>∃x y o:Nat,s=((x:Int),(y:Int),(o:Int))/\x<=2000000000/\y<=e/\o<m/\o*x^y%m=a^e%m) (λs=>s.2.1.toNat)
  ⟨a,e,1%m,by rw[show(1:Int)=((1:Nat):Int)from rfl,qN],E,cq _,nc _ (by omega),by rw[Ws,Mf]⟩ ?_) λx r=>ak r))
 rintro s ⟨x,y,o,rfl,r,L,z,u⟩;refine aU (λg=>?_) λg=>?_
 ·have g:0<y:=by simpa using g
  have I:o*x<=4000000000000000000:=ii (su (show o<=2000000000 by omega) r) (by decide);have K:x*x<=4000000000000000000:=ii (su r r) (by decide);have D:(y:Int).tmod 2=((y%2:Nat):Int):=qN y 2;refine ax (ψ:=λA=>∃k:Nat,A=(k:Int)/\k<m/\k*(x*x)^(y/2)%m=a^e%m) ?_ ?_
  ·simp only[D];refine aU (λj=>aJ (by omega) (ak ⟨o*x%m,?_,nc _ (by omega),?_⟩)) λj=>ak ⟨o,rfl,z,?_⟩
   ·rw[AP,aK (by omega) (by omega),qN]
   ·have j:y%2=1:=by
     have:((y%2:Nat):Int)=1:=by simpa using j
     omega
    rw[Ws,<-u,<-Wt,<-pT,Nat.mul_assoc,<-Nat.pow_succ'];congr 3;omega
   have j:y%2=0:=by
    have:¬((y%2:Nat):Int)=1:=by simpa using j
    omega
   rw[<-u,<-Wt,<-pT];congr 3;omega
  rintro A ⟨k,rfl,F,C⟩;have v:(y:Int).tdiv 2=((y/2:Nat):Int):=zw7 y 2;refine aJ (by omega) (ak ⟨⟨x*x%m,y/2,k,?_,by have:=nc (x*x) (show 0<m by omega);omega,by omega,F,?_⟩,?_⟩)
  ·simp only[v];rw[AP,aK (n:=((x*x:Nat):Int)) (by omega) (by omega),qN,aK (n:=((y/2:Nat):Int)) (by omega) (by omega)]
  ·rw[uV,<-qR,<-uV];exact C
  show(i64.wrap ((y:Int).tdiv 2)).toNat<(y:Int).toNat;rw[v,aK (by omega) (by omega)];omega
 have g:y=0:=by
  have:¬(0<y):=by simpa using g
  omega
 subst g;refine ak ?_;show(o:Int)=_;rw[Wu,Mh,oG z]at u;rw[u]
def V8(e:0<q)(o:q<=2000000000):Bf a q=J (a%q):=by
 unfold Bf;rw[d6 (by omega),d6 (by omega)];have g:a.tmod q<q:=QD a e
 have j: -q<a.tmod q:=by
  have:=Ww a e;omega
 rw[aK (by omega) (by omega),ju (by omega)];congr 1;rw[Wx];rw[a1N,tK,a1O,Wy,e8]
def Ee(e:0<q)(o:q<=2000000000):q9 a q=J (a%q):=by
 unfold q9;rw[d6 (by omega),d6 (by omega)];have g:a.tmod q<q:=QD a e
 have j: -q<a.tmod q:=by
  have:=Ww a e;omega
 rw[aK (by omega) (by omega),ju (by omega)];congr 1;rw[Wx];rw[a1N,tK,a1O,Wy,e8]
def Pr(n:Nat):Prop:=2<=n/\∀d,2<=d->d*d<=n->n%d≠0
open Classical in
noncomputable def l9(n:Int):Bool:=decide (Pr n.toNat)
def ny :l9 (n:Int)=O↔Pr n:=by simp[l9]
def GM(n:Int)(h:n<=2000000000):Bv n=J (l9 n):=by
 unfold Bv;refine bW (aU (λo=>ak ?_) λo=>?_)
 ·have o:n<2:=by simpa using o
  symm;unfold l9;rw[xL];intro j;have:=j.1;omega
 have o:¬n<2:=by simpa using o
 obtain⟨n,rfl⟩:=fF (show 0<=n by omega);refine ax (ψ:=λb=>(b=.inl ()/\Pr n)\/(b=.inr Z/\¬Pr n)) (tZ (λs=>∃d:Nat,s=(d:Int)/\2<=d/\d<=44723/\∀k,2<=k->k<d->k*k<=n->n%k≠0) (λs=>50000-s.toNat) ⟨2,rfl,by omega,by omega,λk g e=>by omega⟩ ?_) ?_
 ·rintro s ⟨d,rfl,hd,u,r⟩;have F:d*d<=2000146729:=ii (su u u) (by decide);rw[AP,aK (by omega) (by omega)];refine aU (λg=>aJ (by omega) (aU (λe=>ak (.inr ⟨rfl,?_⟩)) λe=>ak ?_)) λg=>ak (.inl ⟨rfl,by omega,λk C v=>?_⟩)
  ·have g:d*d<=n:=by have:=zw g;omega
   rw[qN]at e
   have e : n % d = 0 := by have:((n%d:Nat):Int)=0:=by simpa using e
                            omega
   exact λj=>j.2 d hd g e
  ·have g:d*d<=n:=by have:=zw g;omega
   rw[qN]at e
   have e : n % d ≠ 0 := by have:¬((n%d:Nat):Int)=0:=by simpa using e
                            omega
   have E:d<=44722:=by
    rcases dS d 44723 with h|h
    ·omega
    ·have:44723*44723<=d*d:=su h h;omega
   rw[aK (by omega) (by omega)];refine⟨⟨d+1,rfl,by omega,by omega,λk z D A=>?_⟩,by omega⟩;rcases dS k d with h|h
   ·exact r k z h A
   have:k=d:=by omega
   subst this;exact e
  have g:n<d*d:=by have:=a1P g;omega
  rcases dS k d with h|h
  ·exact r k C h v
  have:=su h h;omega
 rintro b (⟨rfl,j⟩|⟨rfl,j⟩)
 ·exact ak (ny.2 j).symm
 refine ak ?_;symm;unfold l9;rw[xL];exact j
def zqZ(n:Int):Fm n=J (decide (n<=2000000000)&&l9 n):=by
 unfold Fm;by_cases h:2<=n/\n<=2000000000
 ·obtain⟨n,rfl⟩:=fF (show 0<=n by omega);have H:((n:Int)).tmod 2=((n%2:Nat):Int):=qN n 2;have em:(decide (2<=(n:Int))&&decide ((n:Int)<=2000000000))=O:=by simp only[bC,eE];exact h
  rw[show(decide ((n:Int)<=2000000000)&&l9 (n:Int))=l9 (n:Int)by simp[h.2]];refine bW (ax (ψ:=λb=>b=decide (n%2=0/\n≠2)) (ag (Ys _) ?_) ?_)
  ·rw[em];refine bQ rfl ?_;rw[H];refine aU (λg=>ak ?_) λg=>ak ?_
   ·have g : n % 2 = 0 := by have:((n%2:Nat):Int)=0:=by simpa using g
                             omega
    have:((n:Int) !=2)=decide (n≠2):=by
     by_cases r:n=2
     ·subst r;rfl
     ·have E:¬(n:Int)=2:=by omega
      simp[r,E]
    rw[this];simp[g]
   have g : n % 2 ≠ 0 := by have:¬((n%2:Nat):Int)=0:=by simpa using g
                            omega
   simp[g]
  rintro b rfl;refine aU (λg=>ak ?_) λg=>?_
  ·have g:=zw g;symm;unfold l9;rw[xL];intro o;have r:4<=n:=by omega
   exact o.2 2 (by omega) r g.1
  have g:=a1P g;refine ax (ψ:=λb=>(b=.inl ()/\Pr n)\/(b=.inr Z/\¬Pr n)) (tZ (λs=>∃d:Nat,s=(d:Int)/\3<=d/\d%2=1/\d<=44725/\∀k,2<=k->k<d->k*k<=n->n%k≠0) (λs=>50000-s.toNat) ⟨3,rfl,by omega,by omega,by omega,λk j I u=>?_⟩ ?_) ?_
  ·have:k=2:=by omega
   subst this;intro A;exact g ⟨A,by omega⟩
  ·rintro s ⟨d,rfl,hd,P,C,z⟩;have R:d*d<=2000325625:=ii (su C C) (by decide);rw[AP,aK (by omega) (by omega)];refine aU (λg=>aJ (by omega) (aU (λj=>ak (.inr ⟨rfl,?_⟩)) λj=>ak ?_)) λg=>ak (.inl ⟨rfl,by omega,λk N D=>?_⟩)
   ·have g:d*d<=n:=by have:=zw g;omega
    rw[qN]at j
    have j : n % d = 0 := by have:((n%d:Nat):Int)=0:=by simpa using j
                             omega
    exact λo=>o.2 d (by omega) g j
   ·have I:d*d<=n:=by have:=zw g;omega
    rw[qN]at j
    have j : n % d ≠ 0 := by have:¬((n%d:Nat):Int)=0:=by simpa using j
                             omega
    have Q:d<=44722:=by
     rcases dS d 44723 with h|h
     ·omega
     ·have:44723*44723<=d*d:=su h h;omega
    rw[aK (by omega) (by omega)];refine⟨⟨d+2,rfl,by omega,by omega,by omega,λk u A K v=>?_⟩,by omega⟩;rcases dS k d with h|h
    ·exact z k u h K v
    rcases(show k=d\/k=d+1 by omega)with e|e
    ·subst e;exact j v
    have L:n%2=0:=by
     have F:k∣n:=Wz v;have G:2∣k:=Wz (by omega);exact a5O (Nat.dvd_trans G F)
    have M:2*2<=n:=by
     have:=su u u;omega
    exact z 2 (by omega) (by omega) M L
   have g:n<d*d:=by have:=a1P g;omega
   rcases dS k d with h|h
   ·exact z k N h D
   have:=su h h;omega
  rintro b (⟨rfl,o⟩|⟨rfl,o⟩)
  ·exact ak (ny.2 o).symm
  refine ak ?_;symm;unfold l9;rw[xL];exact o
 have em:(decide (2<=n)&&decide (n<=2000000000))=Z:=by
  rw[a5P,xL,xL];omega
 rw[Ys,em];simp only[aP,Bool.not_false,e7];congr 1;symm;rw[a5P,xL];by_cases r:n<=2000000000
 ·right;unfold l9;rw[xL];intro o;have:=o.1;omega
 exact .inl r
structure ap (gr:am):Prop where
 p:3<=gr.P/\gr.P<=2000000000
 q:2<=gr.Q/\gr.Q<=gr.P-1
 d:(gr.P.toNat-1)%gr.Q.toNat=0
 g:2<=gr.G/\gr.G<=gr.P-1
 pp:Pr gr.P.toNat
 pq:Pr gr.Q.toNat
 o:gr.G.toNat^gr.Q.toNat%gr.P.toNat=1
open Classical in
noncomputable def wM(gr:am):Bool:=decide (ap gr)
def NQ :wM gr=O↔ap gr:=by simp[wM]
def o4(h:¬ap gr):wM gr=Z:=by simp[wM,h]
def zxk{b:Bool}(g:b=O->ap gr)(j:ap gr->b=O):b=wM gr:=by
 cases e:b with
 |true=>exact(NQ.2 (g e)).symm
 |false=>exact(o4 λh=>by rw[j h]at e;cases e).symm
def o0(h:0<=a):a=((a.toNat:Nat):Int):=by omega
def qy{e m:Int}(o:0<=a)(u:a<=2000000000)(z:1<=m)(A:m<=2000000000)(r:0<=e)(v:e<=9223372036854775807):ou a e m=J ((a.toNat^e.toNat%m.toNat:Nat):Int)/\l4 a e m=J ((a.toNat^e.toNat%m.toNat:Nat):Int):=by
 have g:=zBm (a:=a.toNat) (e:=e.toNat) (m:=m.toNat) (by omega) (by omega) (by omega) (by omega);have j:=zzn (a:=a.toNat) (e:=e.toNat) (m:=m.toNat) (by omega) (by omega) (by omega) (by omega);rw[<-o0 o,<-o0 r,<-o0 (show 0<=m by omega)]at g j;exact⟨g,j⟩
def Pq{a b:Bool}:(a&&b)=O↔a=O/\b=O:=by simp
def XZ(gr:am):HZ gr=J (wM gr):=by
 unfold HZ;refine bW (ax (ψ:=λb=>b=wM gr) ?_ λb r=>ak r);refine ag (vi _ _ _) (aU (λh=>?_) λh=>?_)
 ·have v:3<=gr.P/\gr.P<=2000000000:=by simpa using h
  rw[aK (n:=gr.P-1) (by omega) (by omega)];refine ag (vi _ _ _) (aU (λh=>?_) λh=>?_)
  ·have z:2<=gr.Q/\gr.Q<=gr.P-1:=by simpa using h
   have o:(gr.P-1).tmod gr.Q=(((gr.P.toNat-1)%gr.Q.toNat:Nat):Int):=by
    rw[o0 (show 0<=gr.P-1 by omega),o0 (show 0<=gr.Q by omega),qN];simp only[dT];congr 2;omega
   refine aJ (by omega) ?_;rw[o];refine aU (λh=>?_) λh=>?_
   ·have hd:(gr.P.toNat-1)%gr.Q.toNat=0:=by
     have:(((gr.P.toNat-1)%gr.Q.toNat:Nat):Int)=0:=by simpa using h
     omega
    refine ag (vi _ _ _) (aU (λh=>?_) λh=>?_)
    ·have u:2<=gr.G/\gr.G<=gr.P-1:=by simpa using h
     refine ag (zqZ _) (aU (λh=>?_) λh=>?_)
     ·have j:Pr gr.P.toNat:=by
       rw[Pq,o0 (show 0<=gr.P by omega),ny]at h;exact h.2
      refine ag (zqZ _) (aU (λh=>?_) λh=>?_)
      ·have A:Pr gr.Q.toNat:=by
        rw[Pq,o0 (show 0<=gr.Q by omega),ny]at h;exact h.2
       refine ag (qy (a:=gr.G) (e:=gr.Q) (m:=gr.P) (by omega) (by omega) (by omega) (by omega) (by omega) (by omega)).1 (ak (zxk (λh=>⟨v,z,hd,u,j,A,?_⟩) λh=>?_))
       ·have:((gr.G.toNat^gr.Q.toNat%gr.P.toNat:Nat):Int)=1:=by simpa using h
        omega
       rw[h.o];rfl
      refine ak (o4 λg=>?_).symm
      have:(decide (gr.Q<=2000000000)&&l9 gr.Q)=O:=by
       rw[Pq,o0 (show 0<=gr.Q by omega),ny];exact⟨by simp;omega,g.pq⟩
      rw[this]at h;cases h
     refine ak (o4 λg=>?_).symm
     have:(decide (gr.P<=2000000000)&&l9 gr.P)=O:=by
      rw[Pq,o0 (show 0<=gr.P by omega),ny];exact⟨by simp;omega,g.pp⟩
     rw[this]at h;cases h
    refine ak (o4 λg=>?_).symm;have:=g.g;simp at h;omega
   refine ak (o4 λg=>?_).symm;rw[g.d]at h;cases h
  refine ak (o4 λg=>?_).symm;have:=g.q;simp at h;omega
 refine ak (o4 λg=>?_).symm;have:=g.p;simp at h;omega
def Lk(gr:am):BB gr=J (wM gr):=by
 unfold BB;refine bW (ax (ψ:=λb=>b=wM gr) ?_ λb o=>ak o);refine ag (qs _ _ _) (aU (λh=>?_) λh=>?_)
 ·have v:3<=gr.P/\gr.P<=2000000000:=by simpa using h
  rw[aK (n:=gr.P-1) (by omega) (by omega)];refine ag (qs _ _ _) (aU (λh=>?_) λh=>?_)
  ·have z:2<=gr.Q/\gr.Q<=gr.P-1:=by simpa using h
   have j:(gr.P-1).tmod gr.Q=(((gr.P.toNat-1)%gr.Q.toNat:Nat):Int):=by
    rw[o0 (show 0<=gr.P-1 by omega),o0 (show 0<=gr.Q by omega),qN];simp only[dT];congr 2;omega
   refine aJ (by omega) ?_;rw[j];refine aU (λh=>?_) λh=>?_
   ·have hd:(gr.P.toNat-1)%gr.Q.toNat=0:=by
     have:(((gr.P.toNat-1)%gr.Q.toNat:Nat):Int)=0:=by simpa using h
     omega
    refine ag (qs _ _ _) (aU (λh=>?_) λh=>?_)
    ·have r:2<=gr.G/\gr.G<=gr.P-1:=by simpa using h
     refine ag (qy (a:=gr.G) (e:=gr.Q) (m:=gr.P) (by omega) (by omega) (by omega) (by omega) (by omega) (by omega)).2 (aU (λh=>?_) λh=>?_)
     ·have u:gr.G.toNat^gr.Q.toNat%gr.P.toNat=1:=by
       have:((gr.G.toNat^gr.Q.toNat%gr.P.toNat:Nat):Int)=1:=by simpa using h
       omega
      refine ag (GM _ (by omega)) (aU (λh=>?_) λh=>?_)
      ·have A:Pr gr.Q.toNat:=by
        rw[o0 (show 0<=gr.Q by omega),ny]at h;exact h
       refine ag (GM _ (by omega)) (ak (zxk (λh=>⟨v,z,hd,r,?_,A,u⟩) λh=>?_))
       ·rw[o0 (show 0<=gr.P by omega),ny]at h;exact h
       rw[o0 (show 0<=gr.P by omega),ny];exact h.pp
      refine ak (o4 λg=>?_).symm
      have:l9 gr.Q=O:=by
       rw[o0 (show 0<=gr.Q by omega),ny];exact g.pq
      rw[this]at h;cases h
     refine ak (o4 λg=>?_).symm;rw[g.o]at h;cases h
    refine ak (o4 λg=>?_).symm;have:=g.g;simp at h;omega
   refine ak (o4 λg=>?_).symm;rw[g.d]at h;cases h
  refine ak (o4 λg=>?_).symm;have:=g.q;simp at h;omega
 refine ak (o4 λg=>?_).symm;have:=g.p;simp at h;omega
def aL(gr:am)(x:Int):Bool:=decide (1<=x)&&decide (x<=gr.P-1)&&decide (x.toNat^gr.Q.toNat%gr.P.toNat=1)
def dB(gr:am)(x:Int):Bool:=decide (0<=x)&&decide (x<=gr.Q-1)
def NJ(k:ap gr)(x:Int):Bw gr x=J (aL gr x):=by
 have o:=k.p;have r:=k.q;unfold Bw aL;rw[aK (n:=gr.P-1) (by omega) (by omega),vi];refine bW (ax (ψ:=λb=>b=_) ?_ λb j=>ak j);refine ag rfl (aU (λh=>?_) λh=>?_)
 ·have u:1<=x/\x<=gr.P-1:=by simpa using h
  refine ag (qy (a:=x) (e:=gr.Q) (m:=gr.P) (by omega) (by omega) (by omega) (by omega) (by omega) (by omega)).1 (ak ?_);rw[h,jt];by_cases g:x.toNat^gr.Q.toNat%gr.P.toNat=1
  ·simp[g]
  have:¬((x.toNat^gr.Q.toNat%gr.P.toNat:Nat):Int)=1:=by omega
  rw[beq_false_of_ne this,Mo g]
 rw[h];exact ak rfl
def yf(k:ap gr)(l:List Int):p7 gr l=J (l.all (aL gr)):=by
 have r:=k.p;have u:=k.q;unfold p7;rw[aK (n:=gr.P-1) (by omega) (by omega)];refine bW (ax (ψ:=λb=>(b=.inl ()/\l.all (aL gr)=O)\/(b=.inr Z/\l.all (aL gr)=Z)) (eI (λi s=>(l.take i).all (aL gr)=O) rfl ?_ ?_) ?_)
 ·rintro i s j g;refine bB j (ax (ψ:=λb=>b= !aL gr l[i]) ?_ ?_)
  ·refine ag (qs _ _ _) (aU (λh=>ak ?_) λh=>?_)
   ·have h:(decide (1<=l[i])&&decide (l[i]<=gr.P-1))=Z:=by rwa [sr]at h
    simp[aL,h]
   have h:(decide (1<=l[i])&&decide (l[i]<=gr.P-1))=O:=by simpa using h
   have v:1<=l[i]/\l[i]<=gr.P-1:=by simpa using h
   refine ag (qy (a:=l[i]) (e:=gr.Q) (m:=gr.P) (by omega) (by omega) (by omega) (by omega) (by omega) (by omega)).2 (ak ?_);simp only[aL,h,jt];by_cases o:l[i].toNat^gr.Q.toNat%gr.P.toNat=1
   ·simp[o]
   have:¬((l[i].toNat^gr.Q.toNat%gr.P.toNat:Nat):Int)=1:=by omega
   simp only[bne,beq_false_of_ne this,Mo o]
  rintro b rfl;refine aU (λh=>ak (.inr ⟨rfl,?_⟩)) λh=>ak ?_
  ·have h:aL gr l[i]=Z:=by simpa using h
   rw[zx];exact⟨l[i],eL j,by simp[h]⟩
  have h:aL gr l[i]=O:=by simpa using h
  show(l.take (i+1)).all (aL gr)=O;rw[nT j,kU,g];simp[h]
 ·rintro s g;rw[jQ]at g;exact .inl ⟨rfl,g⟩
 rintro b (⟨rfl,h⟩|⟨rfl,h⟩)
 ·exact ak h.symm
 exact ak h.symm
def VJ(l:List Int)(a b:Int):Dc l a b=J (l.all λx=>decide (a<=x)&&decide (x<=b)):=by
 unfold Dc;refine bW (ax (ψ:=λc=>(c=.inl ()/\(l.all λx=>decide (a<=x)&&decide (x<=b))=O)\/(c=.inr Z/\(l.all λx=>decide (a<=x)&&decide (x<=b))=Z)) (eI (λi s=>((l.take i).all λx=>decide (a<=x)&&decide (x<=b))=O) rfl ?_ ?_) ?_)
 ·rintro i s g e;refine bB g (ag (qs _ _ _) (aU (λh=>ak (.inr ⟨rfl,?_⟩)) λh=>ak ?_))
  ·rw[zx];exact⟨l[i],eL g,by rw[sr]at h;rw[h];simp⟩
  show((l.take (i+1)).all λx=>decide (a<=x)&&decide (x<=b))=O;rw[nT g,kU,e];simpa using h
 ·rintro s e;rw[jQ]at e;exact .inl ⟨rfl,e⟩
 rintro c (⟨rfl,h⟩|⟨rfl,h⟩)
 ·exact ak h.symm
 exact ak h.symm
def BG(h:0<=gr.Q)(e:gr.Q<=2000000000)(l:List Int):sF gr l=J (l.all (dB gr)):=by
 unfold sF;rw[aK (by omega) (by omega),VJ];rfl
def zBk(h:0<=gr.Q)(e:gr.Q<=2000000000)(x:Int):Iu gr x=J (dB gr x):=by
 unfold Iu;rw[aK (by omega) (by omega),vi];rfl
def av(gr:am)(x e:Int):Int:=((x.toNat^(e%gr.Q).toNat%gr.P.toNat:Nat):Int)
def zX(k:ap gr)(x e:Int):0<=av gr x e/\av gr x e<=gr.P-1:=by
 have g:=k.p;unfold av;have:=nc (x.toNat^(e%gr.Q).toNat) (y:=gr.P.toNat) (by omega);omega
def G8(k:ap gr)(r:0<=x)(u:x<=2000000000)(e:Int):cW gr x e=J (av gr x e)/\cF gr x e=J (av gr x e):=by
 have v:=k.p;have z:=k.q;have j:0<=e%gr.Q:=oJ _ (by omega);have o:e%gr.Q<gr.Q:=tL _ (by omega);have g:=qy (a:=x) (e:=e%gr.Q) (m:=gr.P) (by omega) (by omega) (by omega) (by omega) j (by omega);unfold cW cF;rw[V8 (by omega) (by omega),Ee (by omega) (by omega),aP,aP,g.1,g.2];exact⟨rfl,rfl⟩
def zDa(k:ap gr)(r:0<=x)(u:x<=2000000000)(e:Int):cF gr x e=J (av gr x e):=by
 have v:=k.p;have z:=k.q;have g:0<=e%gr.Q:=oJ _ (by omega);have o:e%gr.Q<gr.Q:=tL _ (by omega);have j:=qy (a:=x) (e:=e%gr.Q) (m:=gr.P) (by omega) (by omega) (by omega) (by omega) g (by omega);unfold cF;rw[Ee (by omega) (by omega),aP,j.2];rfl
def aQ(gr:am)(l:List Int):Int:=l.foldl (λo x=>o*x%gr.P) 1
def W6(h:1<=gr.P):∀(l:List Int) (o:Int),0<=o->o<=gr.P->(∀x∈l,0<=x)->0<=l.foldl (λo x=>o*x%gr.P) o/\l.foldl (λo x=>o*x%gr.P) o<=gr.P:=by
 intro l;induction l with
 |nil=>intro o e g _;exact⟨e,g⟩
 |cons x l ih=>
  intro o e g j;exact ih _ (oJ _ (by omega)) (Int.le_of_lt (tL (o*x) (show 0<gr.P by omega))) λy r=>j y (oH _ r)
theorem zBU(gr:am)(l:List Int):ep gr l=eu gr l:=rfl
def Ax(k:ap gr)(r:∀x∈l,0<=x/\x<=2000000000):eu gr l=J (aQ gr l):=by
 have z:=k.p;unfold eu;refine bW (ax (ψ:=λb=>b=aQ gr l) (eI (λi s=>s=(l.take i).foldl (λo x=>o*x%gr.P) 1) rfl ?_ ?_) λb g=>ak g)
 ·rintro i s j rfl;have g:=W6 (gr:=gr) (by omega) (l.take i) 1 (by omega) (by omega) λx e=>(r x (Ez e)).1
  have e:=r l[i] (eL j);refine bB j (aJ (by omega) (ak ?_));show _=(l.take (i+1)).foldl _ _;rw[nT j,HP];generalize (l.take i).foldl (λo x=>o*x%gr.P) 1=o at g⊢;have u:0<=o*l[i]:=tM g.1 e.1;have v:o*l[i]<=2000000000*2000000000:=xO (by omega) e.2 e.1 (by omega);show(i64.wrap (o*l[i])).tmod gr.P=o*l[i]%gr.P;rw[aK (by omega) (by omega),ju u]
 rintro s rfl;rw[jQ];rfl
def LA(k:ap gr)(e:∀x∈l,0<=x/\x<=2000000000):ep gr l=J (aQ gr l):=by rw[zBU];exact Ax k e
def zAg(k:ap gr)(e:∀x∈l,0<=x/\x<=2000000000):0<=aQ gr l/\aQ gr l<=gr.P:=by
 have j:=k.p;exact W6 (by omega) l 1 (by omega) (by omega) λx g=>(e x g).1
def C3(k:ap gr)(l:List Int):t6 gr l=J (l.all (aL gr)):=by
 unfold t6 Nu NT MW;refine bW (ax (ψ:=λb=>b=l.all (aL gr)) (ax (ψ:=λb=>b= !l.all (aL gr)) (ax (ψ:=λj=>(j=-1/\l.all (aL gr)=O)\/(0<=j/\l.all (aL gr)=Z)) (ax (ψ:=λb=>(b=.inl ()/\l.all (aL gr)=O)\/(∃j,b=.inr j/\0<=j/\l.all (aL gr)=Z)) (eI (λi s=>(l.take i).all (aL gr)=O) rfl ?_ ?_) ?_) ?_) ?_) ?_)
 ·rintro i s o e
  have r:Kv l[i] gr=J (!aL gr l[i]):=by
   unfold Kv;rw[NJ k];rfl
  refine bB o (ag r (aU (λh=>ak (.inr ⟨i,rfl,by omega,?_⟩)) λh=>ak ?_))
  ·rw[zx];exact⟨l[i],eL o,by rw[sr]at h;rw[h];simp⟩
  show(l.take (i+1)).all (aL gr)=O;rw[nT o,kU,e];simpa using h
 ·rintro s e;rw[jQ]at e;exact .inl ⟨rfl,e⟩
 ·rintro b (⟨rfl,h⟩|⟨j,rfl,g,h⟩)
  ·exact ak (.inl ⟨rfl,h⟩)
  exact ak (.inr ⟨g,h⟩)
 ·rintro j (⟨rfl,h⟩|⟨g,h⟩)
  ·exact ak (by rw[h];rfl)
  exact ak (by rw[h];simpa using g)
 ·rintro b rfl;exact ak (by simp)
 rintro b rfl;exact ak rfl
def ru(h:aL gr x=O):1<=x/\x<=gr.P-1:=by
 simp only[aL,bC,eE]at h;exact h.1
def zq3(k:ap gr){m:Int}(v:aL gr y=O)(u:aL gr m=O)(r:Int):
 JN gr y m r=J (ao.mk (av gr gr.G r) (aQ gr [m,av gr y r]))/\L2 gr y m r=J (ao.mk (av gr gr.G r) (aQ gr [m,av gr y r])):=by
 have D:=k.p;have C:=k.g;have z:=ru v;have A:=ru u;have e:=G8 k (x:=gr.G) (by omega) (by omega) r;have g:=G8 k (x:=y) (by omega) (by omega) r
 have j:∀x∈[m,av gr y r],0<=x/\x<=2000000000:=λx o=>by
  simp only[gp,kg,kh]at o;rcases o with rfl|rfl
  ·omega
  ·have:=zX k y r;omega
 unfold JN L2;rw[e.1,e.2,aP,aP,g.1,g.2,aP,aP,Ax k j,LA k j];exact⟨rfl,rfl⟩
def Rh{e:Type}(b:Bool)(u v:e):(if b=O then J u else J v)=J (if(!b)=O then v else u):=by cases b<;>rfl
def zDZ{e:Type}(b:Bool)(u v:e):(if(!b)=O then J u else J v)=J (if b=O then v else u):=by cases b<;>rfl
def IM{v:Type}{body:Int->Unit->Option (fi Unit (Unit ⊕ v))}(m:Nat)(p:Nat->Bool)(val:Nat->v)(h:∀k,k<m->body (k:Int) ()=J (if p k=O then .go ()else .out (.inr (val k)))):
 (aO body (λ_=>.inl ()) m 0 ()=J (.inl ())/\∀k,k<m->p k=O)\/∃k,k<m/\p k=Z/\(∀j,j<k->p j=O)/\aO body (λ_=>.inl ()) m 0 ()=J (.inr (val k)):=by
 have key:Rn (aO body (λ_=>Sum.inl ()) m 0 ()) (λb=>(b=.inl ()/\∀k,k<m->p k=O)\/∃k,k<m/\p k=Z/\(∀j,j<k->p j=O)/\b=.inr (val k)):=by
  refine eI (λk _=>∀j,j<k->p j=O) (λj D=>by omega) ?_ λs E=>.inl ⟨rfl,E⟩
  intro k s r o;refine⟨_,h k r,?_⟩;cases u:p k with
  |true=>
   intro j D;rcases dS j k with h|h
   ·exact o j h
   ·have:j=k:=by omega
    rw[this];exact u
  |false=>exact .inr ⟨k,r,u,o,rfl⟩
 obtain⟨b,e,g|⟨k,g,z,A,C⟩⟩:=key
 ·exact .inl ⟨by rw[e,g.1],g.2⟩
 exact .inr ⟨k,g,z,A,by rw[e,C]⟩
def WJ{r:Type}(l:List r)(p:r->Bool)(c:Bool){body:Int->Unit->Option (fi Unit (Unit ⊕ Bool))}(h:∀k (g:k<l.length),body (k:Int) ()=J (if p l[k]=O then .go ()else .out (.inr c))):
 (aO body (λ_=>.inl ()) l.length 0 ()).bind (Sum.elim (λ_=>J (!c)) J)=J (if l.all p=O then !c else c):=by
 rcases IM (body:=body) l.length (λk=>(l[k]?).any p) (λ_=>c) (λk g=>by rw[h k g,cI g];rfl)with⟨e,j⟩|⟨k,j,o,v,e⟩
 ·rw[e]
  have:l.all p=O:=by
   rw[bc];intro x u;obtain⟨k,g,rfl⟩:=BW.1 u;have:=j k g;rw[cI g]at this;exact this
  rw[this];rfl
 rw[e]
 have:l.all p=Z:=by
  rw[zx];refine⟨l[k],eL j,?_⟩;rw[cI j]at o;simpa using o
 rw[this];rfl
def zu6(l:List Int)(x:Int):Gj l x=J (l.contains x):=by
 unfold Gj
 have:=WJ l (λy=> !(y==x)) O (body:=λi8 v=>(ix l i8).bind λo=>if(o==x)=O then J (.out (.inr O))else J (.go ())) λk r=>by
  rw[hZ r,aP];exact Rh _ _ _
 rw[show(!O)=Z from rfl]at this;refine this.trans ?_;congr 1;cases j:l.contains x with
 |true=>
  have g:x∈l:=by simpa using j
  have:(l.all λy=> !(y==x))=Z:=by
   rw[zx];exact⟨x,g,by simp⟩
  rw[this];rfl
 |false=>
  have g:¬x∈l:=by simpa using j
  have:(l.all λy=> !(y==x))=O:=by
   rw[bc];intro y u;have:y≠x:=λe=>g (e▸u)
   simp[this]
  rw[this];rfl
def zAV(l:List Int)(x:Int):(FA l x=J (-1)/\¬x∈l)\/∃k,∃h:k<l.length,FA l x=J (k:Int)/\l[k]=x/\∀j (u:j<k),l[j]'(by omega)≠x:=by
 unfold FA
 rcases IM l.length (λk=>(l[k]?).any λy=> !(x==y)) (λk=>(k:Int)) (body:=λi8 C=>(ix l i8).bind λv=>if(x==v)=O then J (.out (.inr i8))else J (.go ())) (λk g=>by
  rw[hZ g,aP,cI g]
  exact Rh _ _ _)with⟨e,o⟩|⟨k,o,r,z,e⟩
 ·refine .inl ⟨by rw[e];rfl,λA=>?_⟩;obtain⟨k,g,rfl⟩:=BW.1 A;have:=o k g;rw[cI g]at this;simp at this
 refine .inr ⟨k,o,by rw[e];rfl,?_,λj u=>?_⟩
 ·rw[cI o]at r;simp at r;exact r.symm
 have:=z j u;rw[cI (by omega)]at this;simp at this;exact λe=>this e.symm
def ZZ(l:List Int)(x:Int):J9 l x=J (l.contains x):=by
 unfold J9;rcases zAV l x with⟨e,h⟩|⟨k,g,e,h,_⟩
 ·rw[e];have:l.contains x=Z:=by simpa using h
  rw[this];rfl
 rw[e]
 have:l.contains x=O:=by
  have:=eL g;rw[h]at this;simpa using this
 rw[this];simp
def zAR(l:List Int):EE l=F6 l:=by
 unfold EE F6;simp only[zu6,ZZ]
open Classical in
noncomputable def oe(l:List Int):Bool:=decide l.Nodup
def X2{C:List Int->Int->Option Bool}(I:∀l x,C l x=J (l.contains x))(l:List Int)(N:l.length<=1000000000000):
 ((aO (σ:=Unit) (λg K=>
 (ix l g).bind λE=>
 gd (0<=g)<|
 gd (0<=g.toNat/\g.toNat<=l.length)<|
 (C ((l.take g.toNat).drop 0) E).bind λF=>
 if F=O then(
 J (.out (.inr Z)))else(
 J (.go ()))) (λK=>.inl ()) (l.length) 0 ():Option (Unit ⊕ Bool)).bind (Sum.elim (λQ=>
 J O) J))=J (oe l):=by
 rcases IM l.length (λk=>(l[k]?).any λy=> !(l.take k).contains y) (λ_=>Z) (body:=λi8 P=>
  (ix l i8).bind λG=>
  gd (0<=i8)<|
  gd (0<=i8.toNat/\i8.toNat<=l.length)<|
  (C ((l.take i8.toNat).drop 0) G).bind λH=>
  if H=O then(
  J (.out (.inr Z)))else(
  J (.go ()))) (λk D=>by
   rw[hZ D,aP,d6 (by omega),d6 (by simp;omega),I,cI D,aP,dT,a1G]
   exact Rh _ _ _)with⟨e,o⟩|⟨k,o,v,M,e⟩
 ·rw[e]
  have:oe l=O:=by
   unfold oe;rw[eE,a5Q,a5R];intro i j z A L e;have:=o j A;rw[cI A]at this
   have u:l[j]∈l.take j:=by
    rw[<-e];exact BW.2 ⟨i,by simp;omega,by simp⟩
   have r:(l.take j).contains l[j]=O:=by simpa using u
   simp only[Option.any_some,r]at this;cases this
  rw[this];rfl
 rw[e]
 have:oe l=Z:=by
  unfold oe;rw[xL,a5Q,a5R];intro hd;rw[cI o]at v;have r:(l.take k).contains l[k]=O:=by simpa using v
  have u:l[k]∈l.take k:=by simpa using r
  obtain⟨i,z,e⟩:=BW.1 u;simp at z e;exact hd i k (by omega) o (by omega) e
 rw[this];rfl
def zxh(l:List Int)(e:l.length<=1000000000000):F6 l=J (oe l):=X2 ZZ l e
def zxm(l:List Int)(e:l.length<=1000000000000):EE l=J (oe l):=by rw[zAR,zxh l e]
def RN{p:Int->Bool}{f:Int->Option Bool}(A:∀x∈l,f x=J (!p x)):
 ((((aO (σ:=Unit) (β:=Unit ⊕ Int) (λi8 z=>(ix l i8).bind λo=>(f o).bind λr=>if r=O then(J (.out (.inr i8)))else(J (.go ()))) (λz=>.inl ()) (l.length) 0 ():Option (Unit ⊕ Int)).bind (Sum.elim (λ(E:Unit)=>J (-1)) J)).bind λu=>J (decide (0<=u))).bind λu=>J (!u))=J (l.all p):=by
 rcases IM l.length (λk=>(l[k]?).any p) (λk=>(k:Int)) (body:=λi8 z=>(ix l i8).bind λo=>(f o).bind λr=>if r=O then(J (.out (.inr i8)))else(J (.go ()))) (λk g=>by
  rw[hZ g,aP,A _ (eL g),aP,cI g]
  exact zDZ _ _ _)with⟨e,j⟩|⟨k,j,v,D,e⟩
 ·rw[e]
  have:l.all p=O:=by
   rw[bc];intro x C;obtain⟨k,g,rfl⟩:=BW.1 C;have:=j k g;rw[cI g]at this;exact this
  rw[this];rfl
 rw[e]
 have:l.all p=Z:=by
  rw[zx];refine⟨l[k],eL j,?_⟩;rw[cI j]at v;simpa using v
 rw[this];simp
def U3(x:Int):Bool:=decide (1<=x)&&decide (x<=7)
def dg(q:Nat):Nat->Nat->List Int
 |0,_=>[]
 |k+1,n=>((n%q:Nat):Int)::dg q k (n/q)
def evI(f:List Int)(x:Int):Int:=f.foldr (λc a=>a*x+c) 0
def zCz{c d:Int}(h:a%q=b%q)(e:c%q=d%q):(a+c)%q=(b+d)%q:=by rw[pU,h,e,<-pU]
structure a3G (q:Int) (SO:List Int):Prop where
 q8:7<q
 q2:q<=2000000000
 pr:Pr q.toNat
 bd:∀p∈SO,0<=p/\p<=7
 nd:SO.Nodup
 ln:SO.length<=10000000
def ztE(k:ap gr)(c:ao):Lb gr c=J (aL gr c.A&&aL gr c.B):=by
 unfold Lb;rw[NJ k,NJ k];cases aL gr c.A<;>simp
def zCb(k:ap gr)(m:Int):p7 gr [m]=J (aL gr m):=by
 rw[yf k];simp
def yc(h:0<=gr.Q)(g:gr.Q<=2000000000)(l:List Int):xF gr l=J (l.all (dB gr)):=by
 have e:PS l gr=J (l.all (dB gr)):=RN (f:=λx=>JP x gr) λx _=>by
  unfold JP;rw[zBk h g];rfl
 unfold xF;rw[e];rfl
def K4{a e:Nat}(h:a^n%p=1):a^(e%n)%p=a^e%p:=by
 have g:1%p=1:=by rw[<-h,QE]
 conv=>rhs;rw[<-QA e n]
 rw[QF,pT,uV,qR (a^n),h,HQ,g,Mf,QE]
def Hv(h:aL gr x=O):1<=x/\x<=gr.P-1/\x.toNat^gr.Q.toNat%gr.P.toNat=1:=by
 unfold aL at h;simp only[bC,eE]at h;exact⟨h.1.1,h.1.2,h.2⟩
def X3(k:ap gr)(h:aL gr x=O){s l:Int}(r:0<=s)(j:0<=l):av gr (av gr x s) l=av gr x (s*l):=by
 obtain⟨_,_,g⟩:=Hv h;have u:=k.q;obtain⟨a,rfl⟩:=fF r;obtain⟨b,rfl⟩:=fF j;obtain⟨n,o⟩:=fF (show 0<=gr.Q by omega);unfold av;rw[o]at g⊢;rw[dT]at g;have e:∀c:Nat,((c:Int)%(n:Int)).toNat=c%n:=λc=>by rw[<-pS,dT]
 rw[AP,e,e,e,dT,K4 g,K4 g,<-qR,<-pT];congr 1;rw[pT,qR,K4 (n:=n) (e:=b)]
 ·rw[<-qR,<-pT]
 rw[<-qR,<-pT,xJ,pT,qR,g,HQ,<-g,QE]
def zCu(k:ap gr)(g:0<=x)(j:x<=2000000000):L9 gr x=J (av gr x (-1)):=by
 have r:=k.q;have o:=k.p
 have e:(-1:Int)%gr.Q=gr.Q-1:=by
  have:=HR (-1) gr.Q 1;rw[<-this,WA];rw[qS (by omega) (by omega)];omega
 unfold L9;rw[aK (by omega) (by omega),(qy g j (by omega) o.2 (by omega) (by omega)).2];unfold av;rw[e];rfl
def U5(k:ap gr)(r:0<=b)(o:b<=2000000000)(g:0<=x)(j:x<=2000000000):Cp gr b x=J (aQ gr [b,av gr x (-1)]):=by
 have u:=k.p;obtain⟨v,z⟩:=zX k x (-1);unfold Cp Ny;rw[(G8 k g j _).1];simp only[aP];rw[Ax k];rfl;intro y e;simp only[gp,kg,kh]at e;rcases e with rfl|rfl<;>omega
structure a08 (gr:am) (c:ao) (m:Int) (wX sh:List Int) (i:Int):Prop where
 k:ap gr
 q:7<gr.Q
 a:aL gr c.A=O
 b:aL gr c.B=O
 m:aL gr m=O
 w:wX.all U3=O
 d:oe wX=O
 l:sh.length=wX.length
 e:sh.all (dB gr)=O
 i:U3 i=O
def a08.lg{m:Int}{e v:List Int}(h:a08 gr c m e v i)(z:e.length<=1048576):a3G gr.Q ([0]++e):=by
 have A:=h.k.q;have j:=h.k.p
 have o:∀x∈e,1<=x/\x<=7:=λx u=>by
  have:=bc.1 h.w x u;simpa[U3]using this
 have hd:e.Nodup:=by simpa[oe]using h.d
 refine⟨h.q,by omega,h.k.pq,λp j=>?_,?_,by simp;omega⟩
 ·rcases ke.1 j with g|g
  ·rw[gE.1 g];omega
  have:=o p g;omega
 show(0::e).Nodup;refine WB.2 ⟨λr=>?_,hd⟩;have:=o 0 r;omega
structure Bt (code:List Int):Prop where
 b:∀x∈code,0<=x/\x<=255
 l:code.length<=1048576
structure Cu (code:List Int) (n:Int) (c:List Int×Int×Int):Prop where
 e:c.1=code
 lo:0<=c.2.1
 hi:c.2.1<=n
def Cu.mono{n m:Int}{c:List Int×Int×Int}(h:Cu code n c)(e:n<=m):Cu code m c:=⟨h.e,h.lo,Int.le_trans h.hi e⟩
def zB8(x:BitVec IntKind.u64.bits):0<=i64.wrap (IntKind.u64.wrap ((x&&&BitVec.ofInt IntKind.u64.bits 255).toNat:Int))/\i64.wrap (IntKind.u64.wrap ((x&&&BitVec.ofInt IntKind.u64.bits 255).toNat:Int))<=255:=by
 have e:(x&&&BitVec.ofInt IntKind.u64.bits 255).toNat<=255:=by
  rw[a1L];exact ii Nat.and_le_right (by decide)
 generalize (x&&&BitVec.ofInt IntKind.u64.bits 255).toNat=y at e⊢;rw[wrU (by omega) (by omega),aK (by omega) (by omega)];omega
def zw6{n:Int}(A:Bt code)(h:Cu code n (c0,Y,X))(D:n<=9000000000000000):Rn (Gp c0 Y X) (λz=>0<=z.1/\z.1<=255/\Cu code (n+1) z.2):=by
 obtain⟨e,j,o⟩:=h;have e:c0=code:=e;have j:0<=Y:=j;have o:Y<=n:=o;subst e;have C:i64.wrap (Y+1)=Y+1:=aK (by omega) (by omega);unfold Gp;refine ax (ψ:=λv=>0<=v/\v<=255) ?_ λv u=>?_
 ·refine aU (λg=>?_) λg=>ak (by omega)
  obtain⟨k,rfl⟩:=fF j;have r:k<c0.length:=by simp at g;omega
  have:=A.b _ (eL r);exact bB r (ak (by rw[aK (by omega) (by omega)];exact this))
 simp only[C];refine aU (λg=>ak ⟨u.1,u.2,rfl,by show 0<=Y+1;omega,by show Y+1<=n+1;omega⟩) λg=>ak ?_
 exact⟨(zB8 _).1,(zB8 _).2,rfl,by show 0<=Y+1;omega,by show Y+1<=n+1;omega⟩
def hJ{n m:Int}(e:Bt code)(h:Cu code n (c0,Y,X))(E:n<=8000000000000000):Rn (fu c0 Y X m) (λz=>0<=z.1/\(m<=1->z.1=0)/\(1<m->z.1<m)/\z.1<=65535/\Cu code (n+2) z.2):=by
 unfold fu;refine aU (λg=>ak ⟨BX 0,λ_=>rfl,λh=>by simp at g;omega,by show(0:Int)<=_;omega,h.mono (by omega)⟩) λg=>?_
 have g:1<m:=by simpa using g
 refine ax (zw6 e h (by omega)) λz ⟨C,z2,o⟩=>?_
 refine ax (ψ:=λx=>0<=x.2/\x.2<=65535/\Cu code (n+2) x.1) ?_ λx ⟨j,F,v⟩=>?_
 ·refine aU (λ_=>ax (zw6 e o (by omega)) λy ⟨G,H,A⟩=>ak ?_) λ_=>ak ⟨C,by show z.1<=_;omega,o.mono (by omega)⟩
  rw[aK (n:=z.1*256) (by omega) (by omega),aK (by omega) (by omega)];exact⟨by show 0<=z.1*256+y.1;omega,by show z.1*256+y.1<=_;omega,A.mono (by omega)⟩
 refine aJ (by omega) (ak ?_);rw[ju j];have r:=oJ x.2 (show m≠0 by omega);have u:=tL x.2 (show 0<m by omega)
 have D:x.2%m<=x.2:=by
  rcases Int.lt_or_le x.2 m with h|h
  ·rw[qS j h];exact BX _
  ·omega
 exact⟨r,λh=>by omega,λ_=>u,by show x.2%m<=_;omega,v⟩
def xW{n m:Int}(e:Bt code)(h:Cu code n (c0,Y,X))(g:n<=8000000000000000):Rn (rU c0 Y X m) (λz=>Cu code (n+2) z.2):=by
 unfold rU;exact ax (hJ e h g) λz j=>ak j.2.2.2.2
def qc{n:Int}(g:Bt code)(h:Cu code n (c0,Y,X))(r:n<=8000000000000000)(o:l≠[]):Rn (rc c0 Y X l) (λz=>z.1∈l/\Cu code (n+2) z.2):=by
 unfold rc;refine ax (hJ g h r) λz ⟨u,z2,v,D,A⟩=>?_
 have C:0<l.length:=List.length_pos_iff.2 o;obtain⟨k,j⟩:=fF u
 have e:k<l.length:=by
  rcases dS 1 l.length with h|h
  ·have:=v (by omega);omega
  ·have:=z2 (by omega);omega
 rw[j];exact bB e (ak ⟨eL e,A⟩)
def zxC{d:Nat}(h:Pr n)(hd:d%n≠0):Nat.gcd n d=1:=by
 obtain⟨k,e⟩:=Nat.gcd_dvd_left n d;have A:=h.1;have v:0<Nat.gcd n d:=Nat.gcd_pos_of_pos_left d (by omega);have j:=Nat.gcd_dvd_right n d;generalize Nat.gcd n d=g at e v j;apply QG;intro z;have u:2<=g:=by omega
 have r:2<=k:=by
  rcases dS k 2 with h|h
  ·have:k=0\/k=1:=by omega
   rcases this with rfl|rfl
   ·omega
   ·rw[Mh]at e;rw[<-e]at j;exact absurd (a5O j) hd
  ·exact h
 rcases Nat.le_total g k with o|o
 ·exact h.2 g u (by rw[e];exact Qz g o) (by rw[e];exact Nat.mul_mod_right g k)
 exact h.2 k r (by rw[e];exact gN k o) (by rw[e];exact Nat.mul_mod_left g k)
def F5(h:Pr n)(j:(a*b)%(n:Int)=0):a%(n:Int)=0\/b%(n:Int)=0:=by
 have g:n∣a.natAbs*b.natAbs:=by
  rw[<-Int.natAbs_mul];exact a1Q.1 (WC j)
 by_cases e:a.natAbs%n=0
 ·exact .inl (a1R (a1Q.2 (Wz e)))
 exact .inr (a1R (a1Q.2 (Nat.Coprime.dvd_of_dvd_mul_left (zxC h e) g)))
def jc(f:List Int)(x:Int):Int:=f.foldr (λc a=>a*x+c) 0
theorem zs0(c:Int)(f:List Int)(x:Int):jc (c::f) x=jc f x*x+c:=rfl
def pj(r:Int):List Int->List Int
 |[]=>[]
 |[_]=>[]
 |_::c::f=>jc (c::f) r::pj r (c::f)
theorem WQ(r:Int):∀f:List Int,(pj r f).length=f.length-1
 |[]=>rfl
 |[_]=>rfl
 |_::c::f=>by
  show(pj r (c::f)).length+1=_;rw[WQ r (c::f)];simp
theorem XW(r x:Int):∀f:List Int,jc f x=jc (pj r f) x*(x-r)+jc f r
 |[]=>by simp[pj,jc]
 |[c]=>by simp[pj,jc]
 |d::c::f=>by
  have ih:=XW r x (c::f);show jc (c::f) x*x+d=(jc (pj r (c::f)) x*x+jc (c::f) r)*(x-r)+(jc (c::f) r*r+d);rw[ih];grind
theorem YS(r:Int):∀f:List Int,2<=f.length->(pj r f).getLastD 0=f.getLastD 0
 |[],h=>absurd h (by simp)
 |[_],h=>absurd h (by simp)
 |[d,c],_=>by simp[pj,jc]
 |e::d::c::f,_=>by
  have ih:=YS r (d::c::f) (by simp);show(jc (d::c::f) r::jc (c::f) r::pj r (c::f)).getLastD 0=_;have:pj r (d::c::f)=jc (c::f) r::pj r (c::f):=rfl;rw[this]at ih;simpa[List.getLastD]using ih
theorem YN{p:Nat}(v:Pr p):∀(n:Nat) (f:List Int),f.length=n+1->f.getLastD 0%(p:Int)≠0->∀rs:List Int,rs.Pairwise (λa b=>(b-a)%(p:Int)≠0)->(∀r∈rs,jc f r%(p:Int)=0)->rs.length<=n
 |0,f,u,j,rs,hd,g=>by
  match f,u with
  |[c],_=>
   cases rs with
   |nil=>simp
   |cons r rs=>
    have:=g r (qQ ..);simp[jc]at this;exact absurd (by first|exact this|exact a1R this) (by simpa[List.getLastD]using j)
 |n+1,f,u,j,rs,hd,g=>by
  cases rs with
  |nil=>simp
  |cons r rs=>
   have o:=List.pairwise_cons.1 hd
   have:=YN v n (pj r f) (by rw[WQ];omega) (by rw[YS r f (by omega)];exact j) rs o.2 λs z=>by
    have e:=XW r s f;have C:=g s (oH _ z);have D:=g r (qQ ..)
    have A:(jc (pj r f) s*(s-r))%(p:Int)=0:=by
     rw[show jc (pj r f) s*(s-r)=jc f s-jc f r by omega,tK,C,D];simp
    rcases F5 v A with h|h
    ·exact h
    ·exact absurd h (o.1 s z)
   simpa using this
def zyW(k:Nat)(x:Int):jc (List.replicate k 0++[1]) x=x^k:=by
 induction k with
 |zero=>simp[jc]
 |succ k ih=>rw[a1I,tJ,zs0,ih,a1S];omega
def zov(e:Pr p)(v:1<=n)(rs:List Int)(hd:rs.Pairwise (λa b=>(b-a)%(p:Int)≠0))(g:∀r∈rs,r^n%(p:Int)=1):rs.length<=n:=by
 have u:=e.1;have o:(1:Int)%(p:Int)=1:=qS (by omega) (by omega);obtain⟨k,rfl⟩:∃k,n=k+1:=⟨n-1,by omega⟩
 refine YN e (k+1) (-1::(List.replicate k 0++[1])) (by simp) ?_ rs hd λr j=>?_
 ·have:(-1::(List.replicate k (0:Int)++[1])).getLastD 0=1:=by
   rw[<-tJ,List.getLastD_concat]
  rw[this,o];omega
 rw[zs0,zyW,<-a1S,pU,g r j]
 have:((-1:Int)%(p:Int))=p-1:=by
  have:=HR (-1) (p:Int) 1;rw[<-this,WA,qS (by omega) (by omega)];omega
 rw[this,show 1+((p:Int)-1)=p by omega,Int.emod_self]
def zxF(j:Pr p)(v:1<=n)(D:n<p-1):∃h:Nat,2<=h/\h<p/\h^n%p≠1:=by
 apply QG;intro u;have A:=j.1
 have o:∀h:Nat,1<=h->h<p->h^n%p=1:=λh a b=>by
  rcases dS h 2 with c|c
  ·have:h=1:=by omega
   subst this;rw[HQ,oG (by omega)]
  ·exact QG λd=>u ⟨h,c,b,d⟩
 have:=zov j v ((List.range (p-1)).map λk=>((k+1:Nat):Int)) ?_ ?_
 ·simp at this;omega
 ·rw[QH];refine a1T ?_ a5S;intro a b C e E;have e:=kT.1 e;rw[show((b+1:Nat):Int)-((a+1:Nat):Int)=((b-a:Nat):Int)by omega,<-pS,oG (by omega)];omega
 intro r z;obtain⟨k,g,rfl⟩:=jr.1 z;have g:=kT.1 g;rw[<-WD,<-pS,o (k+1) (by omega) (by omega)];rfl
structure Gs (gr:am):Prop where
 p:0<=gr.P/\gr.P<=2000000000
 q:0<=gr.Q/\gr.Q<=1000000000
 g:0<=gr.G/\gr.G<=2000000000
def zCo{q:Nat}(e:2<=q):((1+(k:Int)*(q:Int))-1).tdiv (q:Int)=(k:Int):=by
 rw[show(1+(k:Int)*(q:Int))-1=(k:Int)*(q:Int)by omega,a5T _ (by omega)]
def zof{q:Nat}(S:q<=1000000):Rn (xe (q:Int)) (λz=>Gs z.1/\(z.2=O->z.1.Q=q/\3<=z.1.P)/\(∀k:Nat,1<=k->Pr (1+k*q)->1+k*q<=2000000000->Pr q->z.2=O)):=by
 unfold xe;refine ax (ψ:=λb=>b= !(decide (2<=q)&&l9 (q:Int))) ?_ ?_
 ·refine ag (qs _ _ _) ?_;by_cases h:2<=q
  ·refine bQ (by simp;omega) (ag (GM _ (by omega)) (ak ?_));simp[h]
  refine iS (by simp;omega) (ak ?_);simp[h]
 rintro _ rfl;cases u:(decide (2<=q)&&l9 (q:Int))
 ·refine iS rfl (ak ⟨⟨⟨by decide,by decide⟩,⟨by decide,by decide⟩,by decide,by decide⟩,λh=>(by cases h),λk o r A C=>?_⟩);rw[ny.2 C]at u;have:=C.1;simp at u;omega
 have I:2<=q:=by simp at u;exact u.1
 have pV:Pr q:=by simp at u;exact ny.1 u.2
 refine bQ rfl ?_;refine ax (ψ:=λb=>(b=.inl ()/\∀k:Nat,1<=k->Pr (1+k*q)->¬1+k*q<=2000000000)\/∃z:am×Bool,b=.inr z/\Gs z.1/\z.2=O/\z.1.Q=q/\3<=z.1.P) ?_ ?_
 ·rw[aK (by omega) (by omega)];refine tZ (λs=>∃k:Nat,1<=k/\s=1+(k:Int)*(q:Int)/\s<=2001000001/\∀j:Nat,1<=j->j<k->¬Pr (1+j*q)) (λs=>(2001000001-s).toNat) ⟨1,by omega,by omega,by omega,λj o r=>by omega⟩ ?_;rintro s ⟨k,P,rfl,hs,H⟩;have U:k*2<=k*q:=Qz k I;have T:(k:Int)*(q:Int)=((k*q:Nat):Int):=AP k q;refine aU (λg=>?_) λg=>?_
  ·have g:1+(k:Int)*(q:Int)<=2000000000:=by simpa using g
   refine ag (GM _ (by omega)) ?_;have F:1+(k:Int)*(q:Int)=((1+k*q:Nat):Int):=by omega
   cases D:l9 (1+(k:Int)*(q:Int))
   ·refine iS rfl (ak ?_)
    have e:i64.wrap (1+(k:Int)*(q:Int)+(q:Int))=1+((k+1:Nat):Int)*(q:Int):=by
     rw[aK (by omega) (by omega)];grind
    refine⟨⟨k+1,by omega,e,by rw[aK (by omega) (by omega)];omega,λj o r=>?_⟩,?_⟩
    ·rcases dS j k with h|h
     ·exact H j o h
     have:j=k:=by omega
     subst this;intro G;rw[F,ny.2 G]at D;cases D
    rw[aK (by omega) (by omega)];omega
   refine bQ rfl ?_;have G:Pr (1+k*q):=by rw[F]at D;exact ny.1 D
   obtain⟨v,Q,R,N⟩:=zxF G P (by omega)
   have M:i64.wrap ((i64.wrap (1+(k:Int)*(q:Int)-1)).tdiv (q:Int))=(k:Int):=by
    rw[aK (n:=1+(k:Int)*(q:Int)-1) (by omega) (by omega),zCo I,aK (by omega) (by omega)]
   simp only[M];simp only[F];refine ax (ψ:=λh=>2<=h/\h<=(v:Int)) (tZ (λs=>2<=s/\s<=(v:Int)) (λs=>(v-s).toNat) (by omega) ?_) ?_
   ·rintro s ⟨K,L⟩;have E:=(qy (a:=s) (e:=(k:Int)) (m:=((1+k*q:Nat):Int)) (by omega) (by omega) (by omega) (by omega) (by omega) (by omega)).2;refine aJ (by omega) (ag E ?_);refine aU (λg=>ak ?_) λg=>ak ⟨K,L⟩
    rw[aK (by omega) (by omega)]
    have hne:s≠(v:Int):=λe=>by
     subst e;apply N;have g:((((v:Int).toNat^(k:Int).toNat%((1+k*q:Nat):Int).toNat:Nat)):Int)=1:=by simpa only[zo]using g
     rw[dT,dT,dT]at g;omega
    refine⟨⟨by omega,by omega⟩,?_⟩;omega
   rintro h ⟨K,L⟩;have E:=(qy (a:=h) (e:=(k:Int)) (m:=((1+k*q:Nat):Int)) (by omega) (by omega) (by omega) (by omega) (by omega) (by omega)).2;refine aJ (by omega) (ag E (ak ?_))
   have W:h.toNat^(k:Int).toNat%((1+k*q:Nat):Int).toNat<1+k*q:=by
    rw[dT (1+k*q)];exact nc _ (by omega)
   refine .inr ⟨_,rfl,⟨⟨by show(0:Int)<=((1+k*q:Nat):Int);omega,by show((1+k*q:Nat):Int)<=_;omega⟩,⟨by show(0:Int)<=(q:Int);omega,by show(q:Int)<=_;omega⟩,?_,?_⟩,rfl,rfl,by show(3:Int)<=((1+k*q:Nat):Int);omega⟩
   ·show(0:Int)<=((_:Nat):Int);omega
   show((_:Nat):Int)<=2000000000;omega
  refine ak (.inl ⟨rfl,λj o r A=>?_⟩);have g:¬1+(k:Int)*(q:Int)<=2000000000:=by simpa using g
  rcases dS j k with h|h
  ·exact H j o h r
  have:k*q<=j*q:=gN q h;omega
 rintro b (⟨rfl,h⟩|⟨z,rfl,o,r,A,C⟩)
 ·exact ak ⟨⟨⟨by decide,by decide⟩,⟨by decide,by decide⟩,by decide,by decide⟩,λh=>(by cases h),λk o r A C=>absurd A (h k o r)⟩
 exact ak ⟨o,λ_=>⟨A,C⟩,λ_ _ _ _ _=>r⟩
def og(r:n<64)(j:2<=n)(h:∀d,d<8->2<=d->d*d<=n->n%d≠0):Pr n:=by
 refine⟨j,λd g o=>?_⟩;rcases dS d 8 with e|e
 ·exact h d e g o
 have:8*8<=d*d:=su e e;omega
structure Gw (gr:am):Prop where
 p: -10<=gr.P/\gr.P<=2100000000
 q: -10<=gr.Q/\gr.Q<=2100000000
 g: -10<=gr.G/\gr.G<=2100000000
def Gs.w(h:Gs gr):Gw gr:=⟨by have:=h.p;omega,by have:=h.q;omega,by have:=h.g;omega⟩
def zB1(e:x∈[(3:Int),5,5,7,11,11,13,23]):∃q k:Nat,x=(q:Int)/\3<=q/\q<=23/\1<=k/\Pr (1+k*q)/\1+k*q<=2000000000/\Pr q:=by
 simp only[gp,kg,kh]at e;rcases e with rfl|rfl|rfl|rfl|rfl|rfl|rfl|rfl
 ·exact⟨3,2,rfl,by decide,by decide,by decide,og (by decide) (by decide) (by decide),by decide,og (by decide) (by decide) (by decide)⟩
 ·exact⟨5,2,rfl,by decide,by decide,by decide,og (by decide) (by decide) (by decide),by decide,og (by decide) (by decide) (by decide)⟩
 ·exact⟨5,2,rfl,by decide,by decide,by decide,og (by decide) (by decide) (by decide),by decide,og (by decide) (by decide) (by decide)⟩
 ·exact⟨7,4,rfl,by decide,by decide,by decide,og (by decide) (by decide) (by decide),by decide,og (by decide) (by decide) (by decide)⟩
 ·exact⟨11,2,rfl,by decide,by decide,by decide,og (by decide) (by decide) (by decide),by decide,og (by decide) (by decide) (by decide)⟩
 ·exact⟨11,2,rfl,by decide,by decide,by decide,og (by decide) (by decide) (by decide),by decide,og (by decide) (by decide) (by decide)⟩
 ·exact⟨13,4,rfl,by decide,by decide,by decide,og (by decide) (by decide) (by decide),by decide,og (by decide) (by decide) (by decide)⟩
 exact⟨23,2,rfl,by decide,by decide,by decide,og (by decide) (by decide) (by decide),by decide,og (by decide) (by decide) (by decide)⟩
def zCd{n:Int}(g:Bt code)(h:Cu code n (c0,Y,X))(A:n<=7000000000000000):Rn (GB c0 Y X) (λz=>Gs z.1/\3<=z.1.Q/\z.1.Q<=23/\3<=z.1.P/\Cu code (n+2) z.2):=by
 unfold GB;refine ax (qc g h (by omega) (by simp)) λz ⟨v,z2⟩=>?_
 obtain⟨q,k,e,q1,q2,k1,k2,k3,k4⟩:=zB1 v;rw[e];refine ax (zof (by omega)) λy ⟨j,o,r⟩=>ak ?_
 have u:=o (r k k1 k2 k3 k4);exact⟨j,by show 3<=y.1.Q;omega,by show y.1.Q<=23;omega,u.2,z2⟩
def zAX(h:Gs gr)(C:1<=gr.Q)(A:1<=gr.P)(D:0<=x/\x<=2000000000)(e:Int):Rn (cF gr x e) (λv=>0<=v/\v<=2000000000):=by
 have r:=h.p;have u:=h.q;have g:0<=e%gr.Q:=oJ _ (by omega);have o:e%gr.Q<gr.Q:=tL _ (by omega);have j:=(qy (a:=x) (e:=e%gr.Q) (m:=gr.P) (by omega) (by omega) (by omega) (by omega) g (by omega)).2;unfold cF;refine ag (Ee (by omega) (by omega)) (ag j (ak ?_));have z:x.toNat^(e%gr.Q).toNat%gr.P.toNat<gr.P.toNat:=nc _ (by omega);omega
def zGF(e:x∈[(101:Int),1009,1019,65537,999983]):∃q:Nat,x=(q:Int)/\q<=1000000:=by
 simp only[gp,kg,kh]at e;rcases e with rfl|rfl|rfl|rfl|rfl
 ·exact⟨101,rfl,by decide⟩
 ·exact⟨1009,rfl,by decide⟩
 ·exact⟨1019,rfl,by decide⟩
 ·exact⟨65537,rfl,by decide⟩
 exact⟨999983,rfl,by decide⟩
def zCG:Gs (am.mk 1000000007 500000003 4):=⟨⟨by decide,by decide⟩,⟨by decide,by decide⟩,by decide,by decide⟩
def cu0(code:List Int):Cu code 0 (code,0,0):=⟨rfl,BX 0,BX 0⟩
def T0{n:Int}(j:Bt code)(h:Cu code n (c0,Y,X))(G:n<=6000000000000000):Rn (A8 c0 Y X) (λz=>Gs z.1/\Cu code (n+6) z.2):=by
 unfold A8;refine ax (hJ j h (by omega)) λz ⟨N,z2,P,Q,o⟩=>?_
 refine aU (λ_=>ak ⟨zCG,o.mono (by omega)⟩) λ_=>aU (λ_=>?_) λ_=>?_
 ·refine ax (qc j o (by omega) (by simp)) λy ⟨g,u⟩=>?_
  obtain⟨q,e,C⟩:=zGF g;rw[e];exact ax (zof C) λx ⟨r,_,_⟩=>ak ⟨r,u.mono (by omega)⟩
 refine ax (zCd j o (by omega)) λy ⟨g,u,L,M,F⟩=>?_
 refine ax (hJ j F (by omega)) λx ⟨r,H,I,K,E⟩=>?_
 have A:=g.g;refine ax (zAX g (by omega) (by omega) A _) λv D=>ak ⟨⟨g.p,g.q,D⟩,E.mono (by omega)⟩
def zwI{n:Int}(e:Bt code)(h:Cu code n (c0,Y,X))(D:n<=5000000000000000):Rn (CN c0 Y X) (λz=>Gw z.1/\Cu code (n+10) z.2):=by
 unfold CN;refine ax (T0 e h (by omega)) λz ⟨r,z2⟩=>?_
 have v:=r.p;have A:=r.q;have C:=r.g;refine ax (hJ e z2 (by omega)) λy ⟨_,_,_,_,o⟩=>?_
 rw[aK (n:=z.1.P+2) (by omega) (by omega),aK (n:=z.1.Q+1) (by omega) (by omega),aK (n:=z.1.P-1) (by omega) (by omega),aK (n:=z.1.G+1) (by omega) (by omega)];refine ax (ψ:=λx=>Gw (am.mk x.2.1 x.2.2.1 x.2.2.2)/\Cu code (n+10) x.1) ?_ λx u=>ak u
 refine aU (λ_=>?_) λ_=>aU (λ_=>?_) λ_=>aU (λ_=>?_) λ_=>ak ⟨r.w,o.mono (by omega)⟩
 ·refine ax (qc e o (by omega) (by simp)) λx ⟨g,j⟩=>ak ⟨?_,j.mono (by omega)⟩
  simp only[gp,kg,kh]at g;exact⟨by show-10<=x.1/\x.1<=_;omega,by show-10<=z.1.Q/\z.1.Q<=_;omega,by show-10<=z.1.G/\z.1.G<=_;omega⟩
 ·refine ax (qc e o (by omega) (by simp)) λx ⟨g,j⟩=>ak ⟨?_,j.mono (by omega)⟩
  simp only[gp,kg,kh]at g;exact⟨by show-10<=z.1.P/\z.1.P<=_;omega,by show-10<=x.1/\x.1<=_;omega,by show-10<=z.1.G/\z.1.G<=_;omega⟩
 refine ax (qc e o (by omega) (by simp)) λx ⟨g,j⟩=>ak ⟨?_,j.mono (by omega)⟩
 simp only[gp,kg,kh]at g;exact⟨by show-10<=z.1.P/\z.1.P<=_;omega,by show-10<=z.1.Q/\z.1.Q<=_;omega,by show-10<=x.1/\x.1<=_;omega⟩
def Q3{n:Int}(e:Bt code)(h:Cu code n (c0,Y,X))(A:n<=7000000000000000)(v:gr.Q<=2100000000):Rn (DC c0 Y X gr) (λz=>0<=z.1/\z.1<=2100000000/\(2<=gr.Q->z.1<gr.Q)/\Cu code (n+4) z.2):=by
 unfold DC;refine aU (λg=>ak ⟨BX 0,by show(0:Int)<=_;omega,λh=>by simp at g;omega,h.mono (by omega)⟩) λg=>?_
 have g:2<=gr.Q:=by simp at g;omega
 refine ax (hJ e h (by omega)) λz ⟨G,z2,H,I,u⟩=>?_
 refine ax (hJ e u (by omega)) λy ⟨C,D,E,F,r⟩=>aJ (by omega) (ak ?_)
 rw[aK (n:=z.1*60000) (by omega) (by omega),aK (by omega) (by omega),ju (by omega)];have j:=oJ (z.1*60000+y.1) (show gr.Q≠0 by omega);have o:=tL (z.1*60000+y.1) (show 0<gr.Q by omega);exact⟨j,by show _%gr.Q<=_;omega,λ_=>o,r.mono (by omega)⟩
def XY{n:Int}(e:Bt code)(h:Cu code n (c0,Y,X))(A:n<=6000000000000000)(r:Gw gr):Rn (GL c0 Y X gr) (λz=>-100<=z.1/\z.1<=2100000000/\Cu code (n+6) z.2):=by
 have v:=r.q;unfold GL;refine ax (xW e h (by omega)) λz o=>?_
 rw[aK (by omega) (by omega)];refine aU (λ_=>?_) λ_=>?_
 ·refine ax (qc e o (by omega) (by simp)) λy ⟨j,g⟩=>ak ?_
  simp only[gp,kg,kh]at j;exact⟨by show-100<=y.1;omega,by show y.1<=_;omega,g.mono (by omega)⟩
 exact ax (Q3 e o (by omega) (by omega)) λy ⟨j,g,_,u⟩=>ak ⟨by show-100<=y.1;omega,g,u.mono (by omega)⟩
def zuM{n:Int}(v:Bt code)(h:Cu code n (c0,Y,X))(K:n<=5000000000000000)(A:Gw gr)(I:k<=1000000):Rn (HE c0 Y X gr (k:Int)) (λz=>z.1.length=k/\(∀x∈z.1,0<=x/\x<=2100000000/\(2<=gr.Q->x<gr.Q))/\Cu code (n+4*k) z.2):=by
 unfold HE;refine ax (ψ:=λr=>r.2.length=k/\(∀x∈r.2,0<=x/\x<=2100000000/\(2<=gr.Q->x<gr.Q))/\Cu code (n+4*k) r.1) (kZ k (λj s=>s.2.1=(k:Int)-j/\s.2.2.length=j/\(∀x∈s.2.2,0<=x/\x<=2100000000/\(2<=gr.Q->x<gr.Q))/\Cu code (n+4*j) s.1) ⟨by show(k:Int)=_;omega,rfl,by simp,h.mono (by omega)⟩ ?_ ?_) λr C=>ak C
 ·rintro j s H ⟨e,g,o,u⟩;refine iS (by rw[e];simp;omega) (ax (Q3 v u (by omega) A.q.2) λz ⟨E,z2,F,G⟩=>aJ (by omega) (ak ⟨?_,by simp[g],λx D=>?_,G.mono (by omega)⟩))
  ·show i64.wrap (s.2.1-1)=_;rw[e,aK (by omega) (by omega)];omega
  rcases ke.1 D with h|h
  ·exact o x h
  rw[gE.1 h];exact⟨E,z2,F⟩
 rintro s ⟨e,g,o,u⟩;exact bQ (by rw[e];simp) (ak ⟨g,o,u⟩)
def zon{a:Nat}(e:2<=p){m:Nat}(h:a^m%p=1)(k r:Nat):a^(m*k+r)%p=a^r%p:=by
 rw[QF,pT,uV,qR (a^m),h,HQ,oG (show 1<p by omega),Mf,QE]
def zAd{a:Nat}(j:2<=p):∀m n,a^m%p=1->a^n%p=1->a^(Nat.gcd m n)%p=1:=by
 intro m n;induction m,n using Nat.gcd.induction with
 |H0 n=>intro _ h;simpa using h
 |H1 m n r ih=>
  intro e g;rw[Nat.gcd_rec];refine ih ?_ e;rw[<-zon j e (n/m) (n%m),QA];exact g
def zAs{a q:Nat}(r:2<=p)(A:Pr q)(g:a^q%p=1)(u:a%p≠1){i j:Nat}(C:i<j)(D:j<q):a^i%p≠a^j%p:=by
 intro e
 have z:a^(j-i)%p=1:=by
  have v:a^(j-i)%p=a^(q*1+(j-i))%p:=(zon r g 1 (j-i)).symm;rw[v,show q*1+(j-i)=j+(q-i)by omega,QF,uV,<-e,<-uV,<-QF,show i+(q-i)=q by omega];exact g
 have o:=zAd r q (j-i) g z;rw[zxC A (by rw[oG (by omega)];omega),Nat.pow_one]at o;exact u o
def SR(h:aL gr x=O):x.toNat^gr.Q.toNat%gr.P.toNat=1:=by
 simp only[aL,bC,eE]at h;exact h.2
def YZ(k:ap gr)(h:aL gr x=O):x.toNat<gr.P.toNat/\1<=x.toNat:=by
 have:=ru h;have:=k.p;omega
def zBQ(k:ap gr)(g:aL gr h=O)(T:h≠1)(A:aL gr x=O):∃s:Nat,h.toNat^s%gr.P.toNat=x.toNat:=by
 have Q:2<=gr.P.toNat:=by have:=k.p;omega
 have I:=YZ k g;have D:=YZ k A;have E:h.toNat%gr.P.toNat≠1:=by rw[oG I.1];have:=ru g;omega
 apply QG;intro P;have C:∀s:Nat,h.toNat^s%gr.P.toNat≠x.toNat:=λs e=>P ⟨s,e⟩
 have key:∀a b:Nat,a<gr.P.toNat->b<gr.P.toNat->a≠b->((b:Int)-(a:Int))%(gr.P.toNat:Int)≠0:=by
  intro a b U S W L;have G:((gr.P.toNat:Nat):Int)∣(b:Int)-(a:Int):=WC L;obtain⟨c,K⟩:=G;rcases Int.lt_trichotomy c 0 with o|o|o
  ·have:(gr.P.toNat:Int)*c<=(gr.P.toNat:Int)*(-1):=WE (by omega) (by omega);omega
  ·subst o;simp at K;omega
  ·have:(gr.P.toNat:Int)*1<=(gr.P.toNat:Int)*c:=WE (by omega) (by omega);omega
 have u:∀s,h.toNat^s%gr.P.toNat<gr.P.toNat:=λs=>nc _ (by omega)
 have N:=zov (p:=gr.P.toNat) (n:=gr.Q.toNat) k.pp (by have:=k.q;omega) ((x.toNat:Int)::(List.range gr.Q.toNat).map λi=>((h.toNat^i%gr.P.toNat:Nat):Int)) ?_ ?_
 ·simp at N;omega
 ·rw[List.pairwise_cons];refine⟨λy R=>?_,?_⟩
  ·obtain⟨i,z,rfl⟩:=jr.1 R;exact key _ _ D.1 (u i) λe=>C i e.symm
  rw[QH];refine a1T ?_ a5S;intro i j z M F;exact key _ _ (u i) (u j) (zAs Q k.pq (SR g) E F (kT.1 M))
 intro r v;rcases gp.1 v with rfl|v
 ·have:=SR A;rw[<-WD,<-pS,this];rfl
 obtain⟨i,z,rfl⟩:=jr.1 v
 have H:(h.toNat^i%gr.P.toNat)^gr.Q.toNat%gr.P.toNat=1:=by
  rw[<-qR,<-pT,xJ,pT,qR,SR g,HQ,oG (by omega)]
 rw[<-WD,<-pS,H];rfl
def Xk(e:0<q)(o:q<=4000000000000000000):q9 a q=J (a%q):=by
 unfold q9;rw[d6 (by omega),d6 (by omega)];have g:a.tmod q<q:=QD a e
 have j: -q<a.tmod q:=by
  have:=Ww a e;omega
 rw[aK (by omega) (by omega),ju (by omega)];congr 1;rw[Wx];rw[a1N,tK,a1O,Wy,e8]
def zuH(a:Int){m:Int}(h:0<m): -m<a.tmod m/\a.tmod m<m:=by
 have e:=QD a h;have g:=Ww a h;omega
def zx8(a:Int){e m:Int}(A:1<=m)(z:0<=e)(C:e<=4000000000000000000):Rn (l4 a e m) (λv=>-m<v/\v<m):=by
 unfold l4;refine aJ (by omega) (ax (ψ:=λv=>-m<v/\v<m) (tZ (λs=>(-m<s.2.2/\s.2.2<m)/\0<=s.2.1/\s.2.1<=e) (λs=>s.2.1.toNat) ⟨zuH _ (by omega),z,BX _⟩ ?_) λx o=>ak o);rintro s ⟨r,D,E⟩;refine aU (λg=>?_) λ_=>ak r
 have g:0<s.2.1:=by simpa using g
 refine ax (ψ:=λv=>-m<v/\v<m) (aU (λ_=>aJ (by omega) (ak (zuH _ (by omega)))) λ_=>ak r) λx o=>aJ (by omega) (ak ?_)
 have u:s.2.1.tdiv 2=s.2.1/2:=Wr (by omega);have j:i64.wrap (s.2.1.tdiv 2)=s.2.1/2:=by rw[u,aK (by omega) (by omega)]
 exact⟨⟨o,by show 0<=i64.wrap _;rw[j];omega,by show i64.wrap _<=e;rw[j];omega⟩,by show(i64.wrap _).toNat<_;rw[j];omega⟩
def zAu(j:1<=gr.Q/\gr.Q<=4000000000000000000)(g:1<=gr.P)(x e:Int):Rn (cF gr x e) (λv=>-gr.P<v/\v<gr.P):=by
 unfold cF;refine ag (Xk (by omega) j.2) (ax (zx8 x g (oJ _ (by omega)) ?_) λv o=>ak o);have:=tL e (show 0<gr.Q by omega);omega
def Qf{n:Int}(o:Bt code)(h:Cu code n (c0,Y,X))(C:n<=6000000000000000)(g:Gw gr):Rn (Ag c0 Y X gr) (λz=>-2200000000<=z.1/\z.1<=2200000000/\Cu code (n+4) z.2):=by
 have u:=g.p;have A:=g.q;unfold Ag;refine ax (ψ:=λb=>b=Z->3<=gr.P/\1<=gr.Q) (aU (λ_=>ak λh=>by cases h) λa=>ak λb=>by simp at a b;omega) λb j=>aU (λ_=>ak ⟨by show-2200000000<=(1:Int);decide,by show(1:Int)<=_;decide,h.mono (by omega)⟩) λe=>?_
 obtain⟨k1,k2⟩:=j e;refine ag (Xk (by omega) (by omega)) (ax (Q3 o h (by omega) (by omega)) λz ⟨E,z2,_,r⟩=>ax (zAu ⟨k2,by omega⟩ (by omega) _ _) λv D=>ak ⟨by show _<=v;omega,by show v<=_;omega,r⟩)
def zmN{n:Int}(e:Bt code)(h:Cu code n (c0,Y,X))(A:n<=5000000000000000)(o:Gw gr):Rn (FL c0 Y X gr) (λz=>-2200000000<=z.1/\z.1<=2200000000/\Cu code (n+6) z.2):=by
 have v:=o.p;unfold FL;refine ax (xW e h (by omega)) λz r=>aU (λ_=>?_) λ_=>ax (Qf e r (by omega) o) λy ⟨g,j,u⟩=>ak ⟨g,j,u.mono (by omega)⟩
 rw[aK (n:=gr.P-1) (by omega) (by omega)];refine ax (qc e r (by omega) (by simp)) λy ⟨g,j⟩=>ak ?_
 simp only[gp,kg,kh]at g;exact⟨by show-2200000000<=y.1;omega,by show y.1<=_;omega,j.mono (by omega)⟩
def b8(gr:am)(c:ao):Bool:=aL gr c.A&&aL gr c.B
def zBv(k:ap gr)(h:b8 gr c=O):0<=c.A/\c.A<=2000000000/\0<=c.B/\c.B<=2000000000:=by
 simp only[b8,bC]at h;have e:=ru h.1;have g:=ru h.2;have j:=k.p;omega
def zDo(k:ap gr)(l:List ao):Rn (Li l gr.P gr.Q gr.G) (λx=>(x=-1/\l.all (b8 gr)=O)\/(0<=x/\l.all (b8 gr)=Z)):=by
 unfold Li;refine ax (ψ:=λx=>(x=.inl ()/\l.all (b8 gr)=O)\/(∃j:Nat,x=.inr (j:Int)/\l.all (b8 gr)=Z)) (eI (λn _=>∀m,m<n->∀h:m<l.length,b8 gr l[m]=O) (λm e=>by omega) ?_ λs v=>.inl ⟨rfl,?_⟩) ?_
 ·rintro n s o r;refine bB o ?_;unfold N9;refine ax (ψ:=λb=>b= !b8 gr l[n]) (ag (ztE k l[n]) (ak rfl)) ?_;rintro _ rfl;refine aU (λh=>ak (.inr ⟨n,rfl,?_⟩)) λh=>ak λm e u=>?_
  ·rw[zx];exact⟨l[n],eL o,by simpa using h⟩
  rcases dS m n with g|g
  ·exact r m g u
  have:m=n:=by omega
  subst this;simpa using h
 ·rw[bc];intro x z;obtain⟨m,e,rfl⟩:=BW.1 z;exact v m e e
 rintro x (⟨rfl,h⟩|⟨j,rfl,h⟩)
 ·exact ak (.inl ⟨rfl,h⟩)
 exact ak (.inr ⟨by show(0:Int)<=(j:Int);omega,h⟩)
def zsl(k:ap gr)(l:List ao):Ir gr l=J (decide (l.length<=24)&&l.all (b8 gr)):=by
 unfold Ir;refine bW (ax (ψ:=λb=>b=(decide (l.length<=24)&&l.all (b8 gr))) (aU (λh=>?_) λh=>ak ?_) λb g=>ak g)
 ·have h:l.length<=24:=by simp at h;omega
  unfold Mz;refine ax (ψ:=λb=>b= !l.all (b8 gr)) (ax (zDo k l) λx j=>ak ?_) ?_
  ·rcases j with⟨rfl,h⟩|⟨e,h⟩
   ·rw[h];rfl
   rw[h];simpa using e
  rintro _ rfl;exact ak (by simp[h])
 have h:¬l.length<=24:=by simp at h;omega
 simp[h]
def XC(k:ap gr)(l:List ao):Hl gr l=J (decide (l.length<=24)&&l.all (b8 gr)):=by
 unfold Hl;by_cases h:24<(l.length:Int)
 ·rw[aE (by simpa using h)];have h:¬l.length<=24:=by omega
  simp[h]
 rw[aA (by simpa using h)];refine(WJ l (b8 gr) Z (λn g=>?_)).trans ?_
 ·rw[hZ g,aP,yf k,aP];have e:([l[n].A,l[n].B].all (aL gr))=b8 gr l[n]:=by simp[b8]
  rw[e];cases b8 gr l[n]<;>rfl
 have h:l.length<=24:=by omega
 cases l.all (b8 gr)<;>simp[h]
def zzs{n:Int}(e:Bt code)(h:Cu code n (c0,Y,X))(r:n<=4000000000000000)(g:Gw gr):Rn (Ko c0 Y X gr) (λz=>Cu code (n+8) z.2):=by
 unfold Ko;exact ax (Qf e h (by omega) g) λz ⟨_,_,o⟩=>ax (Qf e o (by omega) g) λy ⟨_,_,j⟩=>ak (j.mono (by omega))
def zwp{n:Int}(o:Bt code)(h:Cu code n (c0,Y,X))(I:n<=3000000000000000)(A:Gw gr)(H:k<=1000):Rn (I7 c0 Y X gr (k:Int)) (λz=>z.1.length<=k+1/\Cu code (n+4*k+20) z.2):=by
 unfold I7;refine ax (zuM o h (by omega) A (by omega)) λz ⟨u,_,G⟩=>?_
 refine ax (hJ o G (by omega)) λp ⟨_,_,_,_,e⟩=>?_
 refine ax (ψ:=λv=>Sum.elim (λx=>x.2.length<=k+1/\Cu code (n+4*k+20) x.1) (λy=>y.1.length<=k+1/\Cu code (n+4*k+20) y.2) v) ?_ ?_
 ·refine aU (λ_=>aJ (by omega) (ak ⟨by simp[u],e.mono (by omega)⟩)) λ_=>aU (λ_=>aU (λg=>?_) λ_=>ak ⟨by dsimp only;omega,e.mono (by omega)⟩) λ_=>aU (λ_=>aU (λg=>?_) λ_=>ak ⟨by dsimp only;omega,e.mono (by omega)⟩) λ_=>ak ⟨by dsimp only;omega,e.mono (by omega)⟩
  ·have g:0<(k:Int):=by simpa using g
   exact aJ (by omega) (ak ⟨by simp[u];omega,e.mono (by omega)⟩)
  have g:0<(k:Int):=by simpa using g
  refine ax (hJ o e (by omega)) λq ⟨q1,q2,q3,_,E⟩=>?_
  refine ax (qc o E (by omega) (by simp)) λw ⟨_,F⟩=>?_
  obtain⟨j,C⟩:=fF q1
  have D:j<z.1.length:=by
   rcases dS 1 k with h|h
   ·have:=q3 (by omega);omega
   ·have:=q2 (by omega);omega
  rw[C];exact bB D (ak ⟨by show(z.1.set _ _).length<=_;rw[zu];omega,F.mono (by omega)⟩)
 rintro(x|y) r
 ·exact ak r
 exact ak r
def oN(s:ByteArray):List Int:=s.data.toList.map λb=>(b.toNat:Int)
def Cj(s:ByteArray):(oN s).length=s.size:=by
 show(s.data.toList.map _).length=s.data.size;rw[HL,xI]
def zx2(s:ByteArray):∀x∈oN s,0<=x/\x<=255:=by
 intro x e;obtain⟨b,_,rfl⟩:=jr.1 e;have:=b.toNat_lt;omega
def zCk(h:k<s.size):yA s (k:Int)=J ((oN s)[k]'(by rw[Cj];exact h)):=by
 have e:k<s.data.size:=h;simp[yA,oN,h];rfl
def Zw(s:ByteArray)(l:List Int)(r:s.size<=1000000)(o:l.length<=1000000000000):H8 s l=J ((s.size:Int)::oN s++l):=by
 unfold H8;refine bW (ax (ψ:=λx=>x=(s.size:Int)::oN s) (kZ s.size (λn p=>n<=s.size/\p=((s.size:Int)::(oN s).take n,(n:Int))) ⟨by omega,by simp⟩ ?_ ?_) ?_)
 ·rintro n p g ⟨_,rfl⟩;have e:n<(oN s).length:=by rw[Cj];exact g
  have j:=zx2 s _ (eL e);refine aU (λ_=>?_) λh=>absurd h (by simp;omega)
  refine ag (zCk g) (aJ ?_ (ak ⟨by omega,?_⟩))
  ·simp only[fG,tH,Cj];omega
  show((s.size:Int)::(oN s).take n++[_],_)=_;rw[aK (by omega) (by omega),aK (by omega) (by omega),tJ,a1U e];rfl
 ·rintro p ⟨_,rfl⟩;refine aU (λh=>absurd h (by simp)) λ_=>ak ?_
  show(s.size:Int)::(oN s).take s.size=_;rw[Mm (by rw[Cj];omega)]
 rintro _ rfl;refine aJ ?_ (ak rfl);simp only[fG,Cj];omega
def zvG(s:ByteArray)(l:List Int)(g:s.size<=1000000)(e:l.length<=1000000000000):ND s l=J ((s.size:Int)::oN s++l):=Zw s l g e
def cT(x:Int):Bool:=decide (0<=x)&&decide (x<=4611686018427387903)
def jk :cT x=O↔0<=x/\x<=4611686018427387903:=by simp[cT]
def zwx(x:Int):Jl x=J (cT x):=by
 unfold Jl;rw[vi];rfl
def zwe(x:Int):HV x=J (cT x):=by
 unfold HV;rw[qs];rfl
def zA4(s:ByteArray):(oN s).all cT=O:=by
 rw[bc];intro x e;have:=zx2 s x e;exact jk.2 ⟨by omega,by omega⟩
def AG(c s k:Int):Int:=(c*s+k+1)%2147483647
def ug(p:Int×Int)(x:Int):Int×Int:=(AG 48271 (AG 48271 p.1 (x%2147483648)) (x/2147483648),AG 69621 (AG 69621 p.2 (x%2147483648)) (x/2147483648))
def GT(l:List Int):Int:=let p:=(((l.length:Int)::l).foldl ug (1,2));p.1*2147483648+p.2
def Fa(c s k:Int):0<=AG c s k/\AG c s k<=2147483646:=by unfold AG;omega
def Bh{c s k:Int}(e:c=48271\/c=69621)(j:0<=s/\s<=2147483646)(g:0<=k/\k<=2147483648):(i64.wrap ((i64.wrap ((i64.wrap (c*s))+k))+1)).tmod 2147483647=AG c s k:=by
 rcases e with rfl|rfl
 ·rw[aK (n:=48271*s) (by omega) (by omega),aK (n:=48271*s+k) (by omega) (by omega),aK (by omega) (by omega),ju (by omega)];rfl
 rw[aK (n:=69621*s) (by omega) (by omega),aK (n:=69621*s+k) (by omega) (by omega),aK (by omega) (by omega),ju (by omega)];rfl
def NI(p:Int×Int):Prop:=(0<=p.1/\p.1<=2147483646)/\(0<=p.2/\p.2<=2147483646)
def zA9(p:Int×Int)(x:Int):NI (ug p x):=⟨Fa _ _ _,Fa _ _ _⟩
theorem G4:∀(l:List Int) (p:Int×Int),NI p->NI (l.foldl ug p)
 |[],_,h=>h
 |x::l,p,_=>G4 l _ (zA9 p x)
def zxu(l:List Int):cT (GT l)=O:=by
 obtain⟨e,g⟩:=G4 ((l.length:Int)::l) (1,2) ⟨by decide,by decide⟩;refine jk.2 ?_;unfold GT;dsimp only;omega
def XT{p:Int×Int}(A:NI p)(e:cT x=O):G5 p.1 p.2 x=J (ug p x):=by
 obtain⟨v,z⟩:=A;have e:=jk.1 e;have o:x.tmod 2147483648=x%2147483648:=ju e.1
 have r:i64.wrap (x.tdiv 2147483648)=x/2147483648:=by
  rw[Wr e.1,aK (by omega) (by omega)]
 have g:0<=x%2147483648/\x%2147483648<=2147483648:=by omega
 have j:0<=x/2147483648/\x/2147483648<=2147483648:=by omega
 have u:ix [x%2147483648,x/2147483648] 0=J (x%2147483648):=rfl;have C:ix [x%2147483648,x/2147483648] 1=J (x/2147483648):=rfl;unfold G5;rw[o,r,aP,O2];simp only[fG,iC,show decide ((0:Int)<((0+1+1:Nat):Int))=O from rfl,e7,u,aP,Bh (.inl rfl) v g,Bh (.inr rfl) z g];rw[O2];simp only[show i64.wrap (0+1)=1 from rfl,show decide ((1:Int)<((0+1+1:Nat):Int))=O from rfl,e7,C,aP,Bh (.inl rfl) (Fa _ _ _) j,Bh (.inr rfl) (Fa _ _ _) j];rw[O2];simp only[show i64.wrap (1+1)=2 from rfl,show decide ((2:Int)<((0+1+1:Nat):Int))=Z from rfl,lL,ja,aP];rfl
def Xh(h:l.all cT=O)(e:k<l.length):cT l[k]=O:=bc.1 h _ (eL e)
def zAG(r:l.length<=1000000000000)(hd:l.all cT=O):HT l=J (GT l):=by
 unfold HT;have g:=XT (p:=(1,2)) (x:=(l.length:Int)) ⟨by decide,by decide⟩ (jk.2 ⟨by omega,by omega⟩);refine bW (ag g (ax (ψ:=λp=>p=((l.length:Int)::l).foldl ug (1,2)) (eI (λn p=>p=((l.length:Int)::l.take n).foldl ug (1,2)) rfl ?_ ?_) ?_))
 ·rintro n p e rfl;refine bB e (ag (XT (G4 _ _ ⟨by decide,by decide⟩) (Xh hd e)) (ak ?_));show ug _ _=_;rw[<-a1U e,<-tJ,HP];rfl
 ·rintro p rfl;show(((l.length:Int)::l.take l.length).foldl ug (1,2))=_;rw[jQ]
 rintro p rfl;obtain⟨j,o⟩:=G4 ((l.length:Int)::l) (1,2) ⟨by decide,by decide⟩;refine ak ?_;rw[aK (n:=_*2147483648) (by omega) (by omega),aK (by omega) (by omega)];rfl
def zyn(e:cT x=O):i64.wrap (BitVec.ofInt IntKind.i64.bits x&&&BitVec.ofInt IntKind.i64.bits 2147483647).toNat=x%2147483648:=by
 have e:=jk.1 e;obtain⟨n,rfl⟩:=fF e.1
 have o:(BitVec.ofInt IntKind.i64.bits ((n:Nat):Int)&&&BitVec.ofInt IntKind.i64.bits 2147483647).toNat=n%2147483648:=by
  rw[a1L]
  have g:(BitVec.ofInt IntKind.i64.bits (n:Int)).toNat=n:=by
   rw[BitVec.toNat_ofInt];have:IntKind.i64.bits=64:=rfl;rw[this];omega
  have j:(BitVec.ofInt IntKind.i64.bits 2147483647).toNat=2^31-1:=by decide
  rw[g,j,Nat.and_two_pow_sub_one_eq_mod]
 rw[o,aK (by omega) (by omega)];omega
def zBS(z:l.length<=1000000000000)(hd:l.all cT=O):Ll l=J (GT l):=by
 unfold Ll
 have r:((l.length:Int)::l).all cT=O:=by
  rw[xM,hd,BZ];exact jk.2 ⟨by omega,by omega⟩
 refine bW (aJ (by simp only[fG,iC];omega) (ag rfl (ax (ψ:=λp=>p=((l.length:Int)::l).foldl ug (1,2)) (eI (λn p=>p=(((l.length:Int)::l).take n).foldl ug (1,2)) rfl ?_ ?_) ?_)))
 ·rintro n p e rfl;have g:=G4 ((((l.length:Int)::l)).take n) (1,2) ⟨by decide,by decide⟩;have dg:=Xh r e;have b:=jk.1 dg;have o:(((l.length:Int)::l)[n]).fdiv 2147483648=((l.length:Int)::l)[n]/2147483648:=a1M _ (by omega);have j:n<((l.length:Int)::l).length:=e;refine bB e (ak ?_);show(_,_)=_;simp only[a1B]
  rw[zyn dg,o,Bh (.inl rfl) g.1 (by omega),Bh (.inr rfl) g.2 (by omega),Bh (.inl rfl) (Fa _ _ _) (by omega),Bh (.inr rfl) (Fa _ _ _) (by omega),
   <-a1U j,HP]
  rfl
 ·rintro p rfl;show((((l.length:Int)::l).take ([(l.length:Int)]++l).length).foldl ug (1,2))=_;rw[a1B,jQ]
 rintro p rfl;obtain⟨u,v⟩:=G4 ((l.length:Int)::l) (1,2) ⟨by decide,by decide⟩;refine ak ?_;rw[aK (n:=_*2147483648) (by omega) (by omega),aK (by omega) (by omega)];rfl
def um(s:ByteArray)(l:List Int):Int:=GT ((s.size:Int)::oN s++l)
def RJ(s:ByteArray)(l:List Int):cT (um s l)=O:=zxu _
def si(s:ByteArray)(l:List Int):Bool:=decide (s.size<=40)&&decide (1+s.size+l.length<=400)&&l.all cT
def WO(e:s.size<=1000000):((s.size:Int)::oN s++l).all cT=l.all cT:=by
 rw[tJ,xM,kU,zA4,jk.2 ⟨by omega,by omega⟩,jt,jt]
def Xd(e:s.size<=1000000)(g:l.length<=100000000000)(hd:l.all cT=O):EF s l=J (um s l):=by
 unfold EF;rw[Zw s l e (by omega),aP,zAG (by simp[Cj];omega) (by rw[WO e];exact hd)];rfl
def zsF(l:List Int):LG l=J (decide (l.length<=400)&&l.all cT):=by
 unfold LG
 have e:P3 l=J (l.all cT):=RN (f:=ID) λx _=>by
  unfold ID;rw[zwx];rfl
 rw[e];by_cases h:l.length<=400
 ·rw[aE (by simp;omega)];simp[h]
 rw[aA (by simp;omega)];simp[h]
def zwK(l:List Int):Ka l=J (if(decide (l.length<=400)&&l.all cT)=O then(GT l,O)else(0,Z)):=by
 unfold Ka;rw[zsF,aP];cases h:(decide (l.length<=400)&&l.all cT)with
 |true=>
  simp only[bC,eE]at h;rw[zBS (by omega) h.2];rfl
 |false=>rfl
def zlU(s:ByteArray)(l:List Int):DS s l=J (if si s l=O then(um s l,O)else(0,Z)):=by
 unfold DS;by_cases g:s.size<=40
 ·by_cases o:l.length<=400
  ·rw[aA (by simp;omega),aP,aA (by simp;omega),zvG s l (by omega) (by omega),aP,zwK,WO (by omega)];have e:((s.size:Int)::oN s++l).length=1+s.size+l.length:=by simp[Cj];omega
   rw[e];have j:si s l=(decide (1+s.size+l.length<=400)&&l.all cT):=by simp[si,g]
   rw[j];cases decide (1+s.size+l.length<=400)<;>cases l.all cT<;>rfl
  rw[aA (by simp;omega),aP,aE (by simp;omega)]
  have:si s l=Z:=by
   have:¬1+s.size+l.length<=400:=by omega
   simp[si,this]
  rw[this];rfl
 rw[aE (by simp;omega),aP,aE rfl];have:si s l=Z:=by simp[si,g]
 rw[this];rfl
theorem Zj{p:Nat}(j:Pr p){b:Nat}(r:1<=b)(o:b<p):∀e:Nat,b^e%p≠0
 |0=>by
  have:=j.1;rw[Wu,oG (by omega)];omega
 |e+1=>λh=>by
  have u:((b^e:Nat):Int)%(p:Int)=0\/(b:Int)%(p:Int)=0:=F5 j (by
   rw[<-Ev,<-Nat.pow_succ,<-pS,h];rfl)
  rcases u with g|g
  ·exact Zj j r o e (by rw[<-pS]at g;omega)
  ·rw[<-pS,oG o]at g;omega
def AB(gr:am)(s:ByteArray)(k c:Int):Int:=1+um s [gr.P,gr.Q,gr.G,k,c]%(gr.P-1)
def k8(gr:am)(s:ByteArray)(k c:Int):Int:=(((AB gr s k c).toNat^((gr.P-1)/gr.Q).toNat%gr.P.toNat:Nat):Int)
def U4(k:ap gr)(s:ByteArray)(i c:Int):1<=AB gr s i c/\AB gr s i c<=gr.P-1:=by
 have j:=k.p;have e:=oJ (um s [gr.P,gr.Q,gr.G,i,c]) (show gr.P-1≠0 by omega);have g:=tL (um s [gr.P,gr.Q,gr.G,i,c]) (show 0<gr.P-1 by omega);unfold AB;omega
def UE(k:ap gr)(s:ByteArray)(i c:Int):1<=k8 gr s i c/\k8 gr s i c<=gr.P-1:=by
 have j:=k.p;have o:=U4 k s i c;have e:=Zj k.pp (b:=(AB gr s i c).toNat) (by omega) (by omega) ((gr.P-1)/gr.Q).toNat;have g:=nc ((AB gr s i c).toNat^((gr.P-1)/gr.Q).toNat) (show 0<gr.P.toNat by omega);unfold k8;omega
def zup(k:ap gr)(s:ByteArray)(i c:Int):
 ou (i64.wrap (1+((um s [gr.P,gr.Q,gr.G,i,c]).tmod (i64.wrap (gr.P-1))))) (i64.wrap ((i64.wrap (gr.P-1)).tdiv gr.Q)) gr.P=J (k8 gr s i c)/\
 l4 (i64.wrap (1+((um s [gr.P,gr.Q,gr.G,i,c]).tmod (i64.wrap (gr.P-1))))) (i64.wrap ((i64.wrap (gr.P-1)).tdiv gr.Q)) gr.P=J (k8 gr s i c):=by
 have v:=k.p;have z:=k.q;have hd:=jk.1 (RJ s [gr.P,gr.Q,gr.G,i,c]);have r:=U4 k s i c;have e:i64.wrap (gr.P-1)=gr.P-1:=aK (by omega) (by omega)
 have g:i64.wrap (1+((um s [gr.P,gr.Q,gr.G,i,c]).tmod (gr.P-1)))=AB gr s i c:=by
  rw[ju hd.1];unfold AB at r⊢;exact aK (by omega) (by omega)
 have u:(gr.P-1)/gr.Q<=gr.P-1:=Int.ediv_le_self _ (by omega);have o:0<=(gr.P-1)/gr.Q:=Int.ediv_nonneg (by omega) (by omega)
 have j:i64.wrap ((gr.P-1).tdiv gr.Q)=(gr.P-1)/gr.Q:=by
  rw[Wr (by omega),aK (by omega) (by omega)]
 rw[e,g,j];exact qy (by omega) (by omega) (by omega) (by omega) o (by omega)
def W5(k:ap gr){c:Int}(e:cT i=O)(g:0<=c/\c<=1000):[gr.P,gr.Q,gr.G,i,c].all cT=O:=by
 have o:=k.p;have r:=k.q;have j:=k.g;simp only[xM,HS,BZ,bC];exact⟨jk.2 (by omega),jk.2 (by omega),jk.2 (by omega),e,jk.2 (by omega)⟩
def o8(gr:am)(s:ByteArray)(i y:Int):Prop:=(∃c:Nat,c<1000/\y=k8 gr s i c/\k8 gr s i c≠1/\∀j:Nat,j<c->k8 gr s i j=1)\/(y=0/\∀j:Nat,j<1000->k8 gr s i j=1)
def Jp(k:ap gr)(r:o8 gr s i x)(u:o8 gr s i y):x=y:=by
 rcases r with⟨c,v,rfl,j,e⟩|⟨rfl,e⟩<;>rcases u with⟨d,hd,rfl,o,g⟩|⟨rfl,g⟩
 ·rcases Nat.lt_trichotomy c d with h|h|h
  ·exact absurd (g c h) j
  ·rw[h]
  exact absurd (e d h) o
 ·exact absurd (g c v) j
 ·exact absurd (e d hd) o
 rfl
def zAQ(k:ap gr)(e:o8 gr s i x):0<=x/\x<=gr.P-1:=by
 have r:=k.p;rcases e with⟨c,o,rfl,j,g⟩|⟨rfl,g⟩
 ·have:=UE k s i c;omega
 omega
def zwm(k:ap gr)(C:s.size<=40)(u:cT i=O):Rn (A6 gr s i) (o8 gr s i):=by
 have z:=k.p;have A:=k.q;unfold A6
 refine ax (ψ:=λx=>(x=.inl ()/\∀j:Nat,j<1000->k8 gr s i j=1)\/∃c:Nat,c<1000/\x=.inr (k8 gr s i c)/\k8 gr s i c≠1/\∀j:Nat,j<c->k8 gr s i j=1)
  (kZ 1000 (λn p=>p=(n:Int)/\n<=1000/\∀j:Nat,j<n->k8 gr s i j=1) ⟨rfl,by omega,λj v=>by omega⟩ ?_ ?_) ?_
 ·rintro n p o ⟨rfl,_,e⟩;refine aU (λ_=>?_) λh=>absurd h (by simp;omega)
  refine ag (Xd (by omega) (by simp) (W5 k u (by omega))) (aJ (by rw[aK (by omega) (by omega)];omega) (aJ (by omega) (ag (zup k s i n).2 (aU (λh=>ak (.inr ⟨n,o,rfl,by simpa using h,e⟩)) λh=>ak ⟨by rw[aK (by omega) (by omega)];rfl,o,λj v=>?_⟩))));rcases dS j n with g|g
  ·exact e j g
  have:j=n:=by omega
  subst this;simpa using h
 ·rintro p ⟨rfl,_,e⟩;refine aU (λh=>absurd h (by simp)) λ_=>ak (.inl ⟨rfl,e⟩)
 rintro x (⟨rfl,h⟩|⟨c,r,rfl,h⟩)
 ·exact ak (.inr ⟨rfl,h⟩)
 exact ak (.inl ⟨c,r,rfl,h⟩)
def zyK(k:ap gr)(E:s.size<=40)(v:cT i=O):Rn (yM gr s i) (λx=>o8 gr s i x.1/\x.2=decide (0<x.1)):=by
 have C:=k.p;have D:=k.q;unfold yM
 refine ax (ψ:=λx=>(x=.inl ()/\∀j:Nat,j<1000->k8 gr s i j=1)\/∃c:Nat,c<1000/\x=.inr (k8 gr s i c,O)/\k8 gr s i c≠1/\∀j:Nat,j<c->k8 gr s i j=1)
  (kZ 1000 (λn p=>p=(n:Int)/\n<=1000/\∀j:Nat,j<n->k8 gr s i j=1) ⟨rfl,by omega,λj z=>by omega⟩ ?_ ?_) ?_
 ·rintro n p o ⟨rfl,_,e⟩;refine aU (λ_=>?_) λh=>absurd h (by simp;omega)
  have A:si s [gr.P,gr.Q,gr.G,i,(n:Int)]=O:=by
   have:=W5 k (i:=i) (c:=n) v (by omega);simp only[si,this,BZ,fG,iC,bC,eE];omega
  have r:DS s [gr.P,gr.Q,gr.G,i,(n:Int)]=J (um s [gr.P,gr.Q,gr.G,i,(n:Int)],O):=by rw[zlU,aE A]
  refine ag r (bQ rfl (aJ (by rw[aK (by omega) (by omega)];omega) (aJ (by omega) (ag (zup k s i n).1 (aU (λh=>ak (.inr ⟨n,o,rfl,by simpa using h,e⟩)) λh=>ak ⟨by rw[aK (by omega) (by omega)];rfl,o,λj z=>?_⟩)))));rcases dS j n with g|g
  ·exact e j g
  have:j=n:=by omega
  subst this;simpa using h
 ·rintro p ⟨rfl,_,e⟩;refine aU (λh=>absurd h (by simp)) λ_=>ak (.inl ⟨rfl,e⟩)
 rintro x (⟨rfl,h⟩|⟨c,u,rfl,h⟩)
 ·exact ak ⟨.inr ⟨rfl,h⟩,rfl⟩
 have:=UE k s i c;exact ak ⟨.inl ⟨c,u,rfl,h⟩,by symm;simp;omega⟩
def Hi(k:ap gr)(r:s.size<=40)(o:cT i=O):∃y,A6 gr s i=J y/\yM gr s i=J (y,decide (0<y))/\o8 gr s i y:=by
 obtain⟨y,u,e⟩:=zwm k r o;obtain⟨⟨z,t⟩,v,g,j⟩:=zyK k r o;refine⟨y,u,?_,e⟩;simp only at g j;have:z=y:=Jp k g e;subst this;rw[v,j]
def zuX{g:Type}{R:Nat->g->Prop}{l:List g}{z:g}(r:l.length=n)(h:∀j (h:j<l.length),R j l[j])(u:R n z):∀j (h:j<(l++[z]).length),R j (l++[z])[j]:=by
 intro j o;rw[List.getElem_append];split
 ·exact h j _
 have o:j<n+1:=by simpa[r]using o
 have e:j=n:=by omega
 subst e;simpa[r]using u
def EX(gr:am)(n:Nat)(l:List Int):Prop:=l.length=n/\∀j (h:j<l.length),o8 gr ⟨#[104,115]⟩ j l[j]
def zBo(k:ap gr)(hn:n<=24):∃b t,pX gr (n:Int)=J (b,t)/\kR gr (n:Int)=J (b,t)/\
 (t=O->o8 gr ⟨#[104]⟩ 0 b.H/\0<b.H/\EX gr n b.Hs/\∀x∈b.Hs,0<x):=by
 have hp:=k.p;obtain⟨y,hy1,EO,GF⟩:=Hi k (s:=⟨#[104]⟩) (by decide) (i:=0) rfl;have P:wM gr=O:=NQ.2 k;have D:∀m:Nat,m<24->∃z,A6 gr ⟨#[104,115]⟩ m=J z/\yM gr ⟨#[104,115]⟩ m=J (z,decide (0<z))/\o8 gr ⟨#[104,115]⟩ m z:=λm A=>Hi k (by decide) (jk.2 ⟨by omega,by omega⟩)
 have Sx1:Rn (Ii gr ⟨#[104,115]⟩ (n:Int)) (λx=>(x.2=O/\EX gr n x.1/\∀z∈x.1,0<z)\/(x=([],Z)/\∃m:Nat,m<n/\o8 gr ⟨#[104,115]⟩ m 0)):=by
  unfold Ii;refine ax (ψ:=λb=>b=Z) ?_ ?_
  ·refine ag (Lk gr) (bQ (by rw[P];rfl) (bQ rfl (ag (qs _ _ _) (ak ?_))));simp;omega
  ·rintro _ rfl;refine bQ rfl (ax (ψ:=λx=>(∃l,x=.inl l/\EX gr n l/\∀z∈l,0<z)\/(x=.inr ([],Z)/\∃m:Nat,m<n/\o8 gr ⟨#[104,115]⟩ m 0)) (kZ n (λm p=>p.2=(m:Int)/\m<=n/\EX gr m p.1/\∀z∈p.1,0<z) ⟨rfl,by omega,⟨rfl,λj Q=>by simp at Q⟩,λz hz=>by simp at hz⟩ ?_ ?_) ?_)
   ·rintro m ⟨l,c⟩ A ⟨o,_,g,M⟩;simp only at o g M;subst o;obtain⟨z,U,z2,H⟩:=D m (by omega);have zb:=zAQ k H;refine aU (λ_=>?_) λh=>absurd h (by simp;omega)
    refine ag U (aU (λh=>ak (.inr ⟨rfl,m,A,?_⟩)) λh=>aJ ?_ (ak ⟨?_,A,⟨by simp[g.1],zuX g.1 g.2 H⟩,λw hw=>?_⟩))
    ·have:z=0:=by simpa using h
     rw[<-this];exact H
    ·have:=g.1;simp only;omega
    ·show i64.wrap _=_;rw[aK (by omega) (by omega)];rfl
    ·rcases ke.1 hw with o|o
     ·exact M w o
     ·have:w=z:=by simpa using o
      subst this;have:¬w=0:=by simpa using h
      omega
   ·rintro⟨l,_⟩ ⟨rfl,_,g⟩;exact aU (λh=>absurd h (by simp)) λ_=>ak (.inl ⟨l,rfl,g⟩)
   ·rintro x (⟨l,rfl,h⟩|⟨rfl,h⟩)
    ·exact ak (.inl ⟨rfl,h⟩)
    ·exact ak (.inr ⟨rfl,h⟩)
 have Ix1:Rn (dO (σ:=Int×List Int×Bool×Int) (β:=Int×List Int×Bool) (λr=>
 if decide (r.2.2.2<(n:Int))=O then(
 (yM gr (⟨#[104,115]⟩:ByteArray) r.2.2.2).bind λR=>
 ((if r.2.2.1=O then(
 J R.2)else(
 J Z):Option Bool).bind λlw=>
 gd ((r.2.1.length+1)*8<=140737488355328/\r.2.1.length+1<=4611686018427387904)<|
 J (.go (r.1,r.2.1++[R.1],lw,i64.wrap (r.2.2.2+1)))))else(
 J (.out (r.1,r.2.1,r.2.2.1)))) (y,[],O,0)) (λx=>x.1=y/\EX gr n x.2.1/\x.2.2=x.2.1.all (λz=>decide (0<z))):=by
  refine kZ n (λm p=>p.1=y/\p.2.2.2=(m:Int)/\m<=n/\EX gr m p.2.1/\p.2.2.1=p.2.1.all (λz=>decide (0<z))) ⟨rfl,rfl,by omega,⟨rfl,λj Q=>by simp at Q⟩,rfl⟩ ?_ ?_
  ·rintro m ⟨w,l,t,c⟩ A ⟨o,v,_,g,u⟩;simp only at o v g u;subst o v u;obtain⟨z,U,z2,H⟩:=D m (by omega);refine aU (λ_=>?_) λh=>absurd h (by simp;omega)
   refine ag z2 (ax (ψ:=λb=>b=(l.all (λz=>decide (0<z))&&decide (0<z))) (aU (λh=>ak ?_) λh=>ak ?_) ?_)
   ·simp only at h;rw[h];rfl
   ·simp only at h;rw[h];rfl
   ·rintro _ rfl;refine aJ (by have:=g.1;dsimp only;omega) (ak ⟨rfl,?_,A,⟨by simp[g.1],zuX g.1 g.2 H⟩,?_⟩)
    ·show i64.wrap ((m:Int)+1)=_;rw[aK (by omega) (by omega)];rfl
    ·show _=(l++[z]).all _;simp
  ·rintro⟨w,l,t,c⟩ ⟨o,v,_,g,u⟩;simp only at o v g u;subst o v u;exact aU (λh=>absurd h (by simp)) λ_=>ak ⟨rfl,g,rfl⟩
 obtain⟨⟨b,l,t⟩,i1,S,C,F⟩:=Ix1;simp only at S C F;subst S;obtain⟨⟨L,N⟩,s1,s2⟩:=Sx1
 have E:N=t/\(t=O->L=l/\∀z∈l,0<z):=by
  rcases s2 with⟨o,v,u⟩|⟨o,m,A,u⟩
  ·simp only at o v u;have e:L=l:=List.ext_getElem (v.1.trans C.1.symm) λj a c=>Jp k (v.2 j a) (C.2 j c)
   subst e;have:L.all (λz=>decide (0<z))=O:=by simpa using u
   rw[this]at F;exact⟨by rw[o,F],λ_=>⟨rfl,u⟩⟩
  ·cases o;have T:m<l.length:=by rw[C.1];exact A
   have:l[m]=0:=Jp k (C.2 m T) u
   have hf:l.all (λz=>decide (0<z))=Z:=by
    rw[zx];exact⟨l[m],eL T,by simp[this]⟩
   rw[hf]at F;exact⟨F.symm,λh=>by rw[F]at h;cases h⟩
 have K:pX gr (n:Int)=J (if(decide (0<b)&&N)=O then(⟨b,L⟩,O)else(⟨0,[]⟩,Z)):=by
  have g:Jc gr ⟨#[104]⟩ 0=J (b,decide (0<b)):=by
   unfold Jc;rw[Lk,P];simp only[aP,oI,lL,ja];rw[aA (show¬(decide (40<(((⟨#[104]⟩:ByteArray).size:Nat):Int))=O)by decide),zwe,aP,aP,aA (by decide),hy1,aP]
  unfold pX;rw[Lk,P];simp only[aP,oI,lL,ja];rw[qs,aP,aP,aA (by simp;omega),g,aP,s1,aP];cases decide (0<b)<;>cases N<;>rfl
 have I:kR gr (n:Int)=J (if(decide (0<b)&&t)=O then(⟨b,l⟩,O)else(⟨0,[]⟩,Z)):=by
  unfold kR;rw[EO,aP,i1,aP];cases decide (0<b)<;>cases t<;>rfl
 obtain⟨rfl,W⟩:=E;cases G:(decide (0<b)&&N)with
 |false=>
  rw[G]at K I;exact⟨_,_,K,I,λh=>by cases h⟩
 |true=>
  rw[G]at K I;simp only[bC,eE]at G;obtain⟨rfl,M⟩:=W G.2;exact⟨_,_,K,I,λ_=>⟨GF,G.1,C,M⟩⟩
def zCX{r e u:Type}{l:List r}{f:r->e}{o:Int->List e->Option (fi (List e) u)}{stop:List e->u}(g:List e)(v:∀k (h:k<l.length) (s:List e),s.length=g.length+k->o (k:Int) s=J (.go (s++[f l[k]]))):
 aO o stop l.length 0 g=J (stop (g++l.map f)):=by
 refine bW (eI (λk s=>s=g++(l.take k).map f/\k<=l.length) ⟨by simp,by omega⟩ ?_ ?_)
 ·rintro k s j ⟨rfl,_⟩;refine⟨_,v k j _ (by simp;omega),?_,j⟩;rw[nT j,lN,gO];rfl
 rintro s ⟨rfl,_⟩;simp
def zBK{j:Type}{m:Nat}(p:Nat->Bool)(c d:j){body:Int->Unit->Option (fi Unit (Unit ⊕ j))}(h:∀k,k<m->body (k:Int) ()=J (if p k=O then .go ()else .out (.inr c))):
 (aO body (λ_=>.inl ()) m 0 ()).bind (Sum.elim (λ_=>J d) J)=J (if(List.range m).all p=O then d else c):=by
 rcases IM (body:=body) m p (λ_=>c) h with⟨e,g⟩|⟨k,g,o,u,e⟩
 ·have:(List.range m).all p=O:=by
   rw[bc];intro x r;exact g x (kT.1 r)
  rw[e,this];rfl
 have:(List.range m).all p=Z:=by
  rw[zx];exact⟨k,kT.2 g,by simp[o]⟩
 rw[e,this];rfl
def di(a b x:Int):Bool:=decide (a<=x)&&decide (x<=b)
def KQ :di a b x=O↔a<=x/\x<=b:=by simp[di]
def zun(a b:Bool):(if a=O then J b else J Z)=J (a&&b):=by cases a<;>rfl
def zBq(e:l.length<=1000000000000):P4 l=J (oe l):=X2 zu6 l e
def IW(h:l.length<=1048576):Bl l=J l:=d6 (by omega)
def zBg(h:l.length<=1048576):yk l=J l:=d6 (by omega)
def FB{e:Type}(f:Nat->e->e):Nat->e->e
 |0,s=>s
 |n+1,s=>f n (FB f n s)
theorem OL{e:Type}{f:Nat->e->e}{I:Nat->e->Prop}{s0:e}(g:I 0 s0){m:Nat}(h:∀k s,k<m->I k s->I (k+1) (f k s)):∀k,k<=m->I k (FB f k s0)
 |0,_=>g
 |k+1,j=>h k _ (by omega) (OL g h k (by omega))
def zCP{e r:Type}{j:Int->e->Option (fi e r)}{stop:e->r}{m:Nat}{g:e}(f:Nat->e->e)(I:Nat->e->Prop)(u:I 0 g)(v:∀k s,k<m->I k s->I (k+1) (f k s))(z:∀k s,k<m->I k s->j (k:Int) s=J (.go (f k s))):
 aO j stop m 0 g=J (stop (FB f m g)):=by
 refine bW (eI (λk s=>s=FB f k g/\k<=m) ⟨rfl,by omega⟩ ?_ ?_)
 ·rintro k s o ⟨rfl,_⟩;exact⟨_,z k _ o (OL u v k (by omega)),rfl,o⟩
 rintro s ⟨rfl,_⟩;rfl
def RD{e:Type}{L:List (List e)}{i:Nat}(h:i<L.length):(L.take (i+1)).flatten=(L.take i).flatten++L[i]:=by
 rw[nT h,a1u];simp
def zsG{g:Type}(L:List (List g))(i:Nat):(L.take i).flatten.length<=L.flatten.length:=by
 have e:L.flatten=(L.take i).flatten++(L.drop i).flatten:=by rw[<-a1u,Mp]
 rw[e,cy];omega
def Kq(L:List (List Int))(h:L.flatten.length<=1000000000000):se L=J L.flatten:=by
 unfold se;refine bW (ax (ψ:=λn=>n=(L.flatten.length:Int)) (eI (λi s=>s=((L.take i).flatten.length:Int)) rfl ?_ ?_) ?_)
 ·rintro i s g rfl;have e:=iB List.length (RD g);rw[cy]at e;have j:=zsG L (i+1);refine bB g ?_;rw[aK (by omega) (by omega)];refine bQ (by simp only[xL];omega) (ak ?_);show _=_;omega
 ·rintro s rfl;rw[jQ]
 rintro n rfl;refine aJ (by omega) (ax (ψ:=λr=>r=L.flatten) (eI (λi s=>s=(L.take i).flatten) rfl ?_ ?_) λr o=>ak o)
 ·rintro i s g rfl;have e:=iB List.length (RD g);rw[cy]at e;have j:=zsG L (i+1);refine bB g (aJ (by omega) (ak ?_));show _=_;rw[RD g]
 rintro s rfl;rw[jQ]
def chG(gr:am)(s:ByteArray)(l:List Int):Int:=um s ([gr.P,gr.Q,gr.G]++l)%gr.Q
def mQ(k:ap gr)(s:ByteArray)(l:List Int):0<=chG gr s l/\chG gr s l<gr.Q:=by
 have:=k.q;exact⟨oJ _ (by omega),tL _ (by omega)⟩
def zuD(k:ap gr) :([gr.P,gr.Q,gr.G]++l).all cT=l.all cT:=by
 have g:=k.p;have j:=k.q;have e:=k.g;rw[kU]
 have:[gr.P,gr.Q,gr.G].all cT=O:=by
  simp only[xM,HS,BZ,bC];exact⟨jk.2 (by omega),jk.2 (by omega),jk.2 (by omega)⟩
 rw[this,jt]
def Qh(k:ap gr)(g:s.size<=1000000)(j:l.length<=10000000000)(hd:l.all cT=O):qk gr s l=J (chG gr s l):=by
 have o:=k.q;have e:=jk.1 (RJ s ([gr.P,gr.Q,gr.G]++l));unfold qk;rw[d6 (by simp only[fG,iC];omega),Xd g (by simp only[cy,fG,iC];omega) (by rw[zuD k];exact hd),aP,d6 (by omega),ju e.1];rfl
def P7(k:ap gr)(s:ByteArray)(g:l.length<=10000000000):mW gr s l=J (if si s ([gr.P,gr.Q,gr.G]++l)=O then(chG gr s l,O)else(0,Z)):=by
 have j:=k.q;have e:=jk.1 (RJ s ([gr.P,gr.Q,gr.G]++l));unfold mW;rw[d6 (by simp only[fG,iC];omega),zlU,aP];cases si s ([gr.P,gr.Q,gr.G]++l)with
 |false=>rfl
 |true=>
  simp only[e7,oI,lL,ja];rw[d6 (by omega),ju e.1];rfl
def Nf(k:ap gr)(g:s.size<=40)(e:4+s.size+l.length<=400)(hd:l.all cT=O):si s ([gr.P,gr.Q,gr.G]++l)=O:=by
 unfold si;rw[zuD k,hd,BZ,bC,eE,eE];simp only[cy,fG,iC];omega
def pJ(k:ap gr)(h:l.all (aL gr)=O):l.all cT=O:=by
 have g:=k.p;rw[bc]at h⊢;intro x e;have:=ru (h x e);exact jk.2 (by omega)
def zaP(gr:am):List Int->List Int->Int->Int
 |x::l,e::m,o=>zaP gr l m (o*av gr x e%gr.P)
 |_,_,o=>o
theorem Nl(gr:am):∀(l m:List Int) (x e o:Int),l.length=m.length->zaP gr (l++[x]) (m++[e]) o=zaP gr l m o*av gr x e%gr.P
 |[],[],x,e,o,_=>rfl
 |y::l,f::m,x,e,o,h=>Nl gr l m x e _ (by simpa using h)
theorem V2(gr:am):∀(l m:List Int) (o:Int),zaP gr l (m.take l.length) o=zaP gr l m o
 |[],m,o=>by cases m<;>rfl
 |y::l,[],o=>rfl
 |y::l,f::m,o=>V2 gr l m _
theorem UH{gr:am}(h:0<gr.P):∀(l m:List Int) (o:Int),0<=o/\o<gr.P->0<=zaP gr l m o/\zaP gr l m o<gr.P
 |x::l,e::m,o,_=>UH h l m _ ⟨oJ _ (by omega),tL _ h⟩
 |[],_,o,g=>g
 |_::_,[],o,g=>g
def LK(k:ap gr)(e:0<=x/\x<gr.P)(j:0<=y):aQ gr [x,y]=x*y%gr.P:=by
 have g:=k.p;simp only[aQ,Qt,List.foldl_nil,WG];rw[qS e.1 e.2]
def oZ(k:ap gr)(v:∀x∈l,0<=x/\x<=2000000000)(A:l.length<=m.length):mc gr l m=J (zaP gr l m 1):=by
 have C:=k.p;unfold mc;refine bW (ax (ψ:=λb=>b=zaP gr l m 1) (eI (λi s=>s=zaP gr (l.take i) (m.take i) 1) rfl ?_ ?_) λb u=>ak u)
 ·rintro i s e rfl;have r:=UH (gr:=gr) (by omega) (l.take i) (m.take i) 1 (by omega);have g:=v l[i] (eL e);have j:=zX k l[i] (m[i]'(by omega));refine bB e (bB (show i<m.length by omega) (ag (zDa k g.1 g.2 _) (aJ (by omega) (ak ?_))));show _=zaP gr (l.take (i+1)) (m.take (i+1)) 1;rw[nT e,nT (show i<m.length by omega),Nl _ _ _ _ _ _ (by simp;omega)];have o:=tM r.1 j.1;have z:zaP gr (l.take i) (m.take i) 1*av gr l[i] (m[i]'(by omega))<=2000000000*2000000000:=xO (by omega) (by omega) j.1 (by omega);rw[aK (by omega) (by omega),ju o]
 rintro s rfl;rw[jQ,V2]
def pC(k:ap gr)(u:∀x∈l,0<=x/\x<=2000000000)(z:l.length<=m.length):lT gr l m=J (zaP gr l m 1):=by
 have A:=k.p;unfold lT;refine bW (ax (ψ:=λb=>b=zaP gr l m 1) (eI (λi s=>s=zaP gr (l.take i) (m.take i) 1) rfl ?_ ?_) λb r=>ak r)
 ·rintro i s e rfl;have o:=UH (gr:=gr) (by omega) (l.take i) (m.take i) 1 (by omega);have g:=u l[i] (eL e);have v:=zX k l[i] (m[i]'(by omega));refine bB e (bB (show i<m.length by omega) (ag (G8 k g.1 g.2 _).1 (ag (Ax k ?_) (ak ?_))))
  ·intro y j;simp only[gp,kg,kh]at j;rcases j with rfl|rfl<;>omega
  show _=zaP gr (l.take (i+1)) (m.take (i+1)) 1;rw[nT e,nT (show i<m.length by omega),Nl _ _ _ _ _ _ (by simp;omega),LK k o v.1]
 rintro s rfl;rw[jQ,V2]
structure a1g (gr:am) (bs:List (List Int)):Prop where
 n:1<=bs.length/\bs.length<=8
 m:1<=(bs.headD []).length/\(bs.headD []).length<=8
 r:∀r∈bs,r.length=(bs.headD []).length/\r.all (aL gr)=O
def a1g.zH(k:ap gr){g:List (List Int)}(h:a1g gr g):g.flatten.all cT=O:=by
 rw[bc];intro x e;obtain⟨r,j,e⟩:=Mg.1 e;exact bc.1 (pJ k (h.r r j).2) x e
def zAE(k:ap gr)(h:l.all (aL gr)=O):∀x∈l,0<=x/\x<=2000000000:=λx e=>by
 have g:=k.p;have:=ru (bc.1 h x e);omega
def n6(k:ap gr):aL gr gr.G=O:=by
 have e:=k.g;simp only[aL,bC,eE];exact⟨by omega,k.o⟩
def zCL{e j:Type}{f:Nat->e}{g:Int->List e->Option (fi (List e) j)}{stop:List e->j}(r:∀k (s:List e),k<n->s.length=k->g (k:Int) s=J (.go (s++[f k]))):
 aO g stop n 0 []=J (stop ((List.range n).map f)):=by
 refine bW (eI (λk s=>s=(List.range k).map f) rfl ?_ ?_)
 ·rintro k s o rfl;refine⟨_,r k _ o (by simp),?_⟩;show _=_;rw[ng,lN];rfl
 rintro s rfl;rfl
def zHj{g:Type}(f:g->Int)(L:List g)(T:Nat):List g:=(List.range T).flatMap λi=>L.filter λe=>f e==((i+1:Nat):Int)
def OH(k:ap gr)(j:0<=a):av gr gr.G a=((gr.G.toNat^a.toNat%gr.P.toNat:Nat):Int):=by
 have o:=k.q;obtain⟨n,rfl⟩:=fF j;obtain⟨q,g⟩:=fF (show 0<=gr.Q by omega);unfold av;have e:=k.o;rw[g]at e⊢;rw[dT]at e;rw[<-pS,dT,dT,K4 e]
def zyU(k:ap gr)(e:0<=a)(g:0<=b):aQ gr [av gr gr.G a,av gr gr.G b]=av gr gr.G (a+b):=by
 have o:=k.p;obtain⟨P,j⟩:=fF (show 0<=gr.P by omega);have r:=zX k gr.G a;rw[LK k (by omega) (zX k gr.G b).1,OH k e,OH k g,OH k (by omega),j];rw[<-Ev,<-pS,dT,<-uV,<-QF,Int.toNat_add e g]
def zwV(k:ap gr):av gr gr.G 0=1:=by
 have e:=k.p;rw[OH k (BX 0)];show((1%gr.P.toNat:Nat):Int)=1;rw[oG (by omega)];rfl
def zu7(x:Int)(h:a%gr.Q=b%gr.Q):av gr x a=av gr x b:=by
 unfold av;rw[h]
def zuV :GR l l=J O:=by
 unfold GR;refine bW (bQ (by simp) (ax (ψ:=λv=>v=.inl ()) (eI (λ_ _=>True) trivial ?_ λs _=>rfl) ?_))
 ·rintro k s e _;exact bB e (bB e (bQ (by simp) (ak trivial)))
 rintro _ rfl;exact ak rfl
structure Gb (gr:am):Prop where
 p:1<=gr.P/\gr.P<=2000000000
 q:1<=gr.Q/\gr.Q<=2000000000
 g:0<=gr.G/\gr.G<=2000000000
def PB(p:cQ):Prop:=p.aF.length<=1001/\p.aX.length<=1001/\p.aG.length<=1001
def zqU{n:Int}{p:cQ}(r:Bt code)(h:Cu code n (c0,Y,X))(P:n<=3000000000000000)(k:Gw gr)(Q:p.aF.length<=1000/\p.aX.length<=1000/\p.aG.length<=1000):
 Rn (Gx c0 Y X gr p) (λz=>PB z.1/\Cu code (n+12) z.2):=by
 unfold Gx;rw[IW (l:=p.aF) (by omega),IW (l:=p.aX) (by omega),IW (l:=p.aG) (by omega)];simp only[aP];refine ax (hJ r h (by omega)) λE ⟨_,_,_,_,o⟩=>?_
 have C:PB p:=⟨by omega,by omega,by omega⟩
 have D:∀l:List Int,0<l.length->Rn (fu E.2.1 E.2.2.1 E.2.2.2 (l.length:Int)) (λz=>(∃i:Nat,z.1=(i:Int)/\i<l.length)/\Cu code (n+4) z.2):=λl N=>by
  obtain⟨v,H,I,K,L,_,M⟩:=hJ (m:=(l.length:Int)) r o (by omega);obtain⟨i,j⟩:=fF I;refine⟨v,H,⟨i,j,?_⟩,M.mono (by omega)⟩;rcases Int.lt_or_le 1 (l.length:Int)with g|g
  ·have:=L g;omega
  ·have:=K g;omega
 refine ax (ψ:=λx=>match x with| .inl v=>PB ⟨v.2.1,v.2.2.1,v.2.2.2⟩/\Cu code (n+12) v.1| .inr v=>PB v.1/\Cu code (n+12) v.2) ?_ ?_
 ·refine aU (λ_=>aU (λg=>?_) λ_=>ak ⟨C,o.mono (by omega)⟩) λ_=>?_
  ·have g:0<p.aG.length:=by simpa using g
   refine ax (D _ g) λz2 ⟨⟨i,e,j⟩,u⟩=>?_
   refine ax (XY r u (by omega) k) λG ⟨_,_,A⟩=>?_
   rw[e];exact bB j (ak ⟨⟨by show p.aF.length<=1001;omega,by show p.aX.length<=1001;omega,by show(p.aG.set _ _).length<=1001;simp;omega⟩,A.mono (by omega)⟩)
  refine aU (λ_=>aU (λg=>?_) λ_=>ak ⟨C,o.mono (by omega)⟩) λ_=>?_
  ·have g:0<p.aF.length:=by simpa using g
   refine ax (D _ g) λz2 ⟨⟨i,e,j⟩,u⟩=>?_
   refine ax (zmN r u (by omega) k) λG ⟨_,_,A⟩=>?_
   rw[e];exact bB j (ak ⟨⟨by show(p.aF.set _ _).length<=1001;simp;omega,by show p.aX.length<=1001;omega,by show p.aG.length<=1001;omega⟩,A.mono (by omega)⟩)
  refine aU (λ_=>aU (λg=>?_) λ_=>ak ⟨C,o.mono (by omega)⟩) λ_=>?_
  ·have g:0<p.aX.length:=by simpa using g
   refine ax (D _ g) λz2 ⟨⟨i,e,j⟩,u⟩=>?_
   refine ax (XY r u (by omega) k) λG ⟨_,_,A⟩=>?_
   rw[e];exact bB j (ak ⟨⟨by show p.aF.length<=1001;omega,by show(p.aX.set _ _).length<=1001;simp;omega,by show p.aG.length<=1001;omega⟩,A.mono (by omega)⟩)
  refine aU (λ_=>aJ (by omega) (ak ⟨⟨by show p.aF.length<=1001;omega,by show p.aX.length<=1001;omega,by show(p.aG++[0]).length<=1001;simp;omega⟩,o.mono (by omega)⟩)) λ_=>?_
  exact aU (λ_=>ak ⟨⟨by simp,by simp,by simp⟩,o.mono (by omega)⟩) λ_=>ak ⟨C,o.mono (by omega)⟩
 intro x F;cases x with
 |inl v=>exact ak F
 |inr v=>exact ak F
def Gb.w(k:Gb gr):Gw gr:=by
 have a:=k.p;have b:=k.q;have c:=k.g;exact⟨by omega,by omega,by omega⟩
theorem zxW:∀{l v:List Int},l.Nodup->(∀x∈l,x∈v)->l.length<=v.length
 |[],v,_,_=>by simp
 |x::l,v,z,g=>by
  obtain⟨r,u⟩:=WB.1 z;have j:=g x (by simp);have:=zxW (l:=l) (v:=v.erase x) u λy o=>(a5U (show y≠x from λe=>r (e▸o))).2 (g y (oH _ o))
  rw[a5V j]at this;have:=List.length_pos_of_mem j;rw[fG];omega
def X8 :dB gr x=O↔0<=x/\x<gr.Q:=by
 unfold dB;simp only[bC,eE];omega
def FF(k:ap gr)(h:∀x∈l,aL gr x=O):∀x∈l,0<=x/\x<=2000000000:=zAE k (bc.2 h)
def ma(k:ap gr)(v:Int):fb gr v=J (v%gr.Q):=by
 have e:=k.p;have g:=k.q;unfold fb;rw[V8 (by omega) (by omega)];rfl
def bS{e:Type}{l:List e}{d:e}{i:Nat}(h:i<l.length):l.getD i d=l[i]:=by
 rw[mA,cI h];rfl
def Tk{n:Int}{m:Nat}(v:Bt code)(h:Cu code n (c0,Y,X))(C:n<=8000000000000000)(D:1<=m):Rn (fu c0 Y X (m:Int)) (λz=>(∃i:Nat,z.1=(i:Int)/\i<m)/\Cu code (n+2) z.2):=by
 obtain⟨z,e,g,j,o,_,r⟩:=hJ (m:=(m:Int)) v h C;obtain⟨i,A⟩:=fF g;refine⟨z,e,⟨i,A,?_⟩,r⟩;rcases dS 1 m with u|u
 ·have:=o (by omega);omega
 have:=j (by omega);omega
def lp(k:Nat)(p:cQ):Prop:=p.aF.length<=k/\p.aX.length<=k/\p.aG.length<=k
def R9(x:Int):Prop:=0<=x/\x<=2000000000
def d9(k:ap gr)(h:aL gr x=O):R9 x:=by
 have:=ru h;have:=k.p;exact⟨by omega,by omega⟩
def bH(k:ap gr)(x e:Int):R9 (av gr x e):=by
 have:=zX k x e;have:=k.p;exact⟨by omega,by omega⟩
def VB(g:R9 x)(j:R9 y):∀z∈[x,y],0<=z/\z<=2000000000:=by
 intro z e;simp only[gp,kg,kh]at e;rcases e with rfl|rfl
 ·exact g
 exact j
def Fu(k:ap gr)(h:∀x∈l,0<=x/\x<=2000000000):R9 (aQ gr l):=by
 have:=zAg k h;have:=k.p;exact⟨by omega,by omega⟩
def ot(k:ap gr)(e:R9 x)(g:R9 y):R9 (aQ gr [x,y]):=Fu k (VB e g)
def zzy(h:∀x∈l,R9 x):l.all cT=O:=bc.2 λx e=>jk.2 ⟨(h x e).1,by have:=(h x e).2;omega⟩
def j4(k:ap gr)(e:R9 x)(g:R9 y):eu gr [x,y]=J (aQ gr [x,y]):=Ax k (VB e g)
def iZ(k:ap gr)(e:R9 x)(g:R9 y):ep gr [x,y]=J (aQ gr [x,y]):=LA k (VB e g)
def fB(k:ap gr)(g:R9 x)(e:Int):cW gr x e=J (av gr x e):=(G8 k g.1 g.2 e).1
def fy(k:ap gr)(g:R9 x)(e:Int):cF gr x e=J (av gr x e):=(G8 k g.1 g.2 e).2
def fR(k:ap gr):R9 gr.G:=d9 k (n6 k)
def MH(k:ap gr)(g:n<gr.P.toNat)(h:n^gr.Q.toNat%gr.P.toNat=1):aL gr (n:Int)=O:=by
 have o:=k.p;have r:=k.q
 have j:1<=n:=by
  rcases Wi n with e|e
  ·rw[e,Nat.zero_pow (by omega),Nat.zero_mod]at h;omega
  ·exact e
 simp only[aL,bC,eE];exact⟨⟨by omega,by omega⟩,by rw[dT];exact h⟩
def kY(k:ap gr)(g:aL gr x=O)(e:Int):aL gr (av gr x e)=O:=by
 have j:=k.p;refine MH k (nc _ (by omega)) ?_;rw[<-qR,<-pT,xJ,pT,qR,(Hv g).2.2,HQ,oG (by omega)]
def rb(k:ap gr)(o:aL gr x=O)(r:aL gr y=O):aL gr (aQ gr [x,y])=O:=by
 have A:=k.p;have v:=ru o;have z:=ru r;rw[LK k ⟨by omega,by omega⟩ (by omega)];obtain⟨a,rfl⟩:=fF (show 0<=x by omega);obtain⟨b,rfl⟩:=fF (show 0<=y by omega);obtain⟨p,u⟩:=fF (show 0<=gr.P by omega);have g:=(Hv o).2.2;have j:=(Hv r).2.2;rw[dT]at g j;have e:((a:Int)*(b:Int))%gr.P=((a*b%gr.P.toNat:Nat):Int):=by rw[u,dT,pS,Ev]
 rw[e];refine MH k (nc _ (by omega)) ?_;rw[<-qR,Nat.mul_pow,uV,g,j,oG (by omega)]
def Si(k:ap gr):aL gr 1=O:=by
 have e:=k.p;exact MH (n:=1) k (by omega) (by rw[HQ,oG (by omega)])
def ztb{p:Int}(h:a%p=b%p):(a-b)%p=0:=by rw[tK,h,Int.sub_self,Int.zero_emod]
def o6(l:List Int):Int:=l.foldr (· * ·) 1
def zyI(h:l.Perm m):o6 l=o6 m:=by
 induction h with
 |nil=>rfl
 |cons x _ ih=>show x*o6 _=x*o6 _;rw[ih]
 |swap x y l=>show y*(x*o6 l)=x*(y*o6 l);rw[<-Mq,<-Mq,a1V y x]
 |trans _ _ e g=>rw[e,g]
theorem X1:∀{l m:List Int},l.Nodup->(∀x∈l,x∈m)->m.length<=l.length->l.Perm m
 |[],m,_,_,h=>by rw[Wm.1 (show m.length=0 by simpa using h)]
 |x::l,m,z,g,h=>by
  obtain⟨u,v⟩:=WB.1 z;have j:=g x (by simp);have A:(m.erase x).length=m.length-1:=a5V j
  have:=X1 (l:=l) (m:=m.erase x) v (λy o=>by
   have r:=g y (oH _ o)
   exact(a5U (λe=>u (by rw[<-e];exact o))).2 r) (by rw[fG]at h;omega)
  exact(this.cons x).trans (List.perm_cons_erase j).symm
theorem Z2{p a:Int}:∀l:List Int,o6 (l.map λi=>(a*i)%p)%p=(a^l.length*o6 l)%p
 |[]=>by simp[o6]
 |x::l=>by
  have ih:=Z2 (p:=p) (a:=a) l;show((a*x)%p*o6 (l.map λi=>(a*i)%p))%p=(a^(l.length+1)*(x*o6 l))%p;rw[nh,e8,ih,<-nh];congr 1;rw[a1S];grind
theorem Xq{p:Nat}(g:Pr p)(j:2<=p):∀{l:List Int},(∀x∈l,x%(p:Int)≠0)->o6 l%(p:Int)≠0
 |[],_=>by show(1:Int)%(p:Int)≠0;rw[qS (by omega) (by omega)];omega
 |x::l,h=>λe=>by
  rcases F5 g (a:=x) (b:=o6 l) e with e|e
  ·exact h x (by simp) e
  ·exact Xq g j (λy o=>h y (oH _ o)) e
def zCv(o:Pr p)(C:2<=p){a:Nat}(Q:1<=a)(R:a<p):a^(p-1)%p=1:=by
 let L:List Int:=(List.range (p-1)).map λ(i:Nat)=>(i:Int)+1
 have j:∀x,x∈L↔1<=x/\x<=(p:Int)-1:=by
  intro x;simp only[L,jr,kT];constructor
  ·rintro⟨i,S,rfl⟩;omega
  ·rintro⟨H,C⟩;exact⟨(x-1).toNat,by omega,by omega⟩
 have hN:L.Nodup:=List.Pairwise.map _ (λa b (h:a≠b)=>by omega) List.nodup_range
 have N:∀x∈L,∀y∈L,((a:Int)*x)%p=((a:Int)*y)%p->x=y:=by
  intro x g y r e;have g:=(j x).1 g;have r:=(j y).1 r
  have E:((a:Int)*(x-y))%(p:Int)=0:=by
   rw[Int.mul_sub];exact ztb e
  rcases F5 o E with u|u
  ·rw[qS (by omega) (by omega)]at u;omega
  ·obtain⟨c,D⟩:=WC u
   have:c=0:=by
    rcases Int.lt_trichotomy c 0 with h|h|h
    ·have:(p:Int)*c<=(p:Int)*(-1):=WE (by omega) (by omega);omega
    ·exact h
    ·have:(p:Int)*1<=(p:Int)*c:=WE (by omega) (by omega);omega
   rw[this,Int.mul_zero]at D;omega
 have I:(L.map λi=>((a:Int)*i)%(p:Int)).Perm L:=by
  refine X1 ?_ ?_ (by simp)
  ·refine QH.2 (a1T ?_ hN);intro x y g r A e;exact A (N x g y r e)
  ·intro z M;obtain⟨x,g,rfl⟩:=jr.1 M;refine(j _).2 ?_;have H:=oJ ((a:Int)*x) (show(p:Int)≠0 by omega);have P:=tL ((a:Int)*x) (show(0:Int)<p by omega)
   have:((a:Int)*x)%(p:Int)≠0:=λe=>by
    have g:=(j x).1 g;rcases F5 o e with e|e<;>rw[qS (by omega) (by omega)]at e<;>omega
   omega
 have v:=Z2 (p:=(p:Int)) (a:=(a:Int)) L;rw[zyI I]at v
 have A:o6 L%(p:Int)≠0:=Xq o C λx g=>by
  have g:=(j x).1 g;rw[qS (by omega) (by omega)];omega
 have K:L.length=p-1:=by simp[L]
 rw[K]at v
 have F:(((a:Int)^(p-1)-1)*o6 L)%(p:Int)=0:=by
  rw[Int.sub_mul,WG];exact ztb v.symm
 rcases F5 o F with e|e
 ·obtain⟨c,D⟩:=WC e
  have G:(a:Int)^(p-1)%(p:Int)=1:=by
   rw[show(a:Int)^(p-1)=1+(p:Int)*c by omega,HR,qS (by omega) (by omega)]
  have:((a^(p-1)%p:Nat):Int)=1:=by rw[pS,WD];exact G
  omega
 exact absurd e A
def zuy(k:ap gr)(h:o8 gr s i y)(u:0<y):aL gr y=O:=by
 have v:=k.p;have z:=k.q;rcases h with⟨c,_,o,_,_⟩|⟨o,_⟩
 ·rw[o];have A:=U4 k s i c;refine MH k (nc _ (by omega)) ?_;rw[<-qR,<-pT]
  have e:((gr.P-1)/gr.Q).toNat*gr.Q.toNat=gr.P.toNat-1:=by
   obtain⟨P,r⟩:=fF (show 0<=gr.P-1 by omega);obtain⟨Q,j⟩:=fF (show 0<=gr.Q by omega);have hd:=k.d;have g:gr.P.toNat-1=P:=by omega
   rw[g,j,dT]at hd;rw[r,j,g,dT,<-Int.natCast_ediv,dT];exact Nat.div_mul_cancel (Wz hd)
  rw[e];exact zCv k.pp (by omega) (by omega) (by omega)
 omega
def zF(gr:am)(key:Int)(c:ao)(r:Int):ao:=⟨aQ gr [c.A,av gr gr.G r],aQ gr [c.B,aQ gr [1,av gr key r]]⟩
def zBJ(k:ap gr)(g:aL gr key=O)(e:b8 gr c=O)(r:Int):b8 gr (zF gr key c r)=O:=by
 simp only[b8,bC]at e⊢;exact⟨rb k e.1 (kY k (n6 k) r),rb k e.2 (rb k (Si k) (kY k g r))⟩
def zxS(k:ap gr)(e:0<=x/\x<gr.P):ep gr [1,x]=J x:=by
 have g:=k.p;rw[iZ k (x:=1) (y:=x) ⟨by omega,by omega⟩ ⟨by omega,by omega⟩,LK k ⟨by omega,by omega⟩ (by omega),WG,qS e.1 e.2]
def zGC(k:ap gr)(j:aL gr key=O)(g:b8 gr c=O)(r:Int):Gd gr key c r=J (zF gr key c r):=by
 have e:=g;simp only[b8,bC]at e;unfold Gd;rw[(zq3 k j (Si k) r).1,aP];unfold P6;rw[j4 k (d9 k e.1) (bH k _ _),aP,j4 k (d9 k e.2) (ot k ⟨by omega,by omega⟩ (bH k _ _))];rfl
def zEO(k:ap gr)(u:aL gr key=O)(o:b8 gr c=O)(r:Int):EB gr key c r=J (zF gr key c r):=by
 have e:=o;simp only[b8,bC]at e;have A:=k.p;have v:=ru e.1;have z:=ru e.2;unfold EB;rw[(zq3 k u (Si k) r).2,aP];unfold PH;simp only[fG,iC,aO];have g:∀{a b:ao},ix [a,b] 0=J a:=λ{a b}=>rfl
 have j:∀{a b:ao},ix [a,b] (0+1)=J b:=λ{a b}=>rfl
 simp only[g,j,aP,zxS k (x:=c.A) ⟨by omega,by omega⟩,zxS k (x:=c.B) ⟨by omega,by omega⟩,iZ k (d9 k e.1) (bH k _ _),iZ k (d9 k e.2) (ot k (x:=1) ⟨by omega,by omega⟩ (bH k _ _))];rfl
def uT(k:ap gr)(key:Int)(l:List ao):qj gr key l=J (aL gr key&&(di 1 12 l.length&&l.all (b8 gr))):=by
 unfold qj JR;rw[Lk,NQ.2 k,aP,aE rfl,zCb k];simp only[aP];cases aL gr key
 ·rfl
 simp only[aE,qs,aP,jt];show Option.bind (if di 1 12 l.length=O then _ else _) _=_;by_cases h:di 1 12 l.length=O
 ·rw[aE h,XC k,h];have e:l.length<=24:=by simp only[di,bC,eE]at h;omega
  simp[e]
 rw[aA h];simp only[Bool.not_eq_true]at h;rw[h];rfl
def D1(k:¬ap gr)(key:Int)(l:List ao):qj gr key l=J Z:=by
 unfold qj JR;rw[Lk,o4 k,aP,aA (by simp)];rfl
def xu(k:ap gr)(l:List ao):Ay gr l=J (di 1 12 l.length&&l.all (b8 gr)):=by
 unfold Ay;rw[vi,aP];show Option.bind (if di 1 12 l.length=O then _ else _) _=_;by_cases h:di 1 12 l.length=O
 ·rw[aE h,zsl k,h];have e:l.length<=24:=by simp only[di,bC,eE]at h;omega
  simp[e]
 rw[aA h];simp only[Bool.not_eq_true]at h;rw[h];rfl
noncomputable def dc(l:List Int):Bool:=l.all (di 0 ((l.length:Int)-1))&&oe l
def TK(l:List Int)(m:Nat)(g:m<=1000):EC l (m:Int)=J (decide (l.length=m)&&dc l):=by
 unfold EC;by_cases h:l.length=m
 ·subst h;rw[aK (n:=(l.length:Int)-1) (by omega) (by omega),VJ,zxm l (by omega)];simp only[a1W,e7,aP,decide_true,jt];show Option.bind (if l.all (di 0 ((l.length:Int)-1))=O then _ else _) _=_;unfold dc;cases l.all (di 0 ((l.length:Int)-1))<;>rfl
 have e:((l.length:Int)==(m:Int))=Z:=by simp;omega
 simp[e,h]
def TX(l:List Int):xU l=J (decide (l.length<=24)&&dc l):=by
 unfold xU;by_cases h:l.length<=24
 ·have g:decide ((l.length:Int)<=24)=O:=by simp;omega
  rw[g,aE rfl]
  have e:Iz l l=J (l.all (di 0 ((l.length:Int)-1))):=by
   unfold Iz Ql Ol;refine RN (p:=di 0 ((l.length:Int)-1)) (f:=λx=>L1 x l) λx _=>?_
   unfold L1 NK;rw[aK (n:=(l.length:Int)-1) (by omega) (by omega),vi];rfl
  rw[e,zxh l (by omega)];unfold dc;cases l.all (di 0 ((l.length:Int)-1))<;>simp[h]
 have g:decide ((l.length:Int)<=24)=Z:=by simp;omega
 simp[g,h]
def Ab(k:ap gr)(u:n<=24)(perm rs:List Int):CK gr perm rs (n:Int)=J (decide (perm.length=n)&&dc perm&&(decide (rs.length=n)&&rs.all (dB gr))):=by
 have z:=k.q;have v:=k.p;unfold CK;rw[TX,yc (by omega) (by omega)];have j:((perm.length:Int)==(n:Int))=decide (perm.length=n):=by by_cases h:perm.length=n<;>simp[h];omega
 have o:((rs.length:Int)==(n:Int))=decide (rs.length=n):=by by_cases h:rs.length=n<;>simp[h];omega
 rw[j,o];by_cases e:perm.length=n
 ·have g:decide (perm.length<=24)=O:=by simp;omega
  rw[g];simp only[e,decide_true,jt];cases dc perm<;>by_cases r:rs.length=n<;>simp[r]
 simp only[e,decide_false,a1A];cases (decide (perm.length<=24)&&dc perm)<;>simp
def V6(h:dc l=O){j:Int}(o:0<=j/\j<l.length):j∈l:=by
 simp only[dc,bC,oe,eE,bc,di]at h;refine QG λg=>?_
 have:=zxW (l:=j::l) (v:=(List.range l.length).map λ(i:Nat)=>(i:Int)) (WB.2 ⟨g,h.2⟩) (λx e=>by
  simp only[jr,kT];rcases gp.1 e with rfl|e
  ·exact⟨x.toNat,by omega,by omega⟩
  ·have:=h.1 x e;exact⟨x.toNat,by omega,by omega⟩)
 simp at this;omega
structure ni (gr:am) (key:Int) (l:List ao) (perm rs:List Int):Prop where
 key:aL gr key=O
 n:1<=l.length/\l.length<=12
 c:∀x∈l,b8 gr x=O
 pl:perm.length=l.length
 pr:∀x∈perm,0<=x/\x<l.length
 pb:dc perm=O
 rl:rs.length=l.length
 re:rs.all (dB gr)=O
def zF7{l:List ao}:((aL gr key&&(di 1 12 l.length&&l.all (b8 gr)))&&(decide (perm.length=l.length)&&dc perm&&(decide (rs.length=l.length)&&rs.all (dB gr))))=O↔ni gr key l perm rs:=by
 constructor
 ·intro h;simp only[bC,eE,di]at h;obtain⟨⟨g,⟨z,A⟩,j⟩,⟨o,e⟩,r,u⟩:=h;refine⟨g,by omega,bc.1 j,o,λx v=>?_,e,r,u⟩;simp only[dc,bC]at e;have:=bc.1 e.1 x v;simp only[di,bC,eE]at this;omega
 intro h;simp only[bC,eE,di];have:=h.n;exact⟨⟨h.key,⟨by omega,by omega⟩,bc.2 h.c⟩,⟨h.pl,h.pb⟩,h.rl,h.re⟩
def zaR(gr:am)(key:Int)(l:List ao)(perm rs:List Int):List ao:=(List.range perm.length).map λi=>zF gr key (l.getD (perm.getD i 0).toNat ⟨0,0⟩) (rs.getD i 0)
def zsI(k:ap gr){l:List ao}(m:ni gr key l perm rs)(E:ao->Int->Option ao)(F:∀c r,b8 gr c=O->E c r=J (zF gr key c r)):aO (σ:=List ao) (λv e=>
 (ix perm v).bind λz=>
 (ix l z).bind λA=>
 (ix rs v).bind λC=>
 (E A C).bind λD=>
 gd ((e.length+1)*16<=140737488355328/\e.length+1<=4611686018427387904)<|
 J (.go (e++[D]))) (λe=>e) perm.length 0 []=J (zaR gr key l perm rs):=by
 have K:=m.n;have H:=m.pl;have I:=m.rl;refine zCL (f:=λi=>zF gr key (l.getD (perm.getD i 0).toNat ⟨0,0⟩) (rs.getD i 0)) λi s o L=>?_
 have G:=m.pr _ (eL o);obtain⟨j,u⟩:=fF G.1;have g:j<l.length:=by omega
 rw[hZ o,aP,u,hZ g,aP,hZ (show i<rs.length by omega),aP,F _ _ (m.c _ (eL g)),aP,d6 (by omega),bS o,u,dT,bS g,bS (show i<rs.length by omega)]
def Vj(k:ap gr){l:List ao}(m:ni gr key l perm rs):Dl gr key l perm rs=J (zaR gr key l perm rs):=by
 unfold Dl;rw[zsI k m (Gd gr key) λc r e=>zGC k m.key e r];rfl
def Vc(k:ap gr){l:List ao}(m:ni gr key l perm rs):Ck gr key l perm rs=J (zaR gr key l perm rs):=by
 unfold Ck;rw[zsI k m (EB gr key) λc r e=>zEO k m.key e r];rfl
def lJ(gr:am)(key:Int)(l:List ao)(perm rs:List Int):(zaR gr key l perm rs).length=perm.length:=by simp[zaR]
def vr(k:ap gr){l:List ao}(m:ni gr key l perm rs):∀c∈zaR gr key l perm rs,b8 gr c=O:=by
 intro c g;obtain⟨i,e,rfl⟩:=jr.1 g;have e:=kT.1 e;refine zBJ k m.key ?_ _;have j:=m.pr _ (eL e);rw[bS e,bS (show(perm[i]).toNat<l.length by omega)];exact m.c _ (eL _)
structure sG (gr:am) (n:Nat) (b:ct):Prop where
 h:aL gr b.H=O
 l:b.Hs.length=n
 s:∀x∈b.Hs,aL gr x=O
def Td(k:ap gr)(D:n<=24):∃b t,pX gr (n:Int)=J (b,t)/\kR gr (n:Int)=J (b,t)/\(t=O->sG gr n b):=by
 obtain⟨b,t,v,z,A⟩:=zBo k D;refine⟨b,t,v,z,λE=>?_⟩;obtain⟨o,r,e,u⟩:=A E;refine⟨zuy k o r,e.1,λx g=>?_⟩;obtain⟨j,C,rfl⟩:=Qu g;exact zuy k (e.2 j C) (u _ g)
def tY(gr:am)(e perm ss:List Int)(i:Nat)(s:List Int):List Int:=s.set (perm.getD i 0).toNat (aQ gr [av gr gr.G (ss.getD (perm.getD i 0).toNat 0),e.getD i 0])
def zev(gr:am)(e perm ss:List Int):List Int:=FB (tY gr e perm ss) perm.length (List.replicate perm.length 0)
def ztl(k:ap gr){g:List Int}(G:∀x∈perm,0<=x/\x<perm.length)(R:ss.length=perm.length)(Q:g.length=perm.length)(E:∀x∈g,aL gr x=O)(P:Int->Int->Option Int)(M:List Int->Option Int)(D:∀x e,R9 x->P x e=J (av gr x e))(C:∀x y,R9 x->R9 y->M [x,y]=J (aQ gr [x,y])):aO (σ:=(List Int)) (λji o=>
 (ix perm ji).bind λu=>
 (ix ss u).bind λI=>
 (ix g ji).bind λz=>
 (P gr.G I).bind λA=>
 (M [A,z]).bind λK=>
 (ix o u).bind λL=>
 J (.go (o.set u.toNat K))) (λo=>o) perm.length 0 (List.replicate perm.length 0)=J (zev gr g perm ss):=by
 refine zCP (tY gr g perm ss) (λ_ s=>s.length=perm.length) (by simp) (λi s _ h=>by simp[tY,h]) λi s r h=>?_
 have H:=G _ (eL r);obtain⟨j,v⟩:=fF H.1;have N:j<perm.length:=by omega
 have F:=E _ (eL (show i<g.length by omega));rw[hZ r,aP,v,hZ (show j<ss.length by omega),aP,hZ (show i<g.length by omega),aP,D _ _ (fR k),aP,C _ _ (bH k _ _) (d9 k F),aP,hZ (show j<s.length by omega),aP];unfold tY;rw[bS r,v,dT,bS (show j<ss.length by omega),bS (show i<g.length by omega)]
def zC4(k:ap gr){b:ct}(o:∀x∈perm,0<=x/\x<perm.length)(v:perm.length<=1000)(r:ss.length=perm.length)(j:sG gr perm.length b):Kw gr b perm ss=J (zev gr b.Hs perm ss):=by
 unfold Kw;rw[d6 (by omega),aP,ztl k o r j.l j.s (cW gr) (eu gr) (λx e g=>fB k g e) λx y g u=>j4 k g u];rfl
def zB0(k:ap gr){b:ct}(o:∀x∈perm,0<=x/\x<perm.length)(v:perm.length<=1000)(r:ss.length=perm.length)(j:sG gr perm.length b):IE gr b perm ss=J (zev gr b.Hs perm ss):=by
 unfold IE;rw[d6 (by omega),aP,ztl k o r j.l j.s (cF gr) (ep gr) (λx e g=>fy k g e) λx y g u=>iZ k g u];rfl
def zAo(k:ap gr){g:List Int}(z:dc perm=O)(K:g.length=perm.length)(E:∀x∈g,aL gr x=O):(zev gr g perm ss).length=perm.length/\∀x∈zev gr g perm ss,aL gr x=O:=by
 have h:=OL (f:=tY gr g perm ss) (I:=λm s=>s.length=perm.length/\∀i (o:i<m) (r:i<perm.length),aL gr (s.getD (perm[i]).toNat 0)=O) (s0:=List.replicate perm.length 0) (m:=perm.length) ⟨by simp,λi o=>by omega⟩ (λm s u ⟨C,D⟩=>by
  refine⟨by simp[tY,C],λi o r=>?_⟩;unfold tY;rw[bS u];by_cases e:(perm[m]).toNat=(perm[i]).toNat
  ·by_cases H:(perm[i]).toNat<s.length
   ·rw[e,mA,a5W H,xH];refine rb k (kY k (n6 k) _) ?_;rw[bS (show m<g.length by omega)];exact E _ (eL _)
   ·have v:=bc.1 (bC _ _▸z:perm.all _=O/\oe perm=O).1 _ (eL r);simp only[di,bC,eE]at v;omega
  ·rw[mA,a5X e,<-mA];rcases dS i m with h|h
   ·exact D i h r
   ·have:i=m:=by omega
    subst this;exact absurd rfl e) perm.length (cq _)
 refine⟨h.1,λx v=>?_⟩;obtain⟨j,G,rfl⟩:=Qu v;have A:j<(zev gr g perm ss).length:=G;have L:(zev gr g perm ss).length=perm.length:=h.1;have u:=V6 z (j:=(j:Int)) ⟨by omega,by omega⟩;obtain⟨i,o,F⟩:=Qu u;have:=h.2 i o o;rw[F,dT]at this;have e:(FB (tY gr g perm ss) perm.length (List.replicate perm.length 0)).getD j 0=(zev gr g perm ss)[j]:=bS A
 rwa [e]at this
def hN(gr:am)(h:Int)(e g:List Int):Nat->Int
 |0=>h
 |i+1=>aQ gr [av gr gr.G (g.getD i 0),av gr (hN gr h e g i) (e.getD i 0)]
theorem P5(k:ap gr)(g:R9 h)(e j:List Int):∀i,R9 (hN gr h e j i)
 |0=>g
 |i+1=>ot k (bH k _ _) (bH k _ _)
theorem So{gr:am}(k:ap gr){h:Int}(g:aL gr h=O)(e j:List Int):∀i,aL gr (hN gr h e j i)=O
 |0=>g
 |i+1=>rb k (kY k (n6 k) _) (kY k (So k g e j i) _)
def zcu(gr:am)(h:Int)(e g:List Int):List Int:=(List.range e.length).map λi=>hN gr h e g (i+1)
def zCh(k:ap gr)(g:R9 h){es ts:List Int}(o:es.length<=1000)(r:ts.length=es.length):Ja gr h es ts=J (zcu gr h es ts):=by
 unfold Ja;refine bW (ax (ψ:=(· =zcu gr h es ts)) (eI (λi s=>s=(hN gr h es ts i,(List.range i).map λi=>hN gr h es ts (i+1))) rfl ?_ ?_) λx j=>ak j)
 ·rintro i s e rfl;refine bB e (bB (show i<ts.length by omega) (ag (fB k (fR k) _) (ag (fB k (P5 k g es ts i) _) (ag (j4 k (bH k _ _) (bH k _ _)) (aJ (by simp;omega) (ak ?_))))));show _=_;rw[ng,lN];simp only[jO,qP,hN,bS e,bS (show i<ts.length by omega)]
 rintro s rfl;rfl
def zDm(k:ap gr){b:ct}(g:R9 b.H){es ts:List Int}(o:es.length<=1000)(r:ts.length=es.length):LX gr b es ts=J (zcu gr b.H es ts):=by
 unfold LX;refine bW (ax (ψ:=(· =zcu gr b.H es ts)) (eI (λi s=>s=((List.range i).map λi=>hN gr b.H es ts (i+1),hN gr b.H es ts i)) rfl ?_ ?_) λx j=>ak j)
 ·rintro i s e rfl;refine bB e (bB (show i<ts.length by omega) (ag (fy k (fR k) _) (ag (fy k (P5 k g es ts i) _) (ag (iZ k (bH k _ _) (bH k _ _)) (aJ (by simp;omega) (ak ?_))))));show _=_;rw[ng,lN];simp only[jO,qP,hN,bS e,bS (show i<ts.length by omega)]
 rintro s rfl;rfl
def pM(l:List ao):List Int:=l.flatMap λc=>[c.A,c.B]
def zdP(key:Int)(l out:List ao)(m:List Int):List Int:=key::(pM l++(pM out++m))
def LZ(l:List ao):(pM l).length=2*l.length:=by
 induction l with
 |nil=>rfl
 |cons c l ih=>show([c.A,c.B]++pM l).length=_;simp[ih];omega
def zAq(l:List ao)(c:ao):pM (l++[c])=pM l++[c.A,c.B]:=by simp[pM]
def zDf(l m:List ao):pM (l++m)=pM l++pM m:=by simp[pM]
def Ur{l:List ao}(g:List Int)(v:l.length<=100000)(u:g.length<=1000000):aO (σ:=List Int) (λr e=>
 (ix l r).bind λj=>
 gd ((e.length+2)*8<=140737488355328/\e.length+2<=4611686018427387904)<|
 J (.go (e++[j.A,j.B]))) (λe=>e) l.length 0 g=J (g++pM l):=by
 refine bW (eI (λi s=>s=g++pM (l.take i)) (by simp[pM]) ?_ ?_)
 ·rintro i s o rfl;refine bB o (aJ ?_ (ak ?_))
  ·rw[cy,LZ,tH];omega
  show _=_;rw[nT o,zAq,gO]
 rintro s rfl;rw[jQ]
def ER{l:List ao}(e:l.length<=1000)(g:out.length<=1000)(j:m.length<=1000000):q7 key l out m=J (zdP key l out m):=by
 unfold q7 Hu;rw[d6 (by omega),aP,d6 (by omega),aP,Ur [key] (by simp;omega) (by simp),aP,d6 (by simp[LZ];omega)];simp[zdP,zDf]
def Au{l:List ao}(e:l.length<=1000)(g:out.length<=1000)(j:m.length<=1000000):sP key l out m=J (zdP key l out m):=by
 unfold sP;rw[Ur [key] (by omega) (by simp),aP,Ur _ (by omega) (by simp[LZ];omega),aP,d6 (by simp[LZ];omega)];simp[zdP]
def Fo{l:List ao}:(zdP key l out m).length=1+2*l.length+2*out.length+m.length:=by
 simp[zdP,LZ];omega
def GY(k:ap gr)(u:aL gr key=O){l:List ao}(g:∀c∈l,b8 gr c=O)(j:∀c∈out,b8 gr c=O)(o:m.all cT=O):(zdP key l out m).all cT=O:=by
 have A:∀l:List ao,(∀c∈l,b8 gr c=O)->(pM l).all cT=O:=λl h=>by
  refine pJ k (bc.2 λx e=>?_);obtain⟨c,r,e⟩:=a1y.1 e;have:=h c r;simp only[b8,bC]at this;simp only[gp,kg,kh]at e;rcases e with rfl|rfl
  ·exact this.1
  ·exact this.2
 have hd:cT key=O:=by have:=pJ k (l:=[key]) (by simp[u]);simpa using this
 simp only[zdP,xM,kU,hd,A l g,A out j,o,Qx]
abbrev JC:ByteArray:=⟨#[109,105,120,32,99,111,108,117,109,110,115]⟩
abbrev Dk:ByteArray:=⟨#[109,105,120,32,112,114,111,111,102]⟩
def zim(gr:am)(s:ByteArray)(l:List Int)(n:Nat):List Int:=(List.range n).map λ(i:Nat)=>chG gr s (l++[(i:Int)])
def W9(hd:l.all cT=O){i:Nat}(e:i<=1000000):(l++[(i:Int)]).all cT=O:=by
 have:cT (i:Int)=O:=jk.2 ⟨by omega,by omega⟩;simp[hd,this]
def zxs(k:ap gr)(e:s.size<=40)(o:l.length<=300)(hd:l.all cT=O)(g:1<=n)(r:n<=1000):A1 gr s l (n:Int)=J (zim gr s l n,O):=by
 unfold A1;rw[aA (show¬((n:Int)<1)by omega)];refine bW (ax (ψ:=(· =.inl (zim gr s l n))) (kZ n (λi t=>t=((List.range i).map λ(i:Nat)=>chG gr s (l++[(i:Int)]),(i:Int))) rfl ?_ ?_) ?_)
 ·rintro i t j rfl;refine iS (by simp;omega) (ag (a:=l) ?_ (aJ (by omega) (ag (P7 k s (by simp;omega)) ?_)))
  ·unfold yk;rw[d6 (by omega)]
  rw[aE (Nf k e (by simp;omega) (W9 hd (by omega)))];refine bQ rfl (aJ (by simp;omega) (ak ?_));show _=_;rw[ng,lN,aK (by omega) (by omega)];rfl
 ·rintro t rfl;exact bQ (by simp) (ak rfl)
 rintro t rfl;refine aJ (by omega) (aJ (by simp[zim]) (ak ?_));rw[dT,Mm (by simp[zim])]
def YT(k:ap gr)(r:s.size<=40)(j:l.length<=300)(hd:l.all cT=O)(o:n<=1000):HH gr s l (n:Int)=J (zim gr s l n):=by
 unfold HH;refine bW (ax (ψ:=(· =zim gr s l n)) (kZ n (λi t=>t=((List.range i).map λ(i:Nat)=>chG gr s (l++[(i:Int)]),(i:Int))) rfl ?_ ?_) λx e=>ak e)
 ·rintro i t g rfl;refine iS (by simp;omega) (ag (IW (by omega)) (aJ (by omega) (ag (Qh k (by omega) (by simp;omega) (W9 hd (by omega))) (aJ (by simp;omega) (ak ?_)))));show _=_;rw[ng,lN,aK (by omega) (by omega)];rfl
 rintro t rfl;exact bQ (by simp) (ak rfl)
def zxA(k:ap gr)(s:ByteArray)(l:List Int)(n:Nat):(zim gr s l n).length=n/\∀x∈zim gr s l n,0<=x/\x<gr.Q:=by
 refine⟨by simp[zim],λx e=>?_⟩;obtain⟨i,_,rfl⟩:=jr.1 e;exact mQ k s _
def E9(q x:Int):Prop:=0<=x/\x<q
def zG(h:l.all (dB gr)=O):∀x∈l,E9 gr.Q x:=λx e=>X8.1 (bc.1 h x e)
def iY{z t:Int}(D:q<=2000000000)(g:E9 q a)(o:E9 q z)(j:E9 q t):i64.wrap (a+i64.wrap (z*t))=a+z*t/\(i64.wrap (a+i64.wrap (z*t))).tmod q=(a+z*t)%q:=by
 obtain⟨u,v⟩:=g;obtain⟨r,z2⟩:=o;obtain⟨e,E⟩:=j;have A:0<=z*t:=tM r e;have C:z*t<=2000000000*2000000000:=xO (by omega) (by omega) e (by omega);rw[aK (n:=z*t) (by omega) (by omega),aK (n:=a+z*t) (by omega) (by omega)];exact⟨rfl,ju (by omega)⟩
def gC(e:0<q)(x:Int):E9 q (x%q):=⟨oJ _ (by omega),tL _ e⟩
def dtN(q:Int)(l m:List Int):Nat->Int
 |0=>0
 |i+1=>(dtN q l m i+l.getD i 0*m.getD i 0)%q
theorem A4(e:0<q)(l m:List Int):∀i,E9 q (dtN q l m i)
 |0=>⟨by show(0:Int)<=0;omega,e⟩
 |i+1=>gC e _
def iP{e:Type}{l:List e}{P:e->Prop}(h:∀x∈l,P x){i:Nat}(g:i<l.length):P l[i]:=h _ (eL g)
def TS(o:0<q/\q<=2000000000)(A:∀x∈l,E9 q x)(C:∀x∈m,E9 q x)(G:m.length=l.length):xB l m q=J (dtN q l m l.length):=by
 unfold xB;refine bW (ax (ψ:=(· =dtN q l m l.length)) (eI (λi s=>s=dtN q l m i) rfl ?_ λs h=>h) λx D=>ak D);rintro i s v rfl;have u:=A4 o.1 l m i;have j:=iP A v;have g:=iP C (show i<m.length by omega);refine bB v (bB (show i<m.length by omega) (aJ (by omega) (aJ (by omega) (ak ?_))));show _=(dtN q l m i+l.getD i 0*m.getD i 0)%q;rw[bS v,bS (show i<m.length by omega)];have e:=iY o.2 ⟨BX 0,o.1⟩ j g;rw[QC,QC]at e
 have z:i64.wrap (l[i]*m[i])=l[i]*m[i]:=by
  have E:0<=l[i]*m[i]:=tM j.1 g.1;have F:l[i]*m[i]<=2000000000*2000000000:=xO (by have:=j.2;omega) (by have:=g.2;omega) g.1 (by omega);exact aK (by omega) (by omega)
 rw[z,ju (tM j.1 g.1)];have r:=gC o.1 (l[i]*m[i]);rw[aK (by have:=u.1;have:=r.1;omega) (by have:=u.2;have:=r.2;omega),ju (by have:=u.1;have:=r.1;omega)];rw[pU,e8,<-pU]
def SD(g:0<q/\q<=2000000000)(j:∀x∈l,E9 q x)(o:∀x∈m,E9 q x)(u:m.length=l.length):vZ l m q=J (dtN q l m l.length):=by
 unfold vZ;refine bW (ax (ψ:=(· =dtN q l m l.length)) (eI (λi s=>s=dtN q l m i) rfl ?_ λs h=>h) λx r=>ak r);rintro i s e rfl;refine bB e (bB (show i<m.length by omega) (aJ (by omega) (ak ?_)));show _=(dtN q l m i+l.getD i 0*m.getD i 0)%q;rw[bS e,bS (show i<m.length by omega)];exact(iY g.2 (A4 g.1 l m i) (iP j e) (iP o (show i<m.length by omega))).2
def smN(q:Int)(l:List Int):Nat->Int
 |0=>0
 |i+1=>(smN q l i+l.getD i 0)%q
theorem N4(e:0<q)(l:List Int):∀i,E9 q (smN q l i)
 |0=>⟨by show(0:Int)<=0;omega,e⟩
 |i+1=>gC e _
def zxw(u:0<q/\q<=2000000000)(r:∀x∈l,E9 q x):GO l q=J (smN q l l.length)/\Hz l q=J (smN q l l.length):=by
 refine⟨?_,?_⟩
 ·unfold GO;refine bW (ax (ψ:=(· =smN q l l.length)) (eI (λi s=>s=smN q l i) rfl ?_ λs h=>h) λx o=>ak o);rintro i s j rfl;have g:=N4 u.1 l i;have e:=iP r j;refine bB j (aJ (by omega) (ak ?_));show _=(smN q l i+l.getD i 0)%q;rw[bS j,aK (by have:=g.1;have:=e.1;omega) (by have:=g.2;have:=e.2;omega),ju (by have:=g.1;have:=e.1;omega)]
 unfold Hz;refine bW (ax (ψ:=(· =smN q l l.length)) (eI (λi s=>s=smN q l i) rfl ?_ λs h=>h) λx o=>ak o);rintro i s j rfl;have g:=N4 u.1 l i;have e:=iP r j;refine bB j (aJ (by omega) (ak ?_));show _=(smN q l i+l.getD i 0)%q;rw[bS j,aK (by have:=g.1;have:=e.1;omega) (by have:=g.2;have:=e.2;omega),ju (by have:=g.1;have:=e.1;omega)]
def yN(q:Int)(e t:List Int):Nat->Int
 |0=>0
 |i+1=>(t.getD i 0+e.getD i 0*yN q e t i)%q
theorem OK(e:0<q)(g t:List Int):∀i,E9 q (yN q g t i)
 |0=>⟨by show(0:Int)<=0;omega,e⟩
 |i+1=>gC e _
def gB(e perm:List Int):List Int:=perm.map λj=>e.getD j.toNat 0
def Z0{e:List Int}(r:∀x∈perm,0<=x/\x<e.length)(z:perm.length<=1000):BO e perm=J (gB e perm):=by
 unfold BO;rw[zCX (l:=perm) (f:=λj=>e.getD j.toNat 0) []]
 ·rw[nb];rfl
 intro i g s u;have v:=iP r g;obtain⟨j,o⟩:=fF v.1;rw[hZ g,aP,o,hZ (show j<e.length by omega),aP,d6 (by simp at u;omega),dT,bS (show j<e.length by omega)]
def sdV(l:List ao):List Int×List Int:=(l.map (·.A),l.map (·.B))
def tB{l:List ao}(r:l.length<=1000):xA l=J (sdV l)/\vt l=J (sdV l):=by
 have h:aO (σ:=(List Int)×List Int) (λo e=>
  (ix l o).bind λg=>
  gd ((e.1.length+1)*8<=140737488355328/\e.1.length+1<=4611686018427387904)<|
  gd ((e.2.length+1)*8<=140737488355328/\e.2.length+1<=4611686018427387904)<|
  J (.go (e.1++[g.A],e.2++[g.B]))) (λe=>(e.1,e.2)) (l.length) 0 ([],[])=J (sdV l):=by
  refine bW (eI (λi s=>s=sdV (l.take i)) rfl ?_ ?_)
  ·rintro i s j rfl;refine bB j (aJ (by simp[sdV];omega) (aJ (by simp[sdV];omega) (ak ?_)));show _=_;rw[nT j];simp only[sdV,lN,jO,qP]
  ·rintro s rfl;rw[jQ]
 unfold xA vt;rw[h];exact⟨rfl,rfl⟩
def sH(k:ap gr){l:List ao}(h:∀c∈l,b8 gr c=O):(∀x∈(sdV l).1,0<=x/\x<=2000000000)/\∀x∈(sdV l).2,0<=x/\x<=2000000000:=by
 refine⟨λx e=>?_,λx e=>?_⟩<;>obtain⟨c,u,rfl⟩:=jr.1 e<;>obtain⟨g,j,o,r⟩:=zBv k (h c u)
 ·exact⟨g,j⟩
 exact⟨o,r⟩
theorem XK{gr:am}(k:ap gr):∀(l m:List Int) (o:Int),0<=o/\o<gr.P->R9 (zaP gr l m o)
 |[],_,o,h=>by have:=k.p;unfold zaP;exact⟨h.1,by omega⟩
 |_::_,[],o,h=>by have:=k.p;unfold zaP;exact⟨h.1,by omega⟩
 |x::l,e::m,o,h=>by
  have:=k.p;unfold zaP;exact XK k l m _ ⟨oJ _ (by omega),tL _ (by omega)⟩
def fO(k:ap gr)(l m:List Int):R9 (zaP gr l m 1):=XK k l m 1 (by have:=k.p;exact⟨by omega,by omega⟩)
def mE{a r:List Int}(h:a.length=n):jn (a++r) (n:Int)=J (a,r):=by
 unfold jn;rw[dT,d6 (by omega),d6 (by simp;omega),d6 (by omega),d6 (by simp;omega)];simp[h,Mm]
def zAy{a:List Int}(h:a.length=n):jn a (n:Int)=J (a,[]):=by
 have:=mE (r:=[]) h
 rwa [sn]at this
def Al(x:Int)(r:List Int):ti (x::r)=J (x,r):=by
 unfold ti;have h:=mE (a:=[x]) (r:=r) (n:=1) rfl;show(jn ([x]++r) ((1:Nat):Int)).bind _=_;rw[h];rfl
structure a1d (gr:am) (n:Nat) (s t w x:List Int) (a b d f:Int):Prop where
 s:s.length=n/\∀z∈s,E9 gr.Q z
 t:t.length=n/\∀z∈t,E9 gr.Q z
 w:w.length=n/\∀z∈w,E9 gr.Q z
 x:x.length=n/\∀z∈x,E9 gr.Q z
 a:E9 gr.Q a
 b:E9 gr.Q b
 d:E9 gr.Q d
 f:E9 gr.Q f
def zsQ{g:List Int}(e:g.length=4*n+4)(o:g.all (dB gr)=O):∃s t w x a b d f,g=s++(t++(a::b::d::f::(w++x)))/\a1d gr n s t w x a b d f:=by
 have h:=zG o;obtain⟨s,r,rfl,u⟩:∃s r,g=s++r/\s.length=n:=⟨g.take n,g.drop n,(Mp n g).symm,by simp;omega⟩
 obtain⟨t,r,rfl,v⟩:∃t C,r=t++C/\t.length=n:=⟨r.take n,r.drop n,(Mp n r).symm,by simp at e⊢;omega⟩
 simp only[cy]at e
 match r,e with
 |a::b::d::f::r,e=>
  obtain⟨w,x,rfl,A⟩:∃w x,r=w++x/\w.length=n:=⟨r.take n,r.drop n,(Mp n r).symm,by simp at e⊢;omega⟩
  simp only[fG,cy]at e;refine⟨s,t,w,x,a,b,d,f,rfl,⟨u,λz j=>h z ?_⟩,⟨v,λz j=>h z ?_⟩,⟨A,λz j=>h z ?_⟩,⟨by omega,λz j=>h z ?_⟩,h a ?_,h b ?_,h d ?_,h f ?_⟩<;>simp_all
 |[],e=>simp at e;omega
 |[_],e=>simp at e;omega
 |[_,_],e=>simp at e;omega
 |[_,_,_],e=>simp at e;omega
section
attribute [local irreducible] chG zim zev zaR zdP zcu zaP dtN smN yN
def pmL(gr:am)(key:Int)(B:ct)(l:List ao)(perm rs s:List Int):List Int:=zdP key l (zaR gr key l perm rs) (zev gr B.Hs perm s)
def pmE(gr:am)(key:Int)(B:ct)(l:List ao)(perm rs s:List Int):List Int:=zim gr JC (pmL gr key B l perm rs s) l.length
def pmO(gr:am)(key:Int)(B:ct)(l:List ao)(perm rs s:List Int):List Int:=gB (pmE gr key B l perm rs s) perm
def zjO(gr:am)(h:Int)(e t w x:List Int)(i:Nat):Int:=aQ gr [av gr gr.G (w.getD i 0),av gr (hN gr h e t i) (x.getD i 0)]
def yC(gr:am)(key:Int)(e:List Int)(out:List ao)(x:List Int)(a b d f:Int):List Int:=[av gr gr.G a,aQ gr [av gr gr.G b,zaP gr e x 1],av gr gr.G d,aQ gr [av gr gr.G (i64.wrap (0-f)),zaP gr (sdV out).1 x 1],aQ gr [av gr key (i64.wrap (0-f)),zaP gr (sdV out).2 x 1]]
def pmC(gr:am)(key:Int)(B:ct)(l:List ao)(perm rs s t w x:List Int)(a b d f:Int):List Int:=yC gr key B.Hs (zaR gr key l perm rs) x a b d f++(List.range l.length).map (zjO gr B.H (pmO gr key B l perm rs s) t w x)
def pmZ(gr:am)(key:Int)(B:ct)(l:List ao)(perm rs s t w x:List Int)(a b d f:Int):Int:=chG gr Dk (pmL gr key B l perm rs s++zcu gr B.H (pmO gr key B l perm rs s) t++pmC gr key B l perm rs s t w x a b d f)
def rsF(q z:Int)(w t:List Int)(i:Nat):Int:=(w.getD i 0+z*t.getD i 0)%q
def xq(gr:am)(z:Int)(n:Nat)(e g rs s t w x:List Int)(a b d f:Int):List Int:=[(a+z*smN gr.Q s n)%gr.Q,(b+z*dtN gr.Q s e n)%gr.Q,(d+z*yN gr.Q g t n)%gr.Q,(f+z*dtN gr.Q rs g n)%gr.Q]++(List.range n).map (rsF gr.Q z w t)++(List.range n).map (rsF gr.Q z x g)
def kO(gr:am)(key:Int)(B:ct)(l:List ao)(perm rs s t w x:List Int)(a b d f:Int):cO:=
 ⟨zev gr B.Hs perm s,zcu gr B.H (pmO gr key B l perm rs s) t,⟨pmC gr key B l perm rs s t w x a b d f,[pmZ gr key B l perm rs s t w x a b d f],xq gr (pmZ gr key B l perm rs s t w x a b d f) l.length (pmE gr key B l perm rs s) (pmO gr key B l perm rs s) rs s t w x a b d f⟩⟩
structure dY (gr:am) (key:Int) (B:ct) (l:List ao) (perm rs s t w x:List Int) (a b d f:Int):Prop where
 m:ni gr key l perm rs
 bs:sG gr l.length B
 c:a1d gr l.length s t w x a b d f
section
variable {gr:am}{key:Int}{B:ct}{l:List ao}{perm rs s t w x:List Int}{a b d f:Int}
def dY.Qd(P:dY gr key B l perm rs s t w x a b d f):∀z∈perm,0<=z/\z<perm.length:=λz e=>by have:=P.m.pr z e;have:=P.m.pl;omega
def dY.bl(P:dY gr key B l perm rs s t w x a b d f):sG gr perm.length B:=by rw[P.m.pl];exact P.bs
def dY.f8(k:ap gr)(P:dY gr key B l perm rs s t w x a b d f):(zev gr B.Hs perm s).length=l.length/\∀z∈zev gr B.Hs perm s,aL gr z=O:=by
 have h:=zAo k (ss:=s) P.m.pb (by rw[P.m.pl];exact P.bs.l) P.bs.s;exact⟨by rw[h.1,P.m.pl],h.2⟩
def dY.len(k:ap gr)(P:dY gr key B l perm rs s t w x a b d f):(pmL gr key B l perm rs s).length=1+5*l.length:=by
 have e:=(P.f8 k).1;have g:=P.m.pl;unfold pmL;rw[Fo,lJ,e];omega
def dY.zH(k:ap gr)(P:dY gr key B l perm rs s t w x a b d f):(pmL gr key B l perm rs s).all cT=O:=
 GY k P.m.key P.m.c (vr k P.m) (pJ k (bc.2 (P.f8 k).2))
def dY.e(k:ap gr)(P:dY gr key B l perm rs s t w x a b d f):(pmE gr key B l perm rs s).length=l.length/\∀z∈pmE gr key B l perm rs s,E9 gr.Q z:=zxA k _ _ _
def dY.o(k:ap gr)(P:dY gr key B l perm rs s t w x a b d f):(pmO gr key B l perm rs s).length=l.length/\∀z∈pmO gr key B l perm rs s,E9 gr.Q z:=by
 obtain⟨r,e⟩:=P.e k;refine⟨by rw[<-P.m.pl];simp[pmO,gB],λz o=>?_⟩;obtain⟨j,g,rfl⟩:=jr.1 o;have:=P.m.pr j g;rw[bS (show j.toNat<_ by omega)];exact e _ (eL _)
def dY.mJ(k:ap gr)(P:dY gr key B l perm rs s t w x a b d f):(zcu gr B.H (pmO gr key B l perm rs s) t).length=l.length/\∀z∈zcu gr B.H (pmO gr key B l perm rs s) t,aL gr z=O:=by
 unfold zcu;refine⟨by simp[(P.o k).1],λz e=>?_⟩;obtain⟨j,g,rfl⟩:=jr.1 e;exact So k P.bs.h _ _ _
def zC0{h:Int}{e g:List Int}{i:Nat}(j:i<e.length):ix ([h]++zcu gr h e g) (i:Int)=J (hN gr h e g i):=by
 unfold zcu;cases i with
 |zero=>rfl
 |succ i=>exact JI (by simp[show i<e.length by omega])
def dY.o9(k:ap gr)(P:dY gr key B l perm rs s t w x a b d f):(pmC gr key B l perm rs s t w x a b d f).length=l.length+5/\∀z∈pmC gr key B l perm rs s t w x a b d f,R9 z:=by
 have g:=d9 k P.bs.h;refine⟨by simp[pmC,yC],λz e=>?_⟩;rcases ke.1 e with h|h
 ·simp only[yC,gp,kg,kh]at h;rcases h with rfl|rfl|rfl|rfl|rfl
  ·exact bH k _ _
  ·exact ot k (bH k _ _) (fO k _ _)
  ·exact bH k _ _
  ·exact ot k (bH k _ _) (fO k _ _)
  exact ot k (bH k _ _) (fO k _ _)
 obtain⟨i,_,rfl⟩:=jr.1 h;exact ot k (bH k _ _) (bH k _ _)
def dY.G6(k:ap gr)(P:dY gr key B l perm rs s t w x a b d f):(pmL gr key B l perm rs s++zcu gr B.H (pmO gr key B l perm rs s) t++pmC gr key B l perm rs s t w x a b d f).length=6+7*l.length/\(pmL gr key B l perm rs s++zcu gr B.H (pmO gr key B l perm rs s) t++pmC gr key B l perm rs s t w x a b d f).all cT=O:=by
 have e:=P.len k;have g:=(P.mJ k).1;have j:=(P.o9 k).1;refine⟨by rw[cy,cy,e,g,j];omega,?_⟩;rw[kU,kU,P.zH k,pJ k (bc.2 (P.mJ k).2),zzy (P.o9 k).2];rfl
def SH(P:dY gr key B l perm rs s t w x a b d f)(k:ap gr):q7 key l (zaR gr key l perm rs) (zev gr B.Hs perm s)=J (pmL gr key B l perm rs s)/\sP key l (zaR gr key l perm rs) (zev gr B.Hs perm s)=J (pmL gr key B l perm rs s):=by
 have g:=P.m.n;have e:=P.m.pl;exact⟨ER (by omega) (by rw[lJ];omega) (by rw[(P.f8 k).1];omega),Au (by omega) (by rw[lJ];omega) (by rw[(P.f8 k).1];omega)⟩
def zyl(P:dY gr key B l perm rs s t w x a b d f)(k:ap gr):A1 gr JC (pmL gr key B l perm rs s) (l.length:Int)=J (pmE gr key B l perm rs s,O)/\HH gr JC (pmL gr key B l perm rs s) (l.length:Int)=J (pmE gr key B l perm rs s):=by
 have e:=P.m.n;exact⟨zxs k (by decide) (by rw[P.len k];omega) (P.zH k) (by omega) (by omega),YT k (by decide) (by rw[P.len k];omega) (P.zH k) (by omega)⟩
def zFd(P:dY gr key B l perm rs s t w x a b d f)(k:ap gr):BO (pmE gr key B l perm rs s) perm=J (pmO gr key B l perm rs s):=by
 have o:=P.m.n;have j:=P.m.pl;have h:=(P.e k).1;exact Z0 (e:=pmE gr key B l perm rs s) (λz g=>by have:=P.m.pr z g;omega) (by omega)
def zCe(P:dY gr key B l perm rs s t w x a b d f)(k:ap gr):se [pmL gr key B l perm rs s,zcu gr B.H (pmO gr key B l perm rs s) t,pmC gr key B l perm rs s t w x a b d f]=J (pmL gr key B l perm rs s++zcu gr B.H (pmO gr key B l perm rs s) t++pmC gr key B l perm rs s t w x a b d f):=by
 have e:[pmL gr key B l perm rs s,zcu gr B.H (pmO gr key B l perm rs s) t,pmC gr key B l perm rs s t w x a b d f].flatten=pmL gr key B l perm rs s++zcu gr B.H (pmO gr key B l perm rs s) t++pmC gr key B l perm rs s t w x a b d f:=by simp
 have h:=P.G6 k;have g:=P.m.n;rw[Kq _ (by rw[e];omega),e]
def zxD(P:dY gr key B l perm rs s t w x a b d f)(k:ap gr):mW gr Dk (pmL gr key B l perm rs s++zcu gr B.H (pmO gr key B l perm rs s) t++pmC gr key B l perm rs s t w x a b d f)=J (pmZ gr key B l perm rs s t w x a b d f,O)/\qk gr Dk (pmL gr key B l perm rs s++zcu gr B.H (pmO gr key B l perm rs s) t++pmC gr key B l perm rs s t w x a b d f)=J (pmZ gr key B l perm rs s t w x a b d f):=by
 have h:=P.G6 k;have e:=P.m.n;refine⟨?_,Qh k (by decide) (by omega) h.2⟩;rw[P7 k _ (by omega),aE (Nf k (by decide) (by rw[show Dk.size=9 from rfl];omega) h.2)];rfl
def dY.z(P:dY gr key B l perm rs s t w x a b d f)(k:ap gr):E9 gr.Q (pmZ gr key B l perm rs s t w x a b d f):=mQ k _ _
theorem zya:yC gr key B.Hs (zaR gr key l perm rs) x a b d f++(List.range l.length).map (zjO gr B.H (pmO gr key B l perm rs s) t w x)=pmC gr key B l perm rs s t w x a b d f:=rfl
end
variable{n:Nat}
def zCD{gr:am}(k:ap gr){e t:List Int}(D:e.length=n)(G:t.length=n)(A:∀z∈e,E9 gr.Q z)(r:∀z∈t,E9 gr.Q z):aO (σ:=Int) (λj g=>
 (ix t j).bind λv=>
 (ix e j).bind λu=>
 (fb gr (i64.wrap (v+(i64.wrap (u*g))))).bind λo=>
 J (.go o)) (λg=>g) n 0 0=J (yN gr.Q e t n):=by
 have E:=k.p;have F:=k.q;refine bW (eI (λi y=>y=yN gr.Q e t i) (by unfold yN;rfl) ?_ λy h=>h);rintro i y C rfl;refine bB (show i<t.length by omega) (bB (show i<e.length by omega) (ag (ma k _) (ak ?_)));rw[(iY (q:=gr.Q) (by omega) (iP r (by omega)) (iP A (by omega)) (OK (by omega) _ _ _)).1];show _=yN gr.Q e t (i+1);conv=>rhs;unfold yN
 rw[bS (show i<t.length by omega),bS (show i<e.length by omega)]
def zxL{gr:am}(k:ap gr){h:Int}(v:R9 h){g t w x A D E j:List Int}(L:g.length=n)(M:w.length=n)(N:x.length=n)(H:j.length=5)(K:n<=100):aO (σ:=(List Int)×List Int×List Int×List Int×List Int) (λo e=>
 (ix w o).bind λr=>
 (ix ([h]++zcu gr h g t) o).bind λG=>
 (ix x o).bind λu=>
 (cW gr gr.G r).bind λF=>
 (cW gr G u).bind λz=>
 (eu gr [F,z]).bind λC=>
 gd ((e.2.2.1.length+1)*8<=140737488355328/\e.2.2.1.length+1<=4611686018427387904)<|
 J (.go (e.1,e.2.1,e.2.2.1++[C],e.2.2.2.1,e.2.2.2.2))) (λe=>(e.1,e.2.1,e.2.2.1,e.2.2.2.1,e.2.2.2.2)) n 0 (A,zcu gr h g t,j,D,E)=J (A,zcu gr h g t,j++(List.range n).map (zjO gr h g t w x),D,E):=by
 refine bW (eI (λi y=>y=(A,zcu gr h g t,j++(List.range i).map (zjO gr h g t w x),D,E)) (by simp) ?_ (by rintro y rfl;rfl));rintro i y I rfl;refine bB (show i<w.length by omega) (ag (zC0 (by omega)) (bB (show i<x.length by omega) (ag (fB k (fR k) _) (ag (fB k (P5 k v _ _ _) _) (ag (j4 k (bH k _ _) (bH k _ _)) (aJ (by simp;omega) (ak ?_)))))));show _=_;rw[ng,lN,<-gO];simp only[jO,qP,zjO,bS (show i<w.length by omega),bS (show i<x.length by omega)]
def zxg{gr:am}(k:ap gr){h:Int}(r:R9 h){g t w x A D E j:List Int}(u:g.length=n)(N:w.length=n)(P:x.length=n)(K:j.length=5)(M:n<=100):aO (σ:=(List Int)×List Int×List Int×List Int×List Int×Int) (λo e=>
 (ix w o).bind λz=>
 (ix x o).bind λH=>
 (cF gr gr.G z).bind λI=>
 (cF gr e.2.2.2.2.2 H).bind λC=>
 (ep gr [I,C]).bind λF=>
 gd ((e.2.2.1.length+1)*8<=140737488355328/\e.2.2.1.length+1<=4611686018427387904)<|
 (ix e.2.1 o).bind λG=>
 J (.go (e.1,e.2.1,e.2.2.1++[F],e.2.2.2.1,e.2.2.2.2.1,G))) (λe=>(e.1,e.2.1,e.2.2.1,e.2.2.2.1,e.2.2.2.2.1)) n 0 (A,zcu gr h g t,j,D,E,h)=J (A,zcu gr h g t,j++(List.range n).map (zjO gr h g t w x),D,E):=by
 have Q:(zcu gr h g t).length=n:=by simp[zcu,u]
 refine bW (eI (λi y=>y=(A,zcu gr h g t,j++(List.range i).map (zjO gr h g t w x),D,E,hN gr h g t i)) (by simp[hN]) ?_ (by rintro y rfl;rfl));rintro i y L rfl;have v:(zcu gr h g t)[i]'(by omega)=hN gr h g t (i+1):=by simp[zcu]
 refine bB (show i<w.length by omega) (bB (show i<x.length by omega) (ag (fy k (fR k) _) (ag (fy k (P5 k r _ _ _) _) (ag (iZ k (bH k _ _) (bH k _ _)) (aJ (by simp;omega) (bB (l:=zcu gr h g t) (show i<_ by omega) (ak ?_)))))));show _=_;rw[v,ng,lN,<-gO];simp only[jO,qP,zjO,bS (show i<w.length by omega),bS (show i<x.length by omega)]
def zsK{gr:am}(k:ap gr){z:Int}(E:E9 gr.Q z){w t A B C D R:List Int}(v:w.length=n/\∀z∈w,E9 gr.Q z)(u:t.length=n/\∀z∈t,E9 gr.Q z)(F:R.length<=1000)(H:n<=100):aO (σ:=(List Int)×List Int×List Int×List Int×List Int) (λg e=>
 (ix w g).bind λr=>
 (ix t g).bind λo=>
 (fb gr (i64.wrap (r+(i64.wrap (z*o))))).bind λj=>
 gd ((e.2.2.2.2.length+1)*8<=140737488355328/\e.2.2.2.2.length+1<=4611686018427387904)<|
 J (.go (e.1,e.2.1,e.2.2.1,e.2.2.2.1,e.2.2.2.2++[j]))) (λe=>(e.1,e.2.1,e.2.2.1,e.2.2.2.1,e.2.2.2.2)) n 0 (A,B,C,D,R)=J (A,B,C,D,R++(List.range n).map (rsF gr.Q z w t)):=by
 have I:=k.p;have K:=k.q;refine bW (eI (λi y=>y=(A,B,C,D,R++(List.range i).map (rsF gr.Q z w t))) (by simp) ?_ (by rintro y rfl;rfl));rintro i y G rfl;refine bB (show i<w.length by omega) (bB (show i<t.length by omega) (ag (ma k _) (aJ (by simp;omega) (ak ?_))));rw[(iY (q:=gr.Q) (by omega) (iP (i:=i) v.2 (by omega)) E (iP (i:=i) u.2 (by omega))).1];show _=_;rw[ng,lN,<-gO];simp only[jO,qP,rsF,bS (show i<w.length by omega),bS (show i<t.length by omega)]
def ztB{gr:am}(k:ap gr){z:Int}(r:E9 gr.Q z){w t A B C D R:List Int}(o:w.length=n/\∀z∈w,E9 gr.Q z)(j:t.length=n/\∀z∈t,E9 gr.Q z)(E:R.length<=1000)(G:n<=100):aO (σ:=(List Int)×List Int×List Int×List Int×List Int) (λg e=>
 (ix w g).bind λu=>
 (ix t g).bind λv=>
 gd (gr.Q≠0)<|
 gd ((e.2.2.2.2.length+1)*8<=140737488355328/\e.2.2.2.2.length+1<=4611686018427387904)<|
 J (.go (e.1,e.2.1,e.2.2.1,e.2.2.2.1,e.2.2.2.2++[(i64.wrap (u+(i64.wrap (z*v)))).tmod gr.Q]))) (λe=>(e.1,e.2.1,e.2.2.1,e.2.2.2.1,e.2.2.2.2)) n 0 (A,B,C,D,R)=J (A,B,C,D,R++(List.range n).map (rsF gr.Q z w t)):=by
 have H:=k.p;have I:=k.q;refine bW (eI (λi y=>y=(A,B,C,D,R++(List.range i).map (rsF gr.Q z w t))) (by simp) ?_ (by rintro y rfl;rfl));rintro i y F rfl;refine bB (show i<w.length by omega) (bB (show i<t.length by omega) (aJ (by omega) (aJ (by simp;omega) (ak ?_))));rw[(iY (q:=gr.Q) (by omega) (iP (i:=i) o.2 (by omega)) r (iP (i:=i) j.2 (by omega))).2];show _=_;rw[ng,lN,<-gO];simp only[jO,qP,rsF,bS (show i<w.length by omega),bS (show i<t.length by omega)]
def zzo{gr:am}(k:ap gr){e t perm own:List Int}(D:perm.length=n)(H:t.length=n/\∀z∈t,E9 gr.Q z)(G:∀z∈perm,0<=z/\z<e.length)(L:∀z∈e,E9 gr.Q z)(C:own=gB e perm)(N:n<=100):aO (σ:=(List Int)×Int) (λr g=>
 (ix perm r).bind λI=>
 (ix e I).bind λu=>
 gd ((g.1.length+1)*8<=140737488355328/\g.1.length+1<=4611686018427387904)<|
 (ix t r).bind λF=>
 gd (gr.Q≠0)<|
 J (.go (g.1++[u],(i64.wrap (F+(i64.wrap (u*g.2)))).tmod gr.Q))) (λg=>(g.1,g.2)) perm.length 0 ([],0)=J (own,yN gr.Q own t n):=by
 have M:=k.p;have Q:=k.q;have P:own.length=n:=by rw[C];simp[gB,D]
 refine bW (eI (λi y=>y=(own.take i,yN gr.Q own t i)) (by unfold yN;rfl) ?_ ?_)
 ·rintro i y v rfl;have K:=iP G v;obtain⟨j,A⟩:=fF K.1;have o:j<e.length:=by omega
  have E:own[i]'(by omega)=e[j]:=by
   simp only[C,gB,a1x,A,dT];exact bS o
  refine bB v ?_;rw[A];refine bB o (aJ (by simp;omega) (bB (show i<t.length by omega) (aJ (by omega) (ak ?_))));rw[(iY (q:=gr.Q) (by omega) (iP (i:=i) H.2 (by omega)) (iP (i:=j) L o) (OK (by omega) _ _ _)).2];show _=(own.take (i+1),yN gr.Q own t (i+1));conv=>rhs;unfold yN
  rw[bS (show i<t.length by omega),bS (show i<own.length by omega),nT (show i<own.length by omega),E]
 rintro y rfl;rw[Mm (by omega),D]
attribute [local irreducible] pmL pmE pmO pmC pmZ zjO rsF sdV hN
section
variable {gr:am}{key:Int}{B:ct}{l:List ao}{perm rs s t w x:List Int}{a b d f:Int}
def m7(l:List ao):(sdV l).1.length=l.length/\(sdV l).2.length=l.length:=by unfold sdV;simp
set_option maxHeartbeats 4000000 in
def zAa(k:ap gr)(P:dY gr key B l perm rs s t w x a b d f):GU gr B key l perm rs (s++(t++(a::b::d::f::(w++x))))=J (kO gr key B l perm rs s t w x a b d f,O):=by
 have hp:=k.p;have hq:=k.q;have e:0<gr.Q/\gr.Q<=2000000000:=by omega
 have hn:=P.m.n;have dW:=P.m.pl;have fJ:=P.m.rl;have hk:=d9 k P.m.key;have M:=d9 k P.bs.h;have F:=vr k P.m;have lv:(zaR gr key l perm rs).length=l.length:=by rw[lJ,P.m.pl]
 have o:=sH k F;have K:=m7 (zaR gr key l perm rs);rw[lv]at K;obtain⟨u,z⟩:=P.o k;obtain⟨tc,Q⟩:=P.e k;have g:=P.z k;have G:=P.c.x.1;have H:=P.c.w.1;have I:=P.c.t.1;have j:=P.c.s.1;have L:=FF k P.bs.s;have RG:=P.bs.l;have T:=Vj k P.m;have U:=zC4 (ss:=s) k P.Qd (by omega) (by omega) P.bl;have W:=(SH P k).1;have c4:=(zyl P k).1;have c5:=zFd P k;have c6:=zCh k M (es:=pmO gr key B l perm rs s) (ts:=t) (by omega) (by omega);have c7:=zCD k u I z P.c.t.2;have c8:=(tB (l:=zaR gr key l perm rs) (by omega)).1;have c9:=zCe P k;have zn:=(zxD P k).1;have N:=zxL (A:=zev gr B.Hs perm s) (D:=[]) (E:=[]) (t:=t) k M u H G (show(yC gr key B.Hs (zaR gr key l perm rs) x a b d f).length=5 from rfl) (by omega);rw[zya]at N;have p1:=pC (m:=x) k L (by omega);have p2:=pC (m:=x) k o.1 (by omega);have p3:=pC (m:=x) k o.2 (by omega);have d1:=((zxw e P.c.s.2).1.trans (by rw[j]):GO s gr.Q=J (smN gr.Q s l.length))
 have d2:=((TS e (m:=pmE gr key B l perm rs s) P.c.s.2 Q (by omega)).trans (by rw[j]):xB s (pmE gr key B l perm rs s) gr.Q=J (dtN gr.Q s (pmE gr key B l perm rs s) l.length))
 have d3:=((TS e (l:=rs) (m:=pmO gr key B l perm rs s) (zG P.m.re) z (by omega)).trans (by rw[P.m.rl]):xB rs (pmO gr key B l perm rs s) gr.Q=J (dtN gr.Q rs (pmO gr key B l perm rs s) l.length))
 have S:=N4 e.1 s l.length;have u7:=A4 e.1 s (pmE gr key B l perm rs s) l.length;have oT:=A4 e.1 rs (pmO gr key B l perm rs s) l.length;have hy:=OK e.1 (pmO gr key B l perm rs s) t l.length;have hcn:(zcu gr B.H (pmO gr key B l perm rs s) t).length=l.length:=(P.mJ k).1;have x1:=(ma k _).trans (iB (λv=>J (v%gr.Q)) (iY (by omega) P.c.a g S).1);have x2:=(ma k _).trans (iB (λv=>J (v%gr.Q)) (iY (by omega) P.c.b g u7).1);have x3:=(ma k _).trans (iB (λv=>J (v%gr.Q)) (iY (by omega) P.c.d g hy).1);have x4:=(ma k _).trans (iB (λv=>J (v%gr.Q)) (iY (by omega) P.c.f g oT).1);have r1:=λR r=>zsK (A:=zev gr B.Hs perm s) (B:=zcu gr B.H (pmO gr key B l perm rs s) t) (C:=pmC gr key B l perm rs s t w x a b d f) (D:=[pmZ gr key B l perm rs s t w x a b d f]) (R:=R) k g P.c.w P.c.t r (by omega)
 have r2:=λR r=>zsK (A:=zev gr B.Hs perm s) (B:=zcu gr B.H (pmO gr key B l perm rs s) t) (C:=pmC gr key B l perm rs s t w x a b d f) (D:=[pmZ gr key B l perm rs s t w x a b d f]) (R:=R) k g P.c.x ⟨u,z⟩ r (by omega)
 clear K o F L;unfold GU;refine bW (ag (mE j) (ag (mE I) (ag (Al _ _) (ag (Al _ _) (ag (Al _ _) (ag (Al _ _) (ag (mE H) (ag (zAy G) ?_))))))));dsimp only;refine ag T (ag U (ag W (ag c4 (bQ rfl (ag c5 (ag c6 (ag c7 (ag c8 ?_))))))));refine ag (fB k (fR k) _) (ag (fB k (fR k) _) (ag p1 (ag (j4 k (bH k _ _) (fO k _ _)) (ag (fB k (fR k) _) (ag (fB k (fR k) _) (ag p2 (ag (j4 k (bH k _ _) (fO k _ _)) (ag (fB k hk _) (ag p3 (ag (j4 k (bH k _ _) (fO k _ _)) (aJ ?_ (ag rfl (ag N (ag c9 (ag zn (bQ rfl ?_))))))))))))))))
 ·simp only[fG,iC];omega
 refine ag d1 (ag x1 (ag d2 (ag x2 (ag x3 (ag d3 (ag x4 (ag (r1 _ ?_) (ag (r2 _ ?_) (ak ?_)))))))))
 ·simp
 ·simp;omega
 unfold kO xq;rfl
end
end
section
attribute [local irreducible] chG zim zev zaR zdP zcu zaP dtN smN yN
section
variable {gr:am}{key:Int}{B:ct}{l:List ao}{perm rs s t w x:List Int}{a b d f:Int}
def cU{m:Nat}(h:m<=1000000){z:Int}(e:z=(m:Int)):i64.wrap z=(m:Int):=by rw[e];exact aK (by omega) (by omega)
def zCy(k:ap gr)(P:dY gr key B l perm rs s t w x a b d f):Bg gr key l (zaR gr key l perm rs) (zev gr B.Hs perm s)=J (pmE gr key B l perm rs s):=by
 unfold Bg;exact bW (ag (SH P k).2 (ag (zyl P k).2 (ak rfl)))
def zCr(k:ap gr)(P:dY gr key B l perm rs s t w x a b d f){ch rr:List Int}:AX gr key l (zaR gr key l perm rs) ⟨zev gr B.Hs perm s,zcu gr B.H (pmO gr key B l perm rs s) t,⟨pmC gr key B l perm rs s t w x a b d f,ch,rr⟩⟩=J (pmZ gr key B l perm rs s t w x a b d f):=by
 have o:=P.m.n;have e:=P.len k;have g:=(P.mJ k).1;have j:=(P.o9 k).1;unfold AX;dsimp only;exact bW (ag (SH P k).2 (aJ (by rw[e,g];omega) (aJ (by rw[cy,e,g,j];omega) (ag (zxD P k).2 (ak rfl)))))
theorem zC5:pmO gr key B l perm rs s=gB (pmE gr key B l perm rs s) perm:=rfl
attribute [local irreducible] pmL pmE pmO pmC pmZ zjO rsF sdV hN
set_option maxHeartbeats 4000000 in
def zG2(k:ap gr)(P:dY gr key B l perm rs s t w x a b d f):Gg gr key B l perm rs (s++(t++(a::b::d::f::(w++x))))=J (kO gr key B l perm rs s t w x a b d f):=by
 have hp:=k.p;have hq:=k.q;have o:0<gr.Q/\gr.Q<=2000000000:=by omega
 have hn:=P.m.n;have dW:=P.m.pl;have fJ:=P.m.rl;have hk:=d9 k P.m.key;have N:=d9 k P.bs.h;have K:=vr k P.m;have lv:(zaR gr key l perm rs).length=l.length:=by rw[lJ,P.m.pl]
 have F:=sH k K;have L:=m7 (zaR gr key l perm rs);rw[lv]at L;obtain⟨Q,T⟩:=P.o k;obtain⟨tc,I⟩:=P.e k;have j:=P.z k;have U:=P.c.x.1;have W:=P.c.w.1;have Rr:=P.c.t.1;have u:=P.c.s.1;have M:=FF k P.bs.s;have RG:=P.bs.l;have c1:=Vc k P.m;have c2:=zB0 (ss:=s) k P.Qd (by omega) (by omega) P.bl;have c3:=zCy k P;have c6:=zDm k N (es:=pmO gr key B l perm rs s) (ts:=t) (by omega) (by omega);have c7:=zzo (e:=pmE gr key B l perm rs s) (own:=pmO gr key B l perm rs s) k dW P.c.t (λzx1 j=>by have:=P.m.pr zx1 j;omega) I zC5 (by omega);have c8:=(tB (l:=zaR gr key l perm rs) (by omega)).2;have c9:=zCr k P (ch:=[]) (rr:=[]);have S:=zxg (A:=zev gr B.Hs perm s) (D:=[]) (E:=[]) (t:=t) k N Q W U (show(yC gr key B.Hs (zaR gr key l perm rs) x a b d f).length=5 from rfl) (by omega);rw[zya]at S;have p1:=oZ (m:=x) k M (by omega);have p2:=oZ (m:=x) k F.1 (by omega);have p3:=oZ (m:=x) k F.2 (by omega);have d1:=((zxw o P.c.s.2).2.trans (by rw[u]):Hz s gr.Q=J (smN gr.Q s l.length))
 have d2:=((SD o (m:=pmE gr key B l perm rs s) P.c.s.2 I (by omega)).trans (by rw[u]):vZ s (pmE gr key B l perm rs s) gr.Q=J (dtN gr.Q s (pmE gr key B l perm rs s) l.length))
 have d3:=((SD o (l:=rs) (m:=pmO gr key B l perm rs s) (zG P.m.re) T (by omega)).trans (by rw[P.m.rl]):vZ rs (pmO gr key B l perm rs s) gr.Q=J (dtN gr.Q rs (pmO gr key B l perm rs s) l.length))
 have Th:=N4 o.1 s l.length;have u7:=A4 o.1 s (pmE gr key B l perm rs s) l.length;have oT:=A4 o.1 rs (pmO gr key B l perm rs s) l.length;have H:=OK o.1 (pmO gr key B l perm rs s) t l.length;have x1:=(iY (by omega) P.c.a j Th).2;have x2:=(iY (by omega) P.c.b j u7).2;have x3:=(iY (by omega) P.c.d j H).2;have x4:=(iY (by omega) P.c.f j oT).2;have r1:=λR G=>ztB (A:=zev gr B.Hs perm s) (B:=zcu gr B.H (pmO gr key B l perm rs s) t) (C:=pmC gr key B l perm rs s t w x a b d f) (D:=[pmZ gr key B l perm rs s t w x a b d f]) (R:=R) k j P.c.w P.c.t G (by omega)
 have r2:=λR G=>ztB (A:=zev gr B.Hs perm s) (B:=zcu gr B.H (pmO gr key B l perm rs s) t) (C:=pmC gr key B l perm rs s t w x a b d f) (D:=[pmZ gr key B l perm rs s t w x a b d f]) (R:=R) k j P.c.x ⟨Q,T⟩ G (by omega)
 have v:gr.Q≠0:=by omega
 clear L F K M;have w2:i64.wrap (2*(l.length:Int))=((2*l.length:Nat):Int):=cU (by omega) (by omega);have w21:i64.wrap (((2*l.length:Nat):Int)+1)=((2*l.length+1:Nat):Int):=cU (by omega) (by omega);have w22:i64.wrap (((2*l.length:Nat):Int)+2)=((2*l.length+2:Nat):Int):=cU (by omega) (by omega);have w23:i64.wrap (((2*l.length:Nat):Int)+3)=((2*l.length+3:Nat):Int):=cU (by omega) (by omega);have w24:i64.wrap (((2*l.length:Nat):Int)+4)=((2*l.length+4:Nat):Int):=cU (by omega) (by omega);have w3:i64.wrap (3*(l.length:Int))=((3*l.length:Nat):Int):=cU (by omega) (by omega);have w34:i64.wrap (((3*l.length:Nat):Int)+4)=((3*l.length+4:Nat):Int):=cU (by omega) (by omega);generalize r:s++(t++(a::b::d::f::(w++x)))=g;have a27:g.length=4*l.length+4:=by rw[<-r];simp;omega
 have hs:(g.take l.length).drop 0=s:=by rw[<-r,<-u];simp
 have ht:(g.take (2*l.length)).drop l.length=t:=by
  rw[<-r,<-gO,a1X (by simp;omega),QI u]
 have hw:(g.take (3*l.length+4)).drop (2*l.length+4)=w:=by
  have e:g=(s++(t++[a,b,d,f]))++(w++x):=by rw[<-r];simp
  rw[e,<-gO,a1X (by simp;omega),QI (by simp;omega)]
 have hx:(g.take g.length).drop (3*l.length+4)=x:=by
  have e:g=(s++(t++([a,b,d,f]++w)))++x:=by rw[<-r];simp
  rw[jQ,e,QI (by simp;omega)]
 have z:∀(i:Nat) (y:Int),i<4->[a,b,d,f][i]? =J y->ix g ((2*l.length+i:Nat):Int)=J y:=λi y hi H=>by
  have e:g=(s++t)++([a,b,d,f]++(w++x)):=by rw[<-r];simp
  refine JI ?_;have h0:(s++t).length=2*l.length:=by simp;omega
  rw[e,f9 (by omega),h0,WH,fE (by simpa using hi),H]
 unfold Gg;simp only[w2,w21,w22,w23,w24,w3,w34,dT,hs,ht,hw,hx];refine bW (ag c1 (aJ (by omega) (aJ (by omega) (aJ (by omega) (aJ (by omega) (aJ (by omega) (ag (z 0 a (by omega) rfl) (ag (z 1 b (by omega) rfl) (ag (z 2 d (by omega) rfl) (ag (z 3 f (by omega) rfl) (aJ (by omega) (aJ (by omega) (aJ (by omega) (aJ (by omega) (aJ (by omega) ?_)))))))))))))));refine ag c2 (ag c3 (ag c7 (ag c6 (ag c8 ?_))));refine ag (fy k (fR k) _) (ag (fy k (fR k) _) (ag p1 (ag (iZ k (bH k _ _) (fO k _ _)) (ag (fy k (fR k) _) (ag (fy k (fR k) _) (ag p2 (ag (iZ k (bH k _ _) (fO k _ _)) (ag (fy k hk _) (ag p3 (ag (iZ k (bH k _ _) (fO k _ _)) (ag S (ag c9 ?_))))))))))));refine aJ v (ag d1 (aJ v (ag d2 (aJ v (ag d3 (aJ v ?_))))));dsimp only;rw[x1,x2,x3,x4];refine ag (r1 _ ?_) (ag (r2 _ ?_) (ak ?_))
 ·simp
 ·simp;omega
 unfold kO xq;rfl
end
end
abbrev xD:cO:=⟨[],[],⟨[],[],[]⟩⟩
def dm(gr:am)(key:Int)(l:List ao):Bool:=aL gr key&&(di 1 12 l.length&&l.all (b8 gr))
noncomputable def ku(gr:am)(n:Nat)(perm rs:List Int):Bool:=decide (perm.length=n)&&dc perm&&(decide (rs.length=n)&&rs.all (dB gr))
def uE{gr:am}(k:ap gr)(key:Int)(l:List ao){B:ct}{e:Bool}(g:kR gr (l.length:Int)=J (B,e)):qq gr key l=J (if dm gr key l=O then(B,e)else(⟨0,[]⟩,Z)):=by
 unfold qq;rw[XZ,NQ.2 k,NJ k,xu k,g];unfold dm;cases aL gr key<;>cases (di 1 12 l.length&&l.all (b8 gr))<;>rfl
def Lg{gr:am}(k:¬ap gr)(key:Int)(l:List ao):qq gr key l=J (⟨0,[]⟩,Z):=by
 unfold qq;rw[XZ,o4 k];rfl
def O7{gr:am}{key:Int}{l:List ao}{perm rs:List Int}:(dm gr key l&&ku gr l.length perm rs)=O↔ni gr key l perm rs:=zF7
structure Yu (gr:am) (key:Int) (l:List ao) (perm rs aI:List Int) (p:cO):Prop where
 k:ap gr
 x:∃(B:ct) (s t w x:List Int) (a b d f:Int),aI=s++(t++(a::b::d::f::(w++x)))/\dY gr key B l perm rs s t w x a b d f/\p=kO gr key B l perm rs s t w x a b d f/\kR gr (l.length:Int)=J (B,O)
def zKr(gr:am)(key:Int){l:List ao}(W:l.length<=20)(perm rs e:List Int):∃p t,qO gr key l perm rs e=J (p,t)/\wg gr key l perm rs e=J (p,t)/\(t=Z->p=xD)/\(t=O->Yu gr key l perm rs e p):=by
 have H:i64.wrap (i64.wrap (4*(l.length:Int))+4)=((4*l.length+4:Nat):Int):=by
  rw[aK (n:=4*(l.length:Int)) (by omega) (by omega)];exact cU (by omega) (by omega)
 by_cases k:ap gr
 ·have hq:=k.q;have hp:=k.p;obtain⟨B,r,L,A,M⟩:=Td k (n:=l.length) (by omega);have F:((rs.length:Int) !=(l.length:Int))= !decide (rs.length=l.length):=by by_cases h:rs.length=l.length<;>simp[h];omega
  have G:((e.length:Int) !=((4*l.length+4:Nat):Int))= !decide (e.length=4*l.length+4):=by by_cases h:e.length=4*l.length+4<;>simp[h];omega
  cases o:dm gr key l
  ·refine⟨xD,Z,?_,?_,λ_=>rfl,λh=>by cases h⟩
   ·unfold qO;rw[uE k key l A,o];rfl
   unfold wg;rw[uT k,show(aL gr key&&(di 1 12 l.length&&l.all (b8 gr)))=dm gr key l from rfl,o];rfl
  cases j:ku gr l.length perm rs
  ·refine⟨xD,Z,?_,?_,λ_=>rfl,λh=>by cases h⟩
   ·unfold qO;rw[uE k key l A,o,Ab k (by omega),show(decide (perm.length=l.length)&&dc perm&&(decide (rs.length=l.length)&&rs.all (dB gr)))=ku gr l.length perm rs from rfl,j];cases r<;>rfl
   unfold wg;rw[uT k,show(aL gr key&&(di 1 12 l.length&&l.all (b8 gr)))=dm gr key l from rfl,o,TK perm l.length (by omega),BG (by omega) (by omega),F];unfold ku at j;cases N:(decide (perm.length=l.length)&&dc perm)
   ·simp
   cases E:decide (rs.length=l.length)
   ·simp
   rw[N,E]at j;have j:rs.all (dB gr)=Z:=by simpa using j
   simp[j]
  have m:=O7.1 (show(dm gr key l&&ku gr l.length perm rs)=O by rw[o,j];rfl)
  have I:∀g,xF gr e=J g->qO gr key l perm rs e=if(r&&(decide (e.length=4*l.length+4)&&g))=O then(GU gr B key l perm rs e).bind (λz=>J (z.1,z.2))else J (xD,Z):=by
   intro g D;unfold qO;rw[uE k key l A,o,Ab k (by omega),show(decide (perm.length=l.length)&&dc perm&&(decide (rs.length=l.length)&&rs.all (dB gr)))=ku gr l.length perm rs from rfl,j,H,G,D];cases r<;>cases decide (e.length=4*l.length+4)<;>cases g<;>rfl
  have S:∀g,sF gr e=J g->wg gr key l perm rs e=if(r&&(decide (e.length=4*l.length+4)&&g))=O then(Gg gr key B l perm rs e).bind (λz=>J (z,O))else J (xD,Z):=by
   intro g D;unfold wg;have E:decide (rs.length=l.length)=O:=by simp[m.rl]
   have Q:(decide (perm.length=l.length)&&dc perm)=O:=by simp[m.pl,m.pb]
   rw[uT k,show(aL gr key&&(di 1 12 l.length&&l.all (b8 gr)))=dm gr key l from rfl,o,TK perm l.length (by omega),BG (l:=rs) (by omega) (by omega),F,E,Q,m.re,H,G,D,L];cases r<;>cases decide (e.length=4*l.length+4)<;>cases g<;>rfl
  have u:=I _ (yc (by omega) (by omega) e);have v:=S _ (BG (by omega) (by omega) e);by_cases C:(r&&(decide (e.length=4*l.length+4)&&e.all (dB gr)))=O
  ·rw[aE C]at u v;simp only[bC,eE]at C;obtain⟨T,K,U⟩:=C;subst T;obtain⟨s,t,w,x,a,b,d,f,rfl,R⟩:=zsQ K U;have P:dY gr key B l perm rs s t w x a b d f:=⟨m,M rfl,R⟩
   rw[zAa k P]at u;rw[zG2 k P]at v;refine⟨kO gr key B l perm rs s t w x a b d f,O,u,v,λh=>(by cases h),λ_=>⟨k,B,s,t,w,x,a,b,d,f,rfl,P,rfl,A⟩⟩
  rw[aA C]at u v;refine⟨xD,Z,u,v,λ_=>rfl,λh=>by cases h⟩
 refine⟨xD,Z,?_,?_,λ_=>rfl,λh=>by cases h⟩
 ·unfold qO;rw[Lg k];rfl
 unfold wg;rw[D1 k];rfl
def zDj{gr:am}{key:Int}{l:List ao}(r:l.length<=20){perm rs e:List Int}{p:cO}(h:Yu gr key l perm rs e p):p.cC.length<=1000/\p.aH.length<=1000/\p.Pi.aF.length<=1000/\p.Pi.aX.length<=1000/\p.Pi.aG.length<=1000:=by
 obtain⟨k,B,s,t,w,x,a,b,d,f,_,P,rfl,_⟩:=h;have g:=(P.f8 k).1;have j:=(P.mJ k).1;have o:=(P.o9 k).1;refine⟨?_,?_,?_,by simp[kO],by simp[kO,xq];omega⟩
 ·show(zev gr B.Hs perm s).length<=_;omega
 ·show(zcu gr B.H (pmO gr key B l perm rs s) t).length<=_;omega
 show(pmC gr key B l perm rs s t w x a b d f).length<=_;omega
def oL(gr:am)(n:Nat)(p:cO):Bool:=decide (p.cC.length=n)&&(decide (p.aH.length=n)&&(decide (p.Pi.aF.length=n+5)&&(decide (p.Pi.aX.length=1)&&(decide (p.Pi.aG.length=2*n+4)&&(p.cC.all (aL gr)&&(p.aH.all (aL gr)&&(p.Pi.aF.all (aL gr)&&p.Pi.aG.all (dB gr))))))))
def iT(a b:Nat):((a:Int)==(b:Int))=decide (a=b):=by by_cases h:a=b<;>simp[h];omega
def zEM{gr:am}(k:ap gr){n:Nat}(F:n<=1000)(p:cO):L6 gr p (n:Int)=J (oL gr n p):=by
 have H:=k.q;have G:=k.p;have A:i64.wrap ((n:Int)+5)=((n+5:Nat):Int):=cU (by omega) (by omega)
 have C:i64.wrap (i64.wrap (2*(n:Int))+4)=((2*n+4:Nat):Int):=by
  rw[aK (n:=2*(n:Int)) (by omega) (by omega)];exact cU (by omega) (by omega)
 unfold L6;have D:((p.Pi.aX.length:Int)==1)=decide (p.Pi.aX.length=1):=iT _ 1;rw[A,C,iT,iT,iT,iT,D,C3 k,C3 k,C3 k,yc (by omega) (by omega)];unfold oL;generalize decide (p.cC.length=n)=e;generalize decide (p.aH.length=n)=g;generalize decide (p.Pi.aF.length=n+5)=j;generalize decide (p.Pi.aX.length=1)=o;generalize decide (p.Pi.aG.length=2*n+4)=r;generalize p.cC.all (aL gr)=u;generalize p.aH.all (aL gr)=v;generalize p.Pi.aF.all (aL gr)=z;generalize p.Pi.aG.all (dB gr)=E;cases e<;>cases g<;>cases j<;>cases o<;>cases r<;>cases u<;>cases v<;>cases z<;>rfl
def zFv{gr:am}(k:ap gr){n:Nat}(F:n<=1000)(p:cO):KB gr (n:Int) p=J (oL gr n p):=by
 have H:=k.q;have G:=k.p;have A:i64.wrap ((n:Int)+5)=((n+5:Nat):Int):=cU (by omega) (by omega)
 have C:i64.wrap (i64.wrap (2*(n:Int))+4)=((2*n+4:Nat):Int):=by
  rw[aK (n:=2*(n:Int)) (by omega) (by omega)];exact cU (by omega) (by omega)
 unfold KB;have D:((p.Pi.aX.length:Int)==1)=decide (p.Pi.aX.length=1):=iT _ 1;rw[A,C,iT,iT,iT,iT,D,yf k,yf k,yf k,BG (by omega) (by omega)];unfold oL;generalize decide (p.cC.length=n)=e;generalize decide (p.aH.length=n)=g;generalize decide (p.Pi.aF.length=n+5)=j;generalize decide (p.Pi.aX.length=1)=o;generalize decide (p.Pi.aG.length=2*n+4)=r;generalize p.cC.all (aL gr)=u;generalize p.aH.all (aL gr)=v;generalize p.Pi.aF.all (aL gr)=z;generalize p.Pi.aG.all (dB gr)=E;cases e<;>cases g<;>cases j<;>cases o<;>cases r<;>cases u<;>cases v<;>cases z<;>rfl
def alN(q:Int)(e:List Int):Nat->Int
 |0=>1
 |i+1=>(alN q e i*e.getD i 0)%q
theorem NS{q:Int}(g:1<q)(e:List Int):∀i,E9 q (alN q e i)
 |0=>⟨by show(0:Int)<=1;omega,g⟩
 |i+1=>gC (by omega) _
def xw{q a b:Int}(r:q<=2000000000)(g:E9 q a)(e:E9 q b):i64.wrap (a*b)=a*b/\(i64.wrap (a*b)).tmod q=(a*b)%q:=by
 have j:0<=a*b:=tM g.1 e.1;have o:a*b<=2000000000*2000000000:=xO (by have:=g.2;omega) (by have:=e.2;omega) e.1 (by omega);rw[aK (n:=a*b) (by omega) (by omega)];exact⟨rfl,ju j⟩
def zyA{gr:am}(k:ap gr){e:List Int}(r:∀z∈e,E9 gr.Q z):aO (σ:=Int) (λkc g=>
 (ix e kc).bind λu=>
 (fb gr (i64.wrap (g*u))).bind λo=>
 J (.go o)) (λg=>g) e.length 0 1=J (alN gr.Q e e.length):=by
 have v:=k.p;have A:=k.q;refine bW (eI (λi y=>y=alN gr.Q e i) rfl ?_ λy h=>h);rintro i y j rfl;refine bB j (ag (ma k _) (ak ?_));rw[(xw (q:=gr.Q) (by omega) (NS (by omega) _ _) (iP r j)).1];show _=(alN gr.Q e i*e.getD i 0)%gr.Q;rw[bS j]
def zyC{gr:am}(k:ap gr){e:List Int}(r:∀z∈e,E9 gr.Q z):aO (σ:=Int) (λi16 j=>
 (ix e i16).bind λo=>
 gd (gr.Q≠0)<|
 J (.go ((i64.wrap (j*o)).tmod gr.Q))) (λj=>j) e.length 0 1=J (alN gr.Q e e.length):=by
 have u:=k.p;have v:=k.q;refine bW (eI (λi y=>y=alN gr.Q e i) rfl ?_ λy h=>h);rintro i y g rfl;refine bB g (aJ (by omega) (ak ?_));rw[(xw (q:=gr.Q) (by omega) (NS (by omega) _ _) (iP r g)).2];show _=(alN gr.Q e i*e.getD i 0)%gr.Q;rw[bS g]
def Ym{gr:am}(k:ap gr){x:Int}(h:aL gr x=O){s:Int}(j:0<=s):av gr (av gr x s) (-1)=av gr x (0-s):=by
 have o:=k.q;have e:(-1:Int)%gr.Q=(gr.Q-1)%gr.Q:=by rw[show gr.Q-1=-1+gr.Q by omega,Wx]
 have g:av gr (av gr x s) (-1)=av gr (av gr x s) (gr.Q-1):=zu7 _ e;rw[g,X3 k h j (by omega)];refine zu7 _ ?_;rw[show s*(gr.Q-1)=(0-s)+gr.Q*s by grind,HR]
def bef(h:Int)(e:List Int)(i:Nat):Int:=([h]++e).getD i 0
def Fs{gr:am}(k:ap gr){h:Int}(r:aL gr h=O){e:List Int}(o:∀z∈e,aL gr z=O)(i:Nat)(u:i<=e.length):ix ([h]++e) (i:Int)=J (bef h e i)/\R9 (bef h e i):=by
 have j:i<([h]++e).length:=by simp;omega
 unfold bef;rw[hZ j,bS j];refine⟨rfl,d9 k ?_⟩;rcases ke.1 (eL j)with g|g
 ·rw[gE]at g;rw[g];exact r
 exact o _ g
section
attribute [local irreducible] chG zim zdP zaP alN sdV
def wvL(key:Int)(l out:List ao)(p:cO):List Int:=zdP key l out p.cC
def wvE(gr:am)(key:Int)(l out:List ao)(p:cO):List Int:=zim gr JC (wvL key l out p) l.length
def wvZ(gr:am)(key:Int)(l out:List ao)(p:cO):Int:=chG gr Dk (wvL key l out p++p.aH++p.Pi.aF)
def Ji(gr:am)(B:ct)(l:List ao)(e g:List Int)(o j:Int):List Int:=[aQ gr [aQ gr g,av gr (aQ gr B.Hs) (-1)],zaP gr g e 1,aQ gr [o,av gr B.H (0-j)],zaP gr (sdV l).1 e 1,zaP gr (sdV l).2 e 1]
def FO(gr:am)(key:Int)(B:ct)(out:List ao)(x r:List Int):List Int:=[av gr gr.G (r.getD 0 0),aQ gr [av gr gr.G (r.getD 1 0),zaP gr B.Hs x 1],av gr gr.G (r.getD 2 0),aQ gr [av gr gr.G (i64.wrap (0-r.getD 3 0)),zaP gr (sdV out).1 x 1],aQ gr [av gr key (i64.wrap (0-r.getD 3 0)),zaP gr (sdV out).2 x 1]]
def zjf(gr:am)(h:Int)(e x r:List Int)(i:Nat):Int:=aQ gr [av gr gr.G (r.getD (4+i) 0),av gr (bef h e i) (x.getD i 0)]
def hlB(gr:am)(z c b d:Int):Bool:=aQ gr [c,av gr b z]==d
def qF(gr:am)(z:Int)(c left right:List Int)(i:Nat):Bool:=hlB gr z (c.getD i 0) (left.getD i 0) (right.getD i 0)
def mX(gr:am)(B:ct)(l:List ao)(e:List Int)(p:cO):List Int:=Ji gr B l e p.cC (p.aH.getD (l.length-1) 0) (alN gr.Q e e.length)++p.aH
def nH(gr:am)(key:Int)(B:ct)(n:Nat)(out:List ao)(p:cO):List Int:=FO gr key B out (p.Pi.aG.drop (n+4)) p.Pi.aG++(List.range n).map (zjf gr B.H p.aH (p.Pi.aG.drop (n+4)) p.Pi.aG)
def tV(gr:am)(key:Int)(B:ct)(l out:List ao)(p:cO):Bool:=
 decide (out.length=l.length)&&(oL gr l.length p&&((p.Pi.aX.getD 0 0==wvZ gr key l out p)&&(List.range (5+l.length)).all (qF gr (wvZ gr key l out p) p.Pi.aF (mX gr B l (wvE gr key l out p) p) (nH gr key B l.length out p))))
structure mg (gr:am) (key:Int) (B:ct) (l out:List ao) (p:cO):Prop where
 key:aL gr key=O
 n:1<=l.length/\l.length<=12
 lc:∀c∈l,b8 gr c=O
 oc:∀c∈out,b8 gr c=O
 ol:out.length=l.length
 bs:sG gr l.length B
 f8:p.cC.length=l.length/\∀z∈p.cC,aL gr z=O
 mJ:p.aH.length=l.length/\∀z∈p.aH,aL gr z=O
 o9:p.Pi.aF.length=l.length+5/\∀z∈p.Pi.aF,aL gr z=O
 cS:p.Pi.aX.length=1
 rsp:p.Pi.aG.length=2*l.length+4/\∀z∈p.Pi.aG,E9 gr.Q z
section
variable {gr:am}{key:Int}{B:ct}{l out:List ao}{p:cO}
def mg.len(V:mg gr key B l out p):(wvL key l out p).length=1+5*l.length:=by
 have e:=V.f8.1;have g:=V.ol;unfold wvL;rw[Fo,e];omega
def mg.zH(k:ap gr)(V:mg gr key B l out p):(wvL key l out p).all cT=O:=GY k V.key V.lc V.oc (pJ k (bc.2 V.f8.2))
def mg.Ts(V:mg gr key B l out p):q7 key l out p.cC=J (wvL key l out p)/\sP key l out p.cC=J (wvL key l out p):=by
 have j:=V.n;have e:=V.f8.1;have g:=V.ol;exact⟨ER (by omega) (by omega) (by omega),Au (by omega) (by omega) (by omega)⟩
def mg.YC(k:ap gr)(V:mg gr key B l out p):A1 gr JC (wvL key l out p) (l.length:Int)=J (wvE gr key l out p,O)/\Bg gr key l out p.cC=J (wvE gr key l out p):=by
 have e:=V.n;refine⟨zxs k (by decide) (by rw[V.len];omega) (V.zH k) (by omega) (by omega),?_⟩;unfold Bg;exact bW (ag V.Ts.2 (ag (YT k (by decide) (by rw[V.len];omega) (V.zH k) (by omega)) (ak rfl)))
def mg.e(k:ap gr)(V:mg gr key B l out p):(wvE gr key l out p).length=l.length/\∀z∈wvE gr key l out p,E9 gr.Q z:=zxA k _ _ _
def mg.G6(k:ap gr)(V:mg gr key B l out p):(wvL key l out p++p.aH++p.Pi.aF).length=6+7*l.length/\(wvL key l out p++p.aH++p.Pi.aF).all cT=O:=by
 have e:=V.len;have g:=V.mJ.1;have j:=V.o9.1;refine⟨by rw[cy,cy,e,g,j];omega,?_⟩;rw[kU,kU,V.zH k,pJ k (bc.2 V.mJ.2),pJ k (bc.2 V.o9.2)];rfl
def mg.cat(k:ap gr)(V:mg gr key B l out p):se [wvL key l out p,p.aH,p.Pi.aF]=J (wvL key l out p++p.aH++p.Pi.aF):=by
 have e:[wvL key l out p,p.aH,p.Pi.aF].flatten=wvL key l out p++p.aH++p.Pi.aF:=by simp
 have h:=V.G6 k;have g:=V.n;rw[Kq _ (by rw[e];omega),e]
def mg.a4y(k:ap gr)(V:mg gr key B l out p):mW gr Dk (wvL key l out p++p.aH++p.Pi.aF)=J (wvZ gr key l out p,O):=by
 have h:=V.G6 k;have e:=V.n;rw[P7 k _ (by omega),aE (Nf k (by decide) (by rw[show Dk.size=9 from rfl];omega) h.2)];rfl
def mg.a5h(k:ap gr)(V:mg gr key B l out p):AX gr key l out p=J (wvZ gr key l out p):=by
 have h:=V.G6 k;have o:=V.n;have e:=V.len;have g:=V.mJ.1;have j:=V.o9.1;unfold AX;exact bW (ag V.Ts.2 (aJ (by rw[e,g];omega) (aJ (by rw[cy,e,g,j];omega) (ag (Qh k (by decide) (by omega) h.2) (ak rfl)))))
def UO(E:aL gr key=O)(F:1<=l.length/\l.length<=12)(H:∀c∈l,b8 gr c=O)(I:∀c∈out,b8 gr c=O)(D:sG gr l.length B)(G:out.length=l.length)(e:oL gr l.length p=O):mg gr key B l out p:=by
 simp only[oL,bC,eE]at e;obtain⟨g,j,o,r,u,v,z,A,C⟩:=e;exact⟨E,F,H,I,G,D,⟨g,bc.1 v⟩,⟨j,bc.1 z⟩,⟨o,bc.1 A⟩,r,⟨u,zG C⟩⟩
def F4(k:ap gr){x y w z:Int}(e:R9 x)(g:R9 y):uq x y w gr.P gr.Q gr.G z=J (hlB gr z x y w):=by
 unfold uq;show(cW gr y z).bind _=_;rw[fB k g,aP];show(eu gr _).bind _=_;rw[j4 k e (bH k _ _),aP];rfl
def zwZ(k:ap gr){h z:Int}(K:aL gr h=O){e c x r:List Int}{n:Nat}(I:c.length=n+5/\∀z∈c,aL gr z=O)(D:e.length=n/\∀z∈e,aL gr z=O)(hx:x.length=n)(hr:r.length=2*n+4)(hn:n<=100)(b:Bool):aO (σ:=Bool) (λj u=>
 ((if u=O then(
 (ix c (i64.wrap (5+j))).bind λQ=>
 (ix e j).bind λP=>
 (ix r (i64.wrap (4+j))).bind λN=>
 (ix ([h]++e) j).bind λR=>
 (ix x j).bind λT=>
 (cW gr gr.G N).bind λU=>
 (cW gr R T).bind λW=>
 (eu gr [U,W]).bind λG=>
 (uq Q P G gr.P gr.Q gr.G z).bind λH=>
 J H)else(
 J Z):Option Bool).bind λS=>
 J (.go S))) (λu=>u) n 0 b=J (b&&(List.range n).all λi=>hlB gr z (c.getD (5+i) 0) (e.getD i 0) (zjf gr h e x r i)):=by
 refine bW (eI (λi y=>y=(b&&(List.range i).all λi=>hlB gr z (c.getD (5+i) 0) (e.getD i 0) (zjf gr h e x r i))) (by simp) ?_ λy h=>h);rintro i y hi L;have v:5+i<c.length:=by omega
 have E:4+i<r.length:=by omega
 have o:i<e.length:=by omega
 have C:i<x.length:=by omega
 have F:=Fs k K D.2 i (by omega);refine ax (ψ:=λA=>A=(y&&hlB gr z (c.getD (5+i) 0) (e.getD i 0) (zjf gr h e x r i))) (aU (λg=>?_) λg=>ak (by rw[g];rfl)) λA M=>ak ?_
 ·rw[show i64.wrap (5+(i:Int))=((5+i:Nat):Int)from cU (by omega) (by omega),show i64.wrap (4+(i:Int))=((4+i:Nat):Int)from cU (by omega) (by omega)];refine bB v (bB o (bB E (ag F.1 (bB C (ag (fB k (fR k) _) (ag (fB k F.2 _) (ag (j4 k (bH k _ _) (bH k _ _)) (ag (F4 k (d9 k (iP I.2 v)) (d9 k (iP D.2 o))) (ak ?_)))))))));rw[g,jt,bS v,bS o];unfold zjf;rw[bS E,bS C]
 show A=_;rw[M,L,ng,kU];simp[Mr]
def zxH(p:Nat->Bool)(n:Nat):(List.range (5+n)).all p=((p 0&&(p 1&&(p 2&&(p 3&&p 4))))&&(List.range n).all λi=>p (5+i)):=by
 rw[a1v,kU,Wq]
 have:(List.range 5).all p=(p 0&&(p 1&&(p 2&&(p 3&&p 4)))):=by
  show(p 0&&(p 1&&(p 2&&(p 3&&(p 4&&O)))))=_;rw[BZ]
 rw[this];rfl
end
attribute [local irreducible] wvL wvE wvZ hlB zjf bef
section
variable {gr:am}{key:Int}{B:ct}{l out:List ao}{p:cO}
set_option maxHeartbeats 4000000 in
def ZE(k:ap gr)(I:aL gr key=O)(hn:1<=l.length/\l.length<=12)(M:∀c∈l,b8 gr c=O)(U:∀c∈out,b8 gr c=O)(e:sG gr l.length B):EU gr B key l out p=J (tV gr key B l out p):=by
 have hp:=k.p;have hq:=k.q;unfold EU;refine bW (ax (ψ:=(· = !(decide (out.length=l.length)&&oL gr l.length p))) ?_ ?_)
 ·rw[show((out.length:Int) !=(l.length:Int))= !decide (out.length=l.length)by rw[bne,iT]];refine aU (λg=>ak ?_) λg=>ag (zEM k (by omega) p) (ak ?_)
  ·have:decide (out.length=l.length)=Z:=by simpa using g
   rw[this];rfl
  have:decide (out.length=l.length)=O:=by simpa using g
  rw[this];rfl
 rintro b rfl;refine aU (λg=>ak ?_) λg=>?_
 ·rw[sr]at g;unfold tV;rw[<-Mr,g];rfl
 have g:(decide (out.length=l.length)&&oL gr l.length p)=O:=by simpa using g
 obtain⟨G,H⟩:=B0.1 g;have V:=UO (p:=p) I hn M U e (zw G) H;have hv:tV gr key B l out p=((p.Pi.aX.getD 0 0==wvZ gr key l out p)&&(List.range (5+l.length)).all (qF gr (wvZ gr key l out p) p.Pi.aF (mX gr B l (wvE gr key l out p) p) (nH gr key B l.length out p))):=by unfold tV;rw[G,H];rfl
 rw[hv];obtain⟨tc,AZ⟩:=V.e k;have L:0<p.Pi.aX.length:=by rw[V.cS];omega
 refine ag V.Ts.1 (ag (V.YC k).1 (ag (V.cat k) (ag (V.a4y k) (ax (ψ:=(· =(p.Pi.aX.getD 0 0 !=wvZ gr key l out p))) (bQ rfl (bQ rfl (bB (k:=0) L (ak (by rw[bS L]))))) ?_))));rintro b rfl;refine aU (λg=>ak ?_) λg=>?_
 ·rw[bne,sr]at g;rw[g];rfl
 rw[bne,Bool.not_eq_false']at g;rw[g,jt];have w4:i64.wrap ((l.length:Int)+4)=((l.length+4:Nat):Int):=cU (by omega) (by omega);have w1:i64.wrap ((l.length:Int)-1)=((l.length-1:Nat):Int):=cU (by omega) (by omega);have Ba:(p.Pi.aG.take p.Pi.aG.length).drop (l.length+4)=p.Pi.aG.drop (l.length+4):=by rw[jQ]
 have E:=V.rsp.1;have K:(p.Pi.aG.drop (l.length+4)).length=l.length:=by rw[Wo,E];omega
 rw[w4,w1,dT,Ba];generalize o:p.Pi.aG.drop (l.length+4)=x at K;refine aJ (by omega) (aJ (by omega) (ag (zyA k AZ) (ag (tB (by omega)).1 (ag (tB (by rw[V.ol];omega)).1 ?_))));have F:=sH k M;have T:=sH k U;have tA:=m7 l;have hol:=m7 out;rw[V.ol]at hol;have hH:=d9 k e.h;have hK:=d9 k I;have u:=FF k e.s;have v:=FF k V.f8.2;have RG:=e.l;have ie:=V.f8.1;have a0t:=V.mJ.1;have j:∀i,i<5->∃h:i<p.Pi.aF.length,R9 p.Pi.aF[i]:=λi r=>⟨by rw[V.o9.1];omega,d9 k (iP V.o9.2 (by rw[V.o9.1];omega))⟩
 obtain⟨N,t0⟩:=j 0 (by omega);obtain⟨P,t1⟩:=j 1 (by omega);obtain⟨Q,t2⟩:=j 2 (by omega);obtain⟨R,t3⟩:=j 3 (by omega);obtain⟨S,t4⟩:=j 4 (by omega);have r0:0<p.Pi.aG.length:=by omega
 have r1:1<p.Pi.aG.length:=by omega
 have r2:2<p.Pi.aG.length:=by omega
 have C:3<p.Pi.aG.length:=by omega
 have z:l.length-1<p.aH.length:=by omega
 have DU:=NS (show 1<gr.Q by omega) (wvE gr key l out p) (wvE gr key l out p).length;have D:=d9 k (iP V.mJ.2 z);have W:=Fu k u;have A:=Fu k v
 have f0:qF gr (wvZ gr key l out p) p.Pi.aF (mX gr B l (wvE gr key l out p) p) (nH gr key B l.length out p) 0=hlB gr (wvZ gr key l out p) p.Pi.aF[0] (aQ gr [aQ gr p.cC,av gr (aQ gr B.Hs) (-1)]) (av gr gr.G p.Pi.aG[0]):=by
  rw[<-bS (d:=0) N,<-bS (d:=0) r0];rfl
 have f1:qF gr (wvZ gr key l out p) p.Pi.aF (mX gr B l (wvE gr key l out p) p) (nH gr key B l.length out p) 1=hlB gr (wvZ gr key l out p) p.Pi.aF[1] (zaP gr p.cC (wvE gr key l out p) 1) (aQ gr [av gr gr.G p.Pi.aG[1],zaP gr B.Hs x 1]):=by
  rw[<-bS (d:=0) P,<-bS (d:=0) r1,<-o];rfl
 have f2:qF gr (wvZ gr key l out p) p.Pi.aF (mX gr B l (wvE gr key l out p) p) (nH gr key B l.length out p) 2=hlB gr (wvZ gr key l out p) p.Pi.aF[2] (aQ gr [p.aH[l.length-1],av gr (av gr B.H (alN gr.Q (wvE gr key l out p) (wvE gr key l out p).length)) (-1)]) (av gr gr.G p.Pi.aG[2]):=by
  rw[Ym k e.h DU.1,<-bS (d:=0) Q,<-bS (d:=0) r2,<-bS (d:=0) z];rfl
 have f3:qF gr (wvZ gr key l out p) p.Pi.aF (mX gr B l (wvE gr key l out p) p) (nH gr key B l.length out p) 3=hlB gr (wvZ gr key l out p) p.Pi.aF[3] (zaP gr (sdV l).1 (wvE gr key l out p) 1) (aQ gr [av gr gr.G (i64.wrap (0-p.Pi.aG[3])),zaP gr (sdV out).1 x 1]):=by
  rw[<-bS (d:=0) R,<-bS (d:=0) C,<-o];rfl
 have f4:qF gr (wvZ gr key l out p) p.Pi.aF (mX gr B l (wvE gr key l out p) p) (nH gr key B l.length out p) 4=hlB gr (wvZ gr key l out p) p.Pi.aF[4] (zaP gr (sdV l).2 (wvE gr key l out p) 1) (aQ gr [av gr key (i64.wrap (0-p.Pi.aG[3])),zaP gr (sdV out).2 x 1]):=by
  rw[<-bS (d:=0) S,<-bS (d:=0) C,<-o];rfl
 have f5:((List.range l.length).all λi=>qF gr (wvZ gr key l out p) p.Pi.aF (mX gr B l (wvE gr key l out p) p) (nH gr key B l.length out p) (5+i))=(List.range l.length).all λi=>hlB gr (wvZ gr key l out p) (p.Pi.aF.getD (5+i) 0) (p.aH.getD i 0) (zjf gr B.H p.aH x p.Pi.aG i):=by
  rw[WI,bc,bc];refine forall_congr' λi=>forall_congr' λr=>?_
  have r:=kT.1 r
  have a1:(mX gr B l (wvE gr key l out p) p).getD (5+i) 0=p.aH.getD i 0:=by
   unfold mX;rw[mA,f9 (by simp[Ji]),mA];congr 2;simp[Ji]
  have a2:(nH gr key B l.length out p).getD (5+i) 0=zjf gr B.H p.aH x p.Pi.aG i:=by
   unfold nH;rw[mA,f9 (by simp[FO]),o];have:5+i-(FO gr key B out x p.Pi.aG).length=i:=by simp[FO]
   rw[this];simp[r]
  unfold qF;rw[a1,a2]
 rw[zxH,f0,f1,f2,f3,f4,f5];have p0:=U5 k (b:=aQ gr p.cC) (x:=aQ gr B.Hs) A.1 A.2 W.1 W.2;have p2:=U5 k (b:=p.aH[l.length-1]) (x:=av gr B.H (alN gr.Q (wvE gr key l out p) (wvE gr key l out p).length)) D.1 D.2 (bH k _ _).1 (bH k _ _).2;have u1:=pC k (m:=wvE gr key l out p) v (by omega);have u2:=pC k (m:=x) u (by omega);have u3:=pC k (m:=wvE gr key l out p) F.1 (by omega);have u4:=pC k (m:=wvE gr key l out p) F.2 (by omega);have u5:=pC k (m:=x) T.1 (by omega);have u6:=pC k (m:=x) T.2 (by omega);have mm:=λa b ha e=>j4 k (x:=a) (y:=b) ha e
 generalize yX:hlB gr (wvZ gr key l out p) p.Pi.aF[0] (aQ gr [aQ gr p.cC,av gr (aQ gr B.Hs) (-1)]) (av gr gr.G p.Pi.aG[0])=b0;generalize eV:hlB gr (wvZ gr key l out p) p.Pi.aF[1] (zaP gr p.cC (wvE gr key l out p) 1) (aQ gr [av gr gr.G p.Pi.aG[1],zaP gr B.Hs x 1])=b1;generalize ga:hlB gr (wvZ gr key l out p) p.Pi.aF[2] (aQ gr [p.aH[l.length-1],av gr (av gr B.H (alN gr.Q (wvE gr key l out p) (wvE gr key l out p).length)) (-1)]) (av gr gr.G p.Pi.aG[2])=b2;generalize sQ:hlB gr (wvZ gr key l out p) p.Pi.aF[3] (zaP gr (sdV l).1 (wvE gr key l out p) 1) (aQ gr [av gr gr.G (i64.wrap (0-p.Pi.aG[3])),zaP gr (sdV out).1 x 1])=b3;generalize uH:hlB gr (wvZ gr key l out p) p.Pi.aF[4] (zaP gr (sdV l).2 (wvE gr key l out p) 1) (aQ gr [av gr key (i64.wrap (0-p.Pi.aG[3])),zaP gr (sdV out).2 x 1])=b4;refine ax (ψ:=(· =(b0&&(b1&&(b2&&(b3&&b4)))))) ?_ ?_
 ·refine bB (k:=0) N (bB (k:=0) r0 (ag (Ax k v) (ag (Ax k u) (ag p0 (ag (fB k (fR k) _) (ag ((F4 k t0 (ot k A (bH k _ _))).trans (iB J yX)) (aU (λg=>?_) λg=>ak (by rw[g];rfl))))))));rw[g,jt];refine bB (k:=1) P (bB (k:=1) r1 (ag u1 (ag (fB k (fR k) _) (ag u2 (ag (j4 k (bH k _ _) (fO k _ _)) (ag ((F4 k t1 (fO k _ _)).trans (iB J eV)) (aU (λg=>?_) λg=>ak (by rw[g];rfl))))))));rw[g,jt];refine bB (k:=2) Q (bB z (bB (k:=2) r2 (ag (fB k hH _) (ag p2 (ag (fB k (fR k) _) (ag ((F4 k t2 (ot k D (bH k _ _))).trans (iB J ga)) (aU (λg=>?_) λg=>ak (by rw[g];rfl))))))));rw[g,jt];refine bB (k:=3) R (bB (k:=3) C (ag u3 (ag (fB k (fR k) _) (ag u5 (ag (j4 k (bH k _ _) (fO k _ _)) (ag ((F4 k t3 (fO k _ _)).trans (iB J sQ)) (aU (λg=>?_) λg=>ak (by rw[g];rfl))))))));rw[g,jt];exact bB (k:=4) S (ag u4 (ag (fB k hK _) (ag u6 (ag (j4 k (bH k _ _) (fO k _ _)) (ag ((F4 k t4 (fO k _ _)).trans (iB J uH)) (ak rfl))))))
 rintro b rfl;exact aJ (by simp only[fG,iC];omega) (ag rfl (ag (zwZ k e.h V.o9 V.mJ K E (by omega) _) (ak rfl)))
end
end
end Go.Pm
