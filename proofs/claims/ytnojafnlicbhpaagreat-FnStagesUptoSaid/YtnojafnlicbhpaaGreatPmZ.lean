import Derived.Test.YtnojafnlicbhpaaGreatPmY
open Bool renaming false→aa,true→Z
open Option renaming some→J
set_option linter.defProp false
namespace Go.Pm
open Go.Am
def L6:=@Int.zero_add
variable{k:Nat}{v:Bool}
def Ww{σ β:Type}{body:Int->σ->Option (fO σ β)}{stop:σ->β}{m:Nat}{i0:Int}{s0:σ}(I:Nat->σ->Prop)(sf:β->Prop)(h0:I 0 s0)
(hs:∀k s,k<m->I k s->(∃s',body (i0+(k:Int)) s=J (.go s')/\I (k+1) s')\/∃b,body (i0+(k:Int)) s=J (.out b)/\sf b)
(he:∀s,I m s->sf (stop s)):∃b,aU body stop m i0 s0=J b/\sf b:=by
 have key:∀n k s,k+n=m->I k s->∃b,aU body stop n (i0+(k:Int)) s=J b/\sf b:=by
  intro n;induction n with
  |zero=>
   intro k s hk hI;have:k=m:=by omega
   subst this;exact⟨_,rfl,he s hI⟩
  |succ n ih=>
   intro k s hk hI;rcases hs k s (by omega) hI with⟨s',h1,h2⟩|⟨b,h1,h2⟩
   ·obtain⟨b,h3,h4⟩:=ih (k+1) s' (by omega) h2;refine⟨b,?_,h4⟩;simp only[aU,h1,aS];rw[<-h3];congr 1
    push_cast
    omega
   ·exact⟨b,by simp only[aU,h1,aS],h2⟩
 have:=key m 0 s0 (by omega) h0;simpa using this
def XK{σ β:Type}{step:σ->Option (fO σ β)}(I:Nat->σ->Prop)(sf:β->Prop)
(hs:∀n s,I n s->(∃s' n',step s=J (.go s')/\n'<n/\I n' s')\/∃b,step s=J (.out b)/\sf b):∀n s,I n s->∃b,dP step s=J b/\sf b:=by
 intro n;induction n using Nat.strongRecOn with
 |ind n ih=>
  intro s hI;rw[PT];rcases hs n s hI with⟨s',n',h1,h2,h3⟩|⟨b,h1,h2⟩
  ·rw[h1];exact ih n' h2 s' h3
  ·exact⟨b,by rw[h1];rfl,h2⟩
def zwV{σ β:Type}{step:σ->Option (fO σ β)}(m:Nat)(I:Nat->σ->Prop)(sf:β->Prop){s0:σ}(h0:I 0 s0)
(hs:∀k s,k<m->I k s->(∃s',step s=J (.go s')/\I (k+1) s')\/∃b,step s=J (.out b)/\sf b)
(he:∀s,I m s->∃b,step s=J (.out b)/\sf b):∃b,dP step s0=J b/\sf b:=by
 refine XK (λn s=>∃k,k+n=m/\I k s) sf ?_ m s0 ⟨0,by omega,h0⟩;rintro n s ⟨k,hk,hI⟩;rcases dQ k m with h|h
 ·rcases hs k s h hI with⟨s',h1,h2⟩|h1
  ·exact .inl ⟨s',n-1,h1,by omega,k+1,by omega,h2⟩
  ·exact .inr h1
 ·have:k=m:=by omega
  subst this;exact .inr (he s hI)
def jO{α:Type}{l:List α}(h:k<l.length):ix l (k:Int)=J l[k]:=by rw[Zi,cJ h]
def Ij{α:Type}{l:List α}{x:α}(h:l[k]? =J x):ix l (k:Int)=J x:=by rw[Zi,h]
def eV{α:Type}{p:Prop}[Decidable p]{e:Option α}(h:p):gd p e=e:=by unfold gd;rw[aD h]
def aK{n:Int}(h1: -9223372036854775808<=n)(h2:n<=9223372036854775807):IntKind.i64.wrap n=n:=Hi ⟨h1,h2⟩
def wrU{n:Int}(h1:0<=n)(h2:n<=18446744073709551615):IntKind.u64.wrap n=n:=by
 have:IntKind.u64.wrap n=n%18446744073709551616:=by simp[IntKind.wrap,IntKind.signed,IntKind.bits]
 rw[this];omega
def zAU{α:Type}{e:Option α}{a:α}(h:∃b,e=J b/\b=a):e=J a:=by obtain⟨b,h1,h2⟩:=h;rw[h1,h2]
def so{σ β:Type}(I:σ->Prop)(φ:β->Prop):fO σ β->Prop
 | .go s=>I s
 | .out b=>φ b
def am{α:Type}{a:α}{φ:α->Prop}(h:φ a):Rn (J a) φ:=⟨a,rfl,h⟩
def zvC{α β:Type}{e:Option α}{f:α->Option β}{φ:β->Prop}(h:Rn e λa=>Rn (f a) φ):Rn (e.bind f) φ:=by
 obtain⟨a,h1,b,h2,h3⟩:=h;exact⟨b,by rw[h1];exact h2,h3⟩
def ag{α β:Type}{e:Option α}{a:α}{f:α->Option β}{φ:β->Prop}(h:e=J a)(h2:Rn (f a) φ):Rn (e.bind f) φ:=zvC ⟨a,h,h2⟩
def az{α β:Type}{e:Option α}{f:α->Option β}{ψ:α->Prop}{φ:β->Prop}(h:Rn e ψ)(h2:∀a,ψ a->Rn (f a) φ):Rn (e.bind f) φ:=zvC (zBl h h2)
def aI{α:Type}{p:Prop}[Decidable p]{e:Option α}{φ:α->Prop}(hp:p)(h:Rn e φ):Rn (gd p e) φ:=by rw[eV hp];exact h
def bG{α β:Type}{l:List α}{f:α->Option β}{φ:β->Prop}(hk:k<l.length)(h:Rn (f l[k]) φ):Rn ((ix l (k:Int)).bind f) φ:=ag (jO hk) h
def gk{α:Type}{e e':Option α}{φ:α->Prop}(hv:v=Z)(h:Rn e φ):Rn (if v=Z then e else e') φ:=by rw[aD hv];exact h
def bw{α:Type}{e e':Option α}{φ:α->Prop}(hv:v=aa)(h:Rn e' φ):Rn (if v=Z then e else e') φ:=by rw[aB (by simp[hv])];exact h
def aZ{α:Type}{e e':Option α}{φ:α->Prop}(h:v=Z->Rn e φ)(h':v=aa->Rn e' φ):Rn (if v=Z then e else e') φ:=by
 cases v
 ·exact bw rfl (h' rfl)
 ·exact gk rfl (h rfl)
def bH{α:Type}{e:Option α}{a:α}(h:Rn e (· =a)):e=J a:=zAU h
def eo{σ β:Type}{body:Int->σ->Option (fO σ β)}{stop:σ->β}{m:Nat}{s0:σ}{φ:β->Prop}(I:Nat->σ->Prop)(h0:I 0 s0)
(hs:∀k s,k<m->I k s->Rn (body (k:Int) s) (so (I (k+1)) φ))(he:∀s,I m s->φ (stop s)):Rn (aU body stop m 0 s0) φ:=by
 refine Ww I φ h0 (λk s hk hI=>?_) he;obtain⟨x,h1,h2⟩:=hs k s hk hI;rw[L6];cases x with
 |go s'=>exact .inl ⟨s',h1,h2⟩
 |out b=>exact .inr ⟨b,h1,h2⟩
def uh{σ β:Type}{step:σ->Option (fO σ β)}{s0:σ}{φ:β->Prop}(I:σ->Prop)(o6:σ->Nat)(h0:I s0)
(hs:∀s,I s->Rn (step s) (so (λs'=>I s'/\o6 s'<o6 s) φ)):Rn (dP step s0) φ:=by
 refine XK (λn s=>o6 s=n/\I s) φ (λn s hI=>?_) _ s0 ⟨rfl,h0⟩;obtain⟨x,h1,h2⟩:=hs s hI.2;cases x with
 |go s'=>exact .inl ⟨s',o6 s',h1,by have:=h2.2;omega,rfl,h2.1⟩
 |out b=>exact .inr ⟨b,h1,h2⟩
def ll{σ β:Type}{step:σ->Option (fO σ β)}{s0:σ}{φ:β->Prop}(m:Nat)(I:Nat->σ->Prop)(h0:I 0 s0)
(hs:∀k s,k<m->I k s->Rn (step s) (so (I (k+1)) φ))(he:∀s,I m s->Rn (step s) (so (λ_=>False) φ)):Rn (dP step s0) φ:=by
 refine zwV m I φ h0 (λk s hk hI=>?_) λs hI=>?_
 ·obtain⟨x,h1,h2⟩:=hs k s hk hI;cases x with
  |go s'=>exact .inl ⟨s',h1,h2⟩
  |out b=>exact .inr ⟨b,h1,h2⟩
 ·obtain⟨x,h1,h2⟩:=he s hI;cases x with
  |go s'=>exact h2.elim
  |out b=>exact⟨b,h1,h2⟩
end Go.Pm
