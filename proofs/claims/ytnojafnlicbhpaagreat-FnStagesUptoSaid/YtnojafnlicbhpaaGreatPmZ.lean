import Derived.Test.YtnojafnlicbhpaaGreatPmY
open Bool renaming false→aa,true→Z
open Option renaming some→J
set_option linter.defProp false
namespace Go.Pm
open Go.Am
def KE:=@Int.zero_add
variable{k:Nat}{v:Bool}
def Xy{σ β:Type}{body:Int->σ->Option (fb σ β)}{stop:σ->β}{m:Nat}{i0:Int}{s0:σ}(I:Nat->σ->Prop)(rG:β->Prop)(h0:I 0 s0)
(hs:∀k s,k<m->I k s->(∃s',body (i0+(k:Int)) s=J (.go s')/\I (k+1) s')\/∃b,body (i0+(k:Int)) s=J (.out b)/\rG b)
(he:∀s,I m s->rG (stop s)):∃b,aS body stop m i0 s0=J b/\rG b:=by
 have key:∀n k s,k+n=m->I k s->∃b,aS body stop n (i0+(k:Int)) s=J b/\rG b:=by
  intro n;induction n with
  |zero=>
   intro k s hk hI;have:k=m:=by omega
   subst this;exact⟨_,rfl,he s hI⟩
  |succ n ih=>
   intro k s hk hI;rcases hs k s (by omega) hI with⟨s',h1,h2⟩|⟨b,h1,h2⟩
   ·obtain⟨b,h3,h4⟩:=ih (k+1) s' (by omega) h2;refine⟨b,?_,h4⟩;simp only[aS,h1,aR];rw[<-h3];congr 1
    push_cast
    omega
   ·exact⟨b,by simp only[aS,h1,aR],h2⟩
 have:=key m 0 s0 (by omega) h0;simpa using this
def V8{σ β:Type}{step:σ->Option (fb σ β)}(I:Nat->σ->Prop)(rG:β->Prop)
(hs:∀n s,I n s->(∃s' n',step s=J (.go s')/\n'<n/\I n' s')\/∃b,step s=J (.out b)/\rG b):∀n s,I n s->∃b,dJ step s=J b/\rG b:=by
 intro n;induction n using Nat.strongRecOn with
 |ind n ih=>
  intro s hI;rw[NX];rcases hs n s hI with⟨s',n',h1,h2,h3⟩|⟨b,h1,h2⟩
  ·rw[h1];exact ih n' h2 s' h3
  ·exact⟨b,by rw[h1];rfl,h2⟩
def zwn{σ β:Type}{step:σ->Option (fb σ β)}(m:Nat)(I:Nat->σ->Prop)(rG:β->Prop){s0:σ}(h0:I 0 s0)
(hs:∀k s,k<m->I k s->(∃s',step s=J (.go s')/\I (k+1) s')\/∃b,step s=J (.out b)/\rG b)
(he:∀s,I m s->∃b,step s=J (.out b)/\rG b):∃b,dJ step s0=J b/\rG b:=by
 refine V8 (λn s=>∃k,k+n=m/\I k s) rG ?_ m s0 ⟨0,by omega,h0⟩;rintro n s ⟨k,hk,hI⟩;rcases dK k m with h|h
 ·rcases hs k s h hI with⟨s',h1,h2⟩|h1
  ·exact .inl ⟨s',n-1,h1,by omega,k+1,by omega,h2⟩
  ·exact .inr h1
 ·have:k=m:=by omega
  subst this;exact .inr (he s hI)
def jt{α:Type}{l:List α}(h:k<l.length):ix l (k:Int)=J l[k]:=by rw[UY,cE h]
def Jv{α:Type}{l:List α}{x:α}(h:l[k]? =J x):ix l (k:Int)=J x:=by rw[UY,h]
def eE{α:Type}{p:Prop}[Decidable p]{e:Option α}(h:p):gd p e=e:=by unfold gd;rw[aB h]
def aI{n:Int}(h1: -9223372036854775808<=n)(h2:n<=9223372036854775807):IntKind.i64.wrap n=n:=EW ⟨h1,h2⟩
def wrU{n:Int}(h1:0<=n)(h2:n<=18446744073709551615):IntKind.u64.wrap n=n:=by
 have:IntKind.u64.wrap n=n%18446744073709551616:=by simp[IntKind.wrap,IntKind.signed,IntKind.bits]
 rw[this];omega
def zB4{α:Type}{e:Option α}{a:α}(h:∃b,e=J b/\b=a):e=J a:=by obtain⟨b,h1,h2⟩:=h;rw[h1,h2]
def so{σ β:Type}(I:σ->Prop)(φ:β->Prop):fb σ β->Prop
 | .go s=>I s
 | .out b=>φ b
def aj{α:Type}{a:α}{φ:α->Prop}(h:φ a):Rn (J a) φ:=⟨a,rfl,h⟩
def VF{α β:Type}{e:Option α}{f:α->Option β}{φ:β->Prop}(h:Rn e λa=>Rn (f a) φ):Rn (e.bind f) φ:=by
 obtain⟨a,h1,b,h2,h3⟩:=h;exact⟨b,by rw[h1];exact h2,h3⟩
def ag{α β:Type}{e:Option α}{a:α}{f:α->Option β}{φ:β->Prop}(h:e=J a)(h2:Rn (f a) φ):Rn (e.bind f) φ:=VF ⟨a,h,h2⟩
def ay{α β:Type}{e:Option α}{f:α->Option β}{ψ:α->Prop}{φ:β->Prop}(h:Rn e ψ)(h2:∀a,ψ a->Rn (f a) φ):Rn (e.bind f) φ:=VF (zB0 h h2)
def aG{α:Type}{p:Prop}[Decidable p]{e:Option α}{φ:α->Prop}(hp:p)(h:Rn e φ):Rn (gd p e) φ:=by rw[eE hp];exact h
def bD{α β:Type}{l:List α}{f:α->Option β}{φ:β->Prop}(hk:k<l.length)(h:Rn (f l[k]) φ):Rn ((ix l (k:Int)).bind f) φ:=ag (jt hk) h
def fV{α:Type}{e e':Option α}{φ:α->Prop}(hv:v=Z)(h:Rn e φ):Rn (if v=Z then e else e') φ:=by rw[aB hv];exact h
def bt{α:Type}{e e':Option α}{φ:α->Prop}(hv:v=aa)(h:Rn e' φ):Rn (if v=Z then e else e') φ:=by rw[az (by simp[hv])];exact h
def aZ{α:Type}{e e':Option α}{φ:α->Prop}(h:v=Z->Rn e φ)(h':v=aa->Rn e' φ):Rn (if v=Z then e else e') φ:=by
 cases v
 ·exact bt rfl (h' rfl)
 ·exact fV rfl (h rfl)
def bE{α:Type}{e:Option α}{a:α}(h:Rn e (· =a)):e=J a:=zB4 h
def ec{σ β:Type}{body:Int->σ->Option (fb σ β)}{stop:σ->β}{m:Nat}{s0:σ}{φ:β->Prop}(I:Nat->σ->Prop)(h0:I 0 s0)
(hs:∀k s,k<m->I k s->Rn (body (k:Int) s) (so (I (k+1)) φ))(he:∀s,I m s->φ (stop s)):Rn (aS body stop m 0 s0) φ:=by
 refine Xy I φ h0 (λk s hk hI=>?_) he;obtain⟨x,h1,h2⟩:=hs k s hk hI;rw[KE];cases x with
 |go s'=>exact .inl ⟨s',h1,h2⟩
 |out b=>exact .inr ⟨b,h1,h2⟩
def sO{σ β:Type}{step:σ->Option (fb σ β)}{s0:σ}{φ:β->Prop}(I:σ->Prop)(nY:σ->Nat)(h0:I s0)
(hs:∀s,I s->Rn (step s) (so (λs'=>I s'/\nY s'<nY s) φ)):Rn (dJ step s0) φ:=by
 refine V8 (λn s=>nY s=n/\I s) φ (λn s hI=>?_) _ s0 ⟨rfl,h0⟩;obtain⟨x,h1,h2⟩:=hs s hI.2;cases x with
 |go s'=>exact .inl ⟨s',nY s',h1,by have:=h2.2;omega,rfl,h2.1⟩
 |out b=>exact .inr ⟨b,h1,h2⟩
def kK{σ β:Type}{step:σ->Option (fb σ β)}{s0:σ}{φ:β->Prop}(m:Nat)(I:Nat->σ->Prop)(h0:I 0 s0)
(hs:∀k s,k<m->I k s->Rn (step s) (so (I (k+1)) φ))(he:∀s,I m s->Rn (step s) (so (λ_=>False) φ)):Rn (dJ step s0) φ:=by
 refine zwn m I φ h0 (λk s hk hI=>?_) λs hI=>?_
 ·obtain⟨x,h1,h2⟩:=hs k s hk hI;cases x with
  |go s'=>exact .inl ⟨s',h1,h2⟩
  |out b=>exact .inr ⟨b,h1,h2⟩
 ·obtain⟨x,h1,h2⟩:=he s hI;cases x with
  |go s'=>exact h2.elim
  |out b=>exact⟨b,h1,h2⟩
end Go.Pm
