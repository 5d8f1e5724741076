import Derived.Test.YtplemekcclpaoaaGreatDoorPmY
namespace Go.Pm
open Go.Am
variable{k:Nat}{v:Bool}
theorem zoH{σ β:Type}{body:Int→σ→Option (Stp σ β)}{stop:σ→β}{m:Nat}{i0:Int}{s0:σ}(I:Nat→σ→Prop)(Post:β→Prop)(h0:I 0 s0)
(hs:∀k s,k<m→I k s→(∃s',body (i0+(k:Int)) s=some (.go s')∧I (k+1) s')∨∃b,body (i0+(k:Int)) s=some (.out b)∧Post b)
(he:∀s,I m s→Post (stop s)):∃b,zau body stop m i0 s0=some b∧Post b:=by
 have key:∀n k s,k+n=m→I k s→∃b,zau body stop n (i0+(k:Int)) s=some b∧Post b:=by
  intro n;induction n with
  |zero=>
   intro k s hk hI;have:k=m:=by omega
   subst this;exact⟨_,rfl,he s hI⟩
  |succ n ih=>
   intro k s hk hI;rcases hs k s (by omega) hI with⟨s',h1,h2⟩|⟨b,h1,h2⟩
   ·obtain⟨b,h3,h4⟩:=ih (k+1) s' (by omega) h2;refine⟨b,?_,h4⟩;simp only[zau,h1,Option.bind_some];rw[←h3];congr 1
    push_cast
    omega
   ·exact⟨b,by simp only[zau,h1,Option.bind_some],h2⟩
 have:=key m 0 s0 (by omega) h0;simpa using this
theorem zoM{σ β:Type}{step:σ→Option (Stp σ β)}(I:Nat→σ→Prop)(Post:β→Prop)
(hs:∀n s,I n s→(∃s' n',step s=some (.go s')∧n'<n∧I n' s')∨∃b,step s=some (.out b)∧Post b):∀n s,I n s→∃b,zax step s=some b∧Post b:=by
 intro n;induction n using Nat.strongRecOn with
 |ind n ih=>
  intro s hI;rw[zk7];rcases hs n s hI with⟨s',n',h1,h2,h3⟩|⟨b,h1,h2⟩
  ·rw[h1];exact ih n' h2 s' h3
  ·exact⟨b,by rw[h1];rfl,h2⟩
theorem zih{σ β:Type}{step:σ→Option (Stp σ β)}(m:Nat)(I:Nat→σ→Prop)(Post:β→Prop){s0:σ}(h0:I 0 s0)
(hs:∀k s,k<m→I k s→(∃s',step s=some (.go s')∧I (k+1) s')∨∃b,step s=some (.out b)∧Post b)
(he:∀s,I m s→∃b,step s=some (.out b)∧Post b):∃b,zax step s0=some b∧Post b:=by
 refine zoM (fun n s=>∃k,k+n=m∧I k s) Post ?_ m s0 ⟨0,by omega,h0⟩;rintro n s ⟨k,hk,hI⟩;rcases Nat.lt_or_ge k m with h|h
 ·rcases hs k s h hI with⟨s',h1,h2⟩|h1
  ·exact .inl ⟨s',n-1,h1,by omega,k+1,by omega,h2⟩
  ·exact .inr h1
 ·have:k=m:=by omega
  subst this;exact .inr (he s hI)
theorem zaY{α:Type}{l:List α}(h:k<l.length):ix l (k:Int)=some l[k]:=by rw[zwA,List.getElem?_eq_getElem h]
theorem zD9{α:Type}{l:List α}{x:α}(h:l[k]? =some x):ix l (k:Int)=some x:=by rw[zwA,h]
theorem zbI{α:Type}{p:Prop}[Decidable p]{e:Option α}(h:p):gd p e=e:=by unfold gd;rw[if_pos h]
theorem zaj{n:Int}(h1: -9223372036854775808≤n)(h2:n≤9223372036854775807):IntKind.i64.wrap n=n:=wrI ⟨h1,h2⟩
theorem wrU{n:Int}(h1:0≤n)(h2:n≤18446744073709551615):IntKind.u64.wrap n=n:=by
 have:IntKind.u64.wrap n=n%18446744073709551616:=by simp[IntKind.wrap,IntKind.signed,IntKind.bits]
 rw[this];omega
theorem zAi{α:Type}{e:Option α}{a:α}(h:∃b,e=some b∧b=a):e=some a:=by obtain⟨b,h1,h2⟩:=h;rw[h1,h2]
def so{σ β:Type}(I:σ→Prop)(φ:β→Prop):Stp σ β→Prop
 | .go s=>I s
 | .out b=>φ b
theorem zab{α:Type}{a:α}{φ:α→Prop}(h:φ a):Rn (some a) φ:=⟨a,rfl,h⟩
theorem zkO{α β:Type}{e:Option α}{f:α→Option β}{φ:β→Prop}(h:Rn e fun a=>Rn (f a) φ):Rn (e.bind f) φ:=by
 obtain⟨a,h1,b,h2,h3⟩:=h;exact⟨b,by rw[h1];exact h2,h3⟩
theorem zae{α β:Type}{e:Option α}{a:α}{f:α→Option β}{φ:β→Prop}(h:e=some a)(h2:Rn (f a) φ):Rn (e.bind f) φ:=zkO ⟨a,h,h2⟩
theorem zag{α β:Type}{e:Option α}{f:α→Option β}{ψ:α→Prop}{φ:β→Prop}(h:Rn e ψ)(h2:∀a,ψ a→Rn (f a) φ):Rn (e.bind f) φ:=zkO (zzp h h2)
theorem zas{α:Type}{p:Prop}[Decidable p]{e:Option α}{φ:α→Prop}(hp:p)(h:Rn e φ):Rn (gd p e) φ:=by rw[zbI hp];exact h
theorem zbm{α β:Type}{l:List α}{f:α→Option β}{φ:β→Prop}(hk:k<l.length)(h:Rn (f l[k]) φ):Rn ((ix l (k:Int)).bind f) φ:=zae (zaY hk) h
theorem zgA{α:Type}{e e':Option α}{φ:α→Prop}(hv:v=true)(h:Rn e φ):Rn (if v=true then e else e') φ:=by rw[if_pos hv];exact h
theorem zbd{α:Type}{e e':Option α}{φ:α→Prop}(hv:v=false)(h:Rn e' φ):Rn (if v=true then e else e') φ:=by rw[if_neg (by simp[hv])];exact h
theorem zan{α:Type}{e e':Option α}{φ:α→Prop}(h:v=true→Rn e φ)(h':v=false→Rn e' φ):Rn (if v=true then e else e') φ:=by
 cases v
 ·exact zbd rfl (h' rfl)
 ·exact zgA rfl (h rfl)
theorem zal{α:Type}{e:Option α}{a:α}(h:Rn e (· =a)):e=some a:=zAi h
theorem zaQ{σ β:Type}{body:Int→σ→Option (Stp σ β)}{stop:σ→β}{m:Nat}{s0:σ}{φ:β→Prop}(I:Nat→σ→Prop)(h0:I 0 s0)
(hs:∀k s,k<m→I k s→Rn (body (k:Int) s) (so (I (k+1)) φ))(he:∀s,I m s→φ (stop s)):Rn (zau body stop m 0 s0) φ:=by
 refine zoH I φ h0 (fun k s hk hI=>?_) he;obtain⟨x,h1,h2⟩:=hs k s hk hI;rw[Int.zero_add];cases x with
 |go s'=>exact .inl ⟨s',h1,h2⟩
 |out b=>exact .inr ⟨b,h1,h2⟩
theorem zls{σ β:Type}{step:σ→Option (Stp σ β)}{s0:σ}{φ:β→Prop}(I:σ→Prop)(meas:σ→Nat)(h0:I s0)
(hs:∀s,I s→Rn (step s) (so (fun s'=>I s'∧meas s'<meas s) φ)):Rn (zax step s0) φ:=by
 refine zoM (fun n s=>meas s=n∧I s) φ (fun n s hI=>?_) _ s0 ⟨rfl,h0⟩;obtain⟨x,h1,h2⟩:=hs s hI.2;cases x with
 |go s'=>exact .inl ⟨s',meas s',h1,by have:=h2.2;omega,rfl,h2.1⟩
 |out b=>exact .inr ⟨b,h1,h2⟩
theorem zbi{σ β:Type}{step:σ→Option (Stp σ β)}{s0:σ}{φ:β→Prop}(m:Nat)(I:Nat→σ→Prop)(h0:I 0 s0)
(hs:∀k s,k<m→I k s→Rn (step s) (so (I (k+1)) φ))(he:∀s,I m s→Rn (step s) (so (fun _=>False) φ)):Rn (zax step s0) φ:=by
 refine zih m I φ h0 (fun k s hk hI=>?_) fun s hI=>?_
 ·obtain⟨x,h1,h2⟩:=hs k s hk hI;cases x with
  |go s'=>exact .inl ⟨s',h1,h2⟩
  |out b=>exact .inr ⟨b,h1,h2⟩
 ·obtain⟨x,h1,h2⟩:=he s hI;cases x with
  |go s'=>exact h2.elim
  |out b=>exact⟨b,h1,h2⟩
end Go.Pm
