import Derived.Test.YtjnidpmkglobfaaGreatPmY
open Bool renaming false→Z,true→O
open Option renaming some→J
set_option linter.defProp false
namespace Go.Pm
open Go.Am
def QC:=@Int.zero_add
variable{k:Nat}{v:Bool}
def zv3{a l:Type}{c:Int->a->Option (fi a l)}{stop:a->l}{m:Nat}{d:Int}{j:a}(I:Nat->a->Prop)(f:l->Prop)(o:I 0 j)
(u:∀k s,k<m->I k s->(∃e,c (d+(k:Int)) s=J (.go e)/\I (k+1) e)\/∃b,c (d+(k:Int)) s=J (.out b)/\f b)
(r:∀s,I m s->f (stop s)):∃b,aO c stop m d j=J b/\f b:=by
 have w:∀n k s,k+n=m->I k s->∃b,aO c stop n (d+(k:Int)) s=J b/\f b:=by
  intro n;induction n with
  |zero=>
   intro k s t i;have:k=m:=by omega
   subst this;exact⟨_,rfl,r s i⟩
  |succ n ih=>
   intro k s t i;rcases u k s (by omega) i with⟨e,g,h⟩|⟨b,g,h⟩
   ·obtain⟨b,p,q⟩:=ih (k+1) e (by omega) h;refine⟨b,?_,q⟩;simp only[aO,g,aP];rw[<-p];congr 1
    push_cast
    omega
   ·exact⟨b,by simp only[aO,g,aP],h⟩
 have:=w m 0 j (by omega) o;simpa using this
def zpe{f h:Type}{step:f->Option (fi f h)}(I:Nat->f->Prop)(g:h->Prop)
(l:∀n s,I n s->(∃c a,step s=J (.go c)/\a<n/\I a c)\/∃b,step s=J (.out b)/\g b):∀n s,I n s->∃b,dO step s=J b/\g b:=by
 intro n;induction n using Nat.strongRecOn with
 |ind n ih=>
  intro s j;rw[O2];rcases l n s j with⟨c,a,d,e,i⟩|⟨b,d,e⟩
  ·rw[d];exact ih a e c i
  ·exact⟨b,by rw[d];rfl,e⟩
def zvf{d i:Type}{step:d->Option (fi d i)}(m:Nat)(I:Nat->d->Prop)(c:i->Prop){f:d}(j:I 0 f)
(p:∀k s,k<m->I k s->(∃a,step s=J (.go a)/\I (k+1) a)\/∃b,step s=J (.out b)/\c b)
(o:∀s,I m s->∃b,step s=J (.out b)/\c b):∃b,dO step f=J b/\c b:=by
 refine zpe (λn s=>∃k,k+n=m/\I k s) c ?_ m f ⟨0,by omega,j⟩;rintro n s ⟨k,q,g⟩;rcases dS k m with h|h
 ·rcases p k s h g with⟨a,e,l⟩|e
  ·exact .inl ⟨a,n-1,e,by omega,k+1,by omega,l⟩
  ·exact .inr e
 ·have:k=m:=by omega
  subst this;exact .inr (o s g)
def hZ{a:Type}{l:List a}(h:k<l.length):ix l (k:Int)=J l[k]:=by rw[zxM,cI h]
def JI{a:Type}{l:List a}{x:a}(h:l[k]? =J x):ix l (k:Int)=J x:=by rw[zxM,h]
def d6{a:Type}{p:Prop}[Decidable p]{e:Option a}(h:p):gd p e=e:=by unfold gd;rw[aE h]
def aK{n:Int}(a: -9223372036854775808<=n)(b:n<=9223372036854775807):IntKind.i64.wrap n=n:=PG ⟨a,b⟩
def wrU{n:Int}(a:0<=n)(b:n<=18446744073709551615):IntKind.u64.wrap n=n:=by
 have:IntKind.u64.wrap n=n%18446744073709551616:=by simp[IntKind.wrap,IntKind.signed,IntKind.bits]
 rw[this];omega
def zAB{c:Type}{e:Option c}{a:c}(h:∃b,e=J b/\b=a):e=J a:=by obtain⟨b,d,f⟩:=h;rw[d,f]
def so{c a:Type}(I:c->Prop)(d:a->Prop):fi c a->Prop
 | .go s=>I s
 | .out b=>d b
def ak{b:Type}{a:b}{c:b->Prop}(h:c a):Rn (J a) c:=⟨a,rfl,h⟩
def Y5{c d:Type}{e:Option c}{f:c->Option d}{g:d->Prop}(h:Rn e λa=>Rn (f a) g):Rn (e.bind f) g:=by
 obtain⟨a,i,b,j,l⟩:=h;exact⟨b,by rw[i];exact j,l⟩
def ag{b c:Type}{e:Option b}{a:b}{f:b->Option c}{d:c->Prop}(h:e=J a)(g:Rn (f a) d):Rn (e.bind f) d:=Y5 ⟨a,h,g⟩
def ax{b c:Type}{e:Option b}{f:b->Option c}{ψ:b->Prop}{φ:c->Prop}(h:Rn e ψ)(d:∀a,ψ a->Rn (f a) φ):Rn (e.bind f) φ:=Y5 (zAm h d)
def aJ{a:Type}{p:Prop}[Decidable p]{e:Option a}{b:a->Prop}(c:p)(h:Rn e b):Rn (gd p e) b:=by rw[d6 c];exact h
def bB{a b:Type}{l:List a}{f:a->Option b}{c:b->Prop}(d:k<l.length)(h:Rn (f l[k]) c):Rn ((ix l (k:Int)).bind f) c:=ag (hZ d) h
def iS{a:Type}{e c:Option a}{b:a->Prop}(d:v=O)(h:Rn e b):Rn (if v=O then e else c) b:=by rw[aE d];exact h
def bQ{b:Type}{e a:Option b}{c:b->Prop}(d:v=Z)(h:Rn a c):Rn (if v=O then e else a) c:=by rw[aA (by simp[d])];exact h
def aU{c:Type}{e b:Option c}{a:c->Prop}(h:v=O->Rn e a)(d:v=Z->Rn b a):Rn (if v=O then e else b) a:=by
 cases v
 ·exact bQ rfl (d rfl)
 ·exact iS rfl (h rfl)
def bW{b:Type}{e:Option b}{a:b}(h:Rn e (· =a)):e=J a:=zAB h
def eI{a c:Type}{d:Int->a->Option (fi a c)}{stop:a->c}{m:Nat}{g:a}{φ:c->Prop}(I:Nat->a->Prop)(h:I 0 g)
(n:∀k s,k<m->I k s->Rn (d (k:Int) s) (so (I (k+1)) φ))(j:∀s,I m s->φ (stop s)):Rn (aO d stop m 0 g) φ:=by
 refine zv3 I φ h (λk s l i=>?_) j;obtain⟨x,e,f⟩:=n k s l i;rw[QC];cases x with
 |go o=>exact .inl ⟨o,e,f⟩
 |out b=>exact .inr ⟨b,e,f⟩
def tZ{c h:Type}{step:c->Option (fi c h)}{f:c}{φ:h->Prop}(I:c->Prop)(d:c->Nat)(i:I f)
(l:∀s,I s->Rn (step s) (so (λa=>I a/\d a<d s) φ)):Rn (dO step f) φ:=by
 refine zpe (λn s=>d s=n/\I s) φ (λn s j=>?_) _ f ⟨rfl,i⟩;obtain⟨x,g,e⟩:=l s j.2;cases x with
 |go a=>exact .inl ⟨a,d a,g,by have:=e.2;omega,rfl,e.1⟩
 |out b=>exact .inr ⟨b,g,e⟩
def kZ{d i:Type}{step:d->Option (fi d i)}{h:d}{e:i->Prop}(m:Nat)(I:Nat->d->Prop)(j:I 0 h)
(o:∀k s,k<m->I k s->Rn (step s) (so (I (k+1)) e))(l:∀s,I m s->Rn (step s) (so (λ_=>False) e)):Rn (dO step h) e:=by
 refine zvf m I e j (λk s n f=>?_) λs f=>?_
 ·obtain⟨x,c,a⟩:=o k s n f;cases x with
  |go g=>exact .inl ⟨g,c,a⟩
  |out b=>exact .inr ⟨b,c,a⟩
 ·obtain⟨x,c,a⟩:=l s f;cases x with
  |go g=>exact a.elim
  |out b=>exact⟨b,c,a⟩
end Go.Pm
