import Derived.Test.YtjnidpmkglobfaaGreatPmR
open Bool renaming false→Z,true→O
open Option renaming some→J
set_option linter.defProp false
namespace Go.Pm
open Go.Am
inductive iG where
 |code (c:Code)
 |wk (c:Code)
 |ops (pre:List (Option Tmp)) (l:List Oper)
 |iE (pre:List (Option Tmp)) (l:List (DE×Oper))
 |bn (id:Nat)
def fU(P:Program)(c:aW):List iG->(Exit->ae->Prop)->Exit->ae->Prop
 |[],Q,e=>Q e
 |it::k,Q,e=>match e with
  | .normal=>match it with
   | .code x=>gG P c x (fU P c k Q)
   | .wk x=>λY=>∃a,oQ a Y/\gG P c x (fU P c k Q) a
   | .ops pre l=>CS P c pre l (fU P c k Q .normal)
   | .iE pre l=>F0 P c pre l (fU P c k Q .normal)
   | .bn _=>fU P c k Q .normal
  | .exit id=>match it with
   | .bn i=>if id=i then fU P c k Q .normal else fU P c k Q (.exit id)
   |_=>fU P c k Q (.exit id)
  |e=>fU P c k Q e
def pw(P:Program)(c:aW)(k:List iG)(Q:Exit->ae->Prop)(Y:ae):Prop:=fU P c k Q .normal Y
section
variable {P:Program}{c:aW}{K X:ae->Prop}
variable{d:Option Tmp}{o:Oper}{Y:ae}
def zzj(a:∀Y,K Y->X Y){d:Nat}{x:Option (PF×ae)}(h:Kf K d x):Kf X d x:=by
 cases x with
 |none=>exact h
 |some x=>exact a _ h
def fI(f:∀Y,K Y->X Y){y:PF}(h:dI c K d y Y):dI c X d y Y:=by
 cases d with
 |none=>exact f _ h
 |some d=>
  refine⟨h.1,?_⟩;have a:=h.2;split at a
  ·rename_i e;rw[aE e];exact zzj f a
  ·rename_i e;rw[aA e];exact f _ a
def Y7(a:∀Y,K Y->X Y){x:Option AD}(h:F2 c K d Y x):F2 c X d Y x:=by
 cases x with
 |none=>exact h
 |some x=>exact fI a h
def Ln(a:∀Y,K Y->X Y)(h:lO P c o K Y):lO P c o X Y:=by
 unfold lO at h⊢;split at h
 ·split at h
  ·exact fI a h
  ·exact h
 ·exact h
def zq5(a:∀Y,K Y->X Y){r:PV}{x:Option ae}(h:LI c d K r x):LI c d X r x:=by
 cases x with
 |none=>exact h
 |some x=>exact fI a h
def zog(j:∀Y,K Y->X Y){f:Operand}{args:List Operand}{i:List TypeId}{g:List Md}(h:Kz P c f args i d K Y g):Kz P c f args i d X Y g:=by
 refine⟨h.1,?_⟩;have a:=h.2;unfold Ut at a⊢;split at a
 ·unfold zB at a⊢;split at a
  ·exact a.mono λr l e=>⟨e.1,zq5 j e.2⟩
  ·exact a
 ·exact a
def zt6(g:∀Y,K Y->X Y){f:Operand}{l:List (Md×Nat×Operand)}{x:Nat×FuncId×List PV}{y:Option (List PV×ae)}(h:Lc P c f d K l x y):Lc P c f d X l x y:=by
 unfold Lc at h⊢;split at h
 ·refine⟨h.1,?_⟩;have a:=h.2;unfold zB at a⊢;split at a
  ·exact a.mono λr i e=>⟨e.1,zq5 g e.2⟩
  ·exact a
 ·exact h
def zwB(f:∀Y,K Y->X Y){a:BinOp}{t:TypeId}{x:Operand}(h:Dw P c a t x d K Y):Dw P c a t x d X Y:=by
 unfold Dw at h⊢;split at h
 ·exact⟨h.1,λb e=>fI f (h.2 b e)⟩
 ·exact h
def zwd(a:∀Y,K Y->X Y){s t:TypeId}{x:Operand}(h:yn P c s t x d K Y):yn P c s t x d X Y:=by
 unfold yn at h⊢;split at h
 ·exact⟨h.1,fI a h.2⟩
 ·exact h
def Ov(a:∀Y,K Y->X Y)(h:n0 P c o K Y):n0 P c o X Y:=by
 unfold n0 at h⊢;split at h
 ·unfold FW at h⊢;split at h
  ·unfold GW at h⊢;split at h
   ·exact fI a h
   ·exact h
  ·split at h
   ·exact fI a h
   ·exact h
 ·unfold Gc at h⊢;split at h
  ·refine⟨h.1,h.2.1,?_⟩;have f:=h.2.2;unfold FM at f⊢;split at f
   ·split at f
    ·exact a _ f
    ·exact f
   ·exact f
  ·exact h
 ·exact Y7 a h
 ·unfold ED at h⊢;split at h
  ·exact fI a h
  ·split at h
   ·exact fI a h
   ·exact h
 ·exact Y7 a h
 ·unfold Ht at h⊢;split at h
  ·refine⟨h.1,?_⟩;have f:=h.2;split at f
   ·rename_i e;rw[aE e];exact a _ f
   ·rename_i e;rw[aA e];exact a _ f
  ·exact h
 ·unfold FQ at h⊢;split at h
  ·refine⟨h.1,h.2.1,h.2.2.1,?_⟩;have f:=h.2.2.2;split at f
   ·rename_i e;rw[aE e];split at f
    ·rename_i e;rw[aE e];exact a _ f
    ·rename_i e;rw[aA e];exact a _ f
   ·rename_i e;rw[aA e];exact a _ f
  ·exact h
 ·unfold E5 at h⊢;split at h
  ·rename_i p;rw[aE p];unfold In at h⊢;split at h
   ·exact fI a h
   ·exact h
  rename_i p;rw[aA p];split at h
  ·refine⟨h.1,?_⟩;have f:=h.2;unfold OC at f⊢;split at f
   ·exact⟨f.1,a _ f.2⟩
   ·exact f
  ·exact h
 ·unfold HC at h⊢;split at h
  ·unfold Q1 at h⊢;split at h
   ·exact fI a h
   ·exact h
  ·exact h
 ·unfold Hj OP at h⊢;split at h
  ·split at h
   ·exact fI a h
   ·exact h
  ·split at h
   ·exact fI a h
   ·exact h
  ·exact h
 ·unfold HD at h⊢;split at h
  ·unfold O5 at h⊢;split at h
   ·exact⟨h.1,fI a h.2⟩
   ·exact h
  ·exact h
 ·unfold Fv at h⊢;split at h
  ·rename_i m;rw[aE m];split at h
   ·exact fI a h
   ·exact h
  ·rename_i m;rw[aA m];split at h
   ·exact fI a h
   ·exact h
 ·unfold uo at h⊢;split at h
  ·unfold tR at h⊢;split at h
   ·refine⟨h.1,?_⟩;have f:=h.2;split at f
    ·rename_i e;rw[aE e];exact fI a f
    ·rename_i e;rw[aA e];exact fI a f
   ·exact⟨h.1,fI a h.2⟩
   ·exact fI a h
   ·exact h
   ·exact h
   ·split at h
    ·rename_i e;rw[aE e];split at h
     ·exact fI a h
     ·exact h
    ·rename_i e;rw[aA e];exact fI a h
   ·exact fI a h
  ·split at h
   ·exact fI a h
   ·exact h
 ·unfold F3 at h⊢;split at h
  ·exact fI a h
  ·split at h
   ·exact fI a h
   ·exact h
 ·unfold Gn at h⊢;split at h
  ·refine⟨h.1,?_⟩;have i:=h.2;unfold Jt at i⊢;split at i
   ·refine⟨i.1,?_⟩;have f:=i.2;split at f
    ·rename_i e;rw[aE e];exact fI a f
    ·rename_i e;rw[aA e];exact fI a f
   ·exact i
  ·exact h
 ·split at h
  ·rename_i e;rw[aE e];exact Ln a h
  ·rename_i e;rw[aA e];unfold GP at h⊢;split at h
   ·unfold Ha at h⊢;split at h
    ·split at h
     ·exact fI a h
     ·exact h
    ·split at h
     ·exact⟨h.1,h.2.1,fI a h.2.2⟩
     ·exact h
    ·exact h
   ·exact h
 ·unfold Rt at h⊢;split at h
  ·split at h
   ·rename_i e;rw[aE e];exact Ln a h
   ·rename_i e;rw[aA e];unfold Er at h⊢;split at h
    ·split at h
     ·exact λA=>fI a (h A)
     ·exact h
    ·exact h
  ·exact h
 ·unfold Uy at h⊢;split at h
  ·split at h
   ·rename_i r;rw[aE r];unfold Gv at h⊢;split at h
    ·unfold MX at h⊢;split at h
     ·split at h
      ·unfold PC at h⊢;split at h
       ·exact⟨h.1,h.2.1,fI a h.2.2⟩
       ·exact h
      ·exact h
     ·exact h
    ·exact h
   ·rename_i r;rw[aA r];unfold HU at h⊢;split at h
    ·refine⟨h.1,?_⟩;have h:=h.2;unfold VP at h⊢;split at h
     ·split at h
      ·exact⟨h.1,fI a h.2⟩
      ·exact h
     ·exact h
    ·exact h
  ·exact h
 ·unfold OG at h⊢;split at h
  ·refine⟨h.1,?_⟩;have h:=h.2;unfold S5 at h⊢;split at h
   ·exact⟨h.1,a _ h.2⟩
   ·exact h
  ·exact h
 ·rcases h with⟨q,h⟩|⟨g,x,t,n,z,j,l,s,u,v,w,h⟩|⟨q,x,j,l,h⟩
  ·exact .inl ⟨q,zog a h⟩
  ·exact .inr (.inl ⟨g,x,t,n,z,j,l,s,u,v,w,fI a h⟩)
  ·exact .inr (.inr ⟨q,x,j,l,zt6 a h⟩)
 all_goals first
  |exact Ln a h
  | (split at h
     ·rename_i e;rw[aE e];exact⟨h.1,zwB a h.2⟩
     ·rename_i e;rw[aA e];exact Ln a h)
  | (split at h
     ·rename_i e;rw[aE e];exact⟨h.1,zwd a h.2⟩
     ·rename_i e;rw[aA e];exact Ln a h)
  |exact h
def zvM(a:∀Y,K Y->X Y)(h:v5 c d K Y):v5 c d X Y:=by
 cases d with
 |none=>exact a _ h
 |some d=>exact⟨h.1,a _ h.2⟩
def Zt(f:∀Y,K Y->X Y){b:Bool}{r e:Prop}(g:r->e){y:Option (Option Bool)}(h:l6 c b d r K Y y):l6 c b d e X Y y:=by
 unfold l6 at h⊢;split at h
 ·split at h
  ·rename_i a;rw[aE a];exact g h
  ·rename_i a;rw[aA a];exact zvM f h
 ·exact h
def zx4{pre:List (Option Tmp)}:∀{l:List Oper}{K X:ae->Prop}(_:∀Y,K Y->X Y) {Y:ae},CS P c pre l K Y->CS P c pre l X Y:=by
 intro l;induction l with
 |nil=>intro K X e Y h;exact e _ h
 |cons o l ih=>
  intro K X e Y h;simp only[CS,BK]at h⊢;split at h
  ·exact Ov (λ_ a=>ih e a) h
  ·exact Zt (λ_ a=>ih e a) (Ov λ_ a=>ih e a) h
def zq6(a:∀Y,K Y->X Y){ext:Bool}(h:sJ P c ext o K Y):sJ P c ext o X Y:=by
 unfold sJ at h⊢;split at h
 ·split at h
  ·rename_i e;rw[aE e];exact zog a h
  ·rename_i e;rw[aA e];exact Ov a h
 ·exact⟨h.1,Ov a h.2⟩
def zwA{pre:List (Option Tmp)}:∀{l:List (DE×Oper)}{K X:ae->Prop}(_:∀Y,K Y->X Y) {Y:ae},F0 P c pre l K Y->F0 P c pre l X Y:=by
 intro l;induction l with
 |nil=>intro K X f Y h;exact f _ h
 |cons x l ih=>
  obtain⟨e,o⟩:=x;intro K X f Y h;refine⟨h.1,?_⟩;have g:=h.2;unfold H4 at g⊢;split at g
  ·exact zq6 (λ_ a=>ih f a) g
  ·exact Zt (λ_ a=>ih f a) (zq6 λ_ a=>ih f a) g
def TP:∀(x:Code) {Q g:Exit->ae->Prop},(∀e Y,Q e Y->g e Y)->∀{Y},gG P c x Q Y->gG P c x g Y:=by
 intro x;induction x with
 |skip=>intro Q g f Y h;exact f _ _ h
 |region id s r=>
  intro Q g f Y h;simp only[gG]at h⊢;split at h
  ·rename_i hd;rw[aE hd];obtain⟨a,n,h⟩:=h;exact⟨a,n,UJ (λ_=>zwA (f .normal)) h⟩
  ·rename_i hd;rw[aA hd];exact zx4 (f .normal) h
 |seq x y p m=>
  intro Q g f Y h;refine p (λe Y h=>?_) h;cases e<;>try exact f _ _ h
  obtain⟨i,j,h⟩:=h;exact⟨i,j,m f h⟩
 |cond b x y p m=>
  intro Q g f Y h;obtain⟨i,j,h⟩:=h;refine⟨i,j,?_⟩;unfold Tp at h⊢;split at h
  ·split at h
   ·rename_i e;rw[aE e];exact p f h
   ·rename_i e;rw[aA e];exact m f h
  ·exact h
 |block id b ih=>
  intro Q g f Y h;refine ih (λe Y h=>?_) h;cases e<;>try exact f _ _ h
  simp only[Jd]at h⊢;split at h
  ·rename_i e;rw[aE e];exact f _ _ h
  ·rename_i e;rw[aA e];exact f _ _ h
 |loop b ih=>
  intro Q g f Y h;obtain⟨n,l⟩:=h;refine⟨n,?_⟩;induction n generalizing Y with
  |zero=>exact l
  |succ n q=>
   obtain⟨i,j,l⟩:=l;refine⟨i,j,ih (λe Y h=>?_) l⟩;cases e<;>first|exact q h|exact f _ _ h
 |exit id=>intro Q g f Y h;exact f _ _ h
 |ret=>intro Q g f Y h;exact f _ _ h
 |_=>intros;rename_i h;exact absurd h (by simp[gG])
end
section
variable {P:Program}{c:aW}{k:List iG}{Q:Exit->ae->Prop}{Y:ae}
variable{b:Operand}{id n:Nat}{x y:Code}
def zzx{a:ae}(h:Y=a):pw P c k Q Y=pw P c k Q a:=by rw[h]
@[go_sem ↓] theorem zSn:pw P c [] Q Y=Q .normal Y:=rfl
@[go_sem ↓] theorem zRL{i:Nat}:pw P c (.bn i::k) Q Y=pw P c k Q Y:=rfl
@[go_sem ↓] theorem zP1:pw P c (.code .skip::k) Q Y=pw P c k Q Y:=rfl
@[go_sem ↓] def T5 :pw P c (.code (.seq x y)::k) Q Y=pw P c (.code x::.wk y::k) Q Y:=by
 show gG P c x (XV (λY=>∃a,oQ a Y/\gG P c y (fU P c k Q) a) (fU P c k Q)) Y=gG P c x (fU P c (.wk y::k) Q) Y;congr 1;funext e;cases e<;>rfl
@[go_sem ↓] def a3g{b:Code}:pw P c (.code (.block id b)::k) Q Y=pw P c (.code b::.bn id::k) Q Y:=by
 show gG P c b (Jd id (fU P c k Q)) Y=gG P c b (fU P c (.bn id::k) Q) Y;congr 1;funext e;cases e<;>try rfl
 funext Y;simp only[Jd,fU];split<;>rfl
def Vq:fU P c k Q .ret=Q .ret:=by
 induction k with
 |nil=>rfl
 |cons a k ih=>exact ih
@[go_sem ↓] def zQI:pw P c (.code .ret::k) Q Y=Q .ret Y:=by
 show fU P c k Q .ret Y=_;rw[Vq]
def pwx(P:Program)(c:aW)(id:Nat)(k:List iG)(Q:Exit->ae->Prop)(Y:ae):Prop:=fU P c k Q (.exit id) Y
@[go_sem ↓] theorem zPw :pw P c (.code (.exit id)::k) Q Y=pwx P c id k Q Y:=rfl
@[go_sem ↓] theorem zOo :pwx P c id [] Q Y=Q (.exit id) Y:=rfl
@[go_sem ↓] theorem zI1 :pwx P c id (.code x::k) Q Y=pwx P c id k Q Y:=rfl
@[go_sem ↓] theorem zR2 :pwx P c id (.wk x::k) Q Y=pwx P c id k Q Y:=rfl
@[go_sem ↓] theorem zOp{pre:List (Option Tmp)}{l:List Oper}:pwx P c id (.ops pre l::k) Q Y=pwx P c id k Q Y:=rfl
@[go_sem ↓] theorem zJ6{pre:List (Option Tmp)}{l:List (DE×Oper)}:pwx P c id (.iE pre l::k) Q Y=pwx P c id k Q Y:=rfl
@[go_sem ↓] def zNH{i:Nat}:pwx P c id (.bn i::k) Q Y=if id=i then pw P c k Q Y else pwx P c id k Q Y:=by
 show(fU P c (.bn i::k) Q (.exit id)) Y=_;simp only[fU];split<;>rfl
def ae.eZ:List (Nat×PF)->ae
 |[],_=>jP
 |(s,x)::l,t=>if t=s then x else ae.eZ l t
def iw:List (Nat×PF)->ae->Prop
 |[],_=>True
 |(s,x)::l,Y=>Y s=x/\iw l Y
@[go_sem] theorem zGl{Y:ae}:iw [] Y=True:=rfl
@[go_sem] theorem zDu{s:Nat}{x:PF}{l:List (Nat×PF)}{Y:ae}:iw ((s,x)::l) Y=(Y s=x/\iw l Y):=rfl
def ztu:∀{l:List (Nat×PF)}{Y:ae},iw l Y->∀t,ae.eZ l t=Y t\/ae.eZ l t=jP:=by
 intro l;induction l with
 |nil=>intro Y _ t;exact .inr rfl
 |cons p l ih=>
  intro Y h t;obtain⟨s,x⟩:=p;obtain⟨f,g⟩:=h;by_cases e:t=s
  ·subst e;left;simp[ae.eZ,f]
  ·rcases ih g t with a|a
   ·left;simpa[ae.eZ,e]using a
   ·right;simpa[ae.eZ,e]using a
def Mt{l:List (Nat×PF)}{Y:ae}(h:iw l Y):oQ (ae.eZ l) Y:=.w (ztu h)
def Y9:oQ Y Y:=.w λ_=>.inl rfl
def ME(s:Nat){y:PV}(g:Y s=.v y)(i:dv y=Z)(h:pw P c (.wk x::k) Q ((Y.bV s (.v (drop y))).kill s 0)):pw P c (.wk x::k) Q Y:=
 let⟨a,e,f⟩:=h;⟨a,.f s y g i e,f⟩
theorem W4:∀(a:List PV) (j:Nat) (y:PV),j<a.length->jV a j [y]=J (a.set j y)
 |[],_,_,h=>by simp at h
 |c::cs,0,y,_=>by cases cs<;>rfl
 |c::cs,j+1,y,h=>by
  show(jV cs j [y]).map (c:: ·)=J (c::cs.set j y);rw[W4 cs j y (by simpa using h)];rfl
def zzb{e Y:ae}(s j:Nat){a:List PV}{y:PV}(f:Y s=.bl a)(g:a[j]? =J y)(i:dv y=Z)(h:oQ e ((Y.bV s (.bl (a.set j (drop y)))).kill s 1)):oQ e Y:=by
 have l:j<a.length:=(cY.1 g).1;refine .g s [(0,j)] y (by simp) ?_ i ?_ h
 ·simp[cj,f,fS,iV,iK,g]
 ·simp[iL,pD,mK,f,fS,jK,iU,W4 _ _ _ l,sI]
def nA(s j:Nat){a:List PV}{y:PV}(l:Y s=.bl a)(m:a[j]? =J y)(i:dv y=Z)(h:pw P c (.wk x::k) Q ((Y.bV s (.bl (a.set j (drop y)))).kill s 1)):pw P c (.wk x::k) Q Y:=
 let⟨e,f,g⟩:=h;⟨e,zzb s j l m i f,g⟩
def ba(h:pw P c (.code x::k) Q Y):pw P c (.wk x::k) Q Y:=⟨Y,Y9,h⟩
def LF(l:List (Nat×PF))(a:iw l Y)(h:pw P c (.code x::k) Q (ae.eZ l)):pw P c (.wk x::k) Q Y:=⟨ae.eZ l,Mt a,h⟩
def RH{v:Bool}(a:cr Y b=J (.bool v))(f:v=O->pw P c (.code x::k) Q Y)(e:v=Z->pw P c (.code y::k) Q Y):
 pw P c (.code (.cond b x y)::k) Q Y:=by
 refine⟨Y,Y9,?_⟩;rw[a];cases v
 ·exact e rfl
 ·exact f rfl
def Pd(a:cr Y b=J (.bool O))(e:pw P c (.code x::k) Q Y):pw P c (.code (.cond b x y)::k) Q Y:=RH a (λ_=>e) (λh=>by cases h)
def V0(a:cr Y b=J (.bool Z))(e:pw P c (.code y::k) Q Y):pw P c (.code (.cond b x y)::k) Q Y:=RH a (λh=>by cases h) (λ_=>e)
def zxf{a:Type}(shape:a->List (Nat×PF))(I:a->Prop)(e:a->Nat)(n:Nat)(Y:ae):Prop:=∃s,iw (shape s) Y/\I s/\e s<n
def UQ{a:Type}(P:Program)(c:aW)(shape:a->List (Nat×PF))(I:a->Prop)(f:a->Nat)(n:Nat)(k:List iG)(Q:Exit->ae->Prop):Exit->ae->Prop
 | .normal,Y=>zxf shape I f n Y
 |e,Y=>fU P c k Q e Y
@[go_sem ↓] theorem zBw{a:Type}{shape:a->List (Nat×PF)}{I:a->Prop}{e:a->Nat}:UQ P c shape I e n k Q .normal Y=zxf shape I e n Y:=rfl
@[go_sem ↓] theorem zDM{a:Type}{shape:a->List (Nat×PF)}{I:a->Prop}{e:a->Nat}:UQ P c shape I e n k Q (.exit id) Y=pwx P c id k Q Y:=rfl
@[go_sem ↓] def zGs{a:Type}{shape:a->List (Nat×PF)}{I:a->Prop}{e:a->Nat}:UQ P c shape I e n k Q .ret Y=Q .ret Y:=by
 show fU P c k Q .ret Y=_;rw[Vq]
end
end Go.Pm
