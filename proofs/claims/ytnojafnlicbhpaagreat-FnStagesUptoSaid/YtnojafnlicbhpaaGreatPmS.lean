import Derived.Test.YtnojafnlicbhpaaGreatPmR
namespace Go.Pm
set_option linter.defProp false
open Go.Am
open Bool renaming false→aa,true→Z
open Option renaming some→J
inductive ip where
 |code (c:Code)
 |wk (c:Code)
 |ops (pre:List (Option Tmp)) (l:List Oper)
 |iq (pre:List (Option Tmp)) (l:List (DE×Oper))
 |bq (id:Nat)
def fB(P:Program)(c:aY):List ip->(Exit->ah->Prop)->Exit->ah->Prop
 |[],Q,e=>Q e
 |it::k,Q,e=>match e with
  | .normal=>match it with
   | .code x=>gu P c x (fB P c k Q)
   | .wk x=>λpf=>∃bW,n9 bW pf/\gu P c x (fB P c k Q) bW
   | .ops pre l=>C0 P c pre l (fB P c k Q .normal)
   | .iq pre l=>EB P c pre l (fB P c k Q .normal)
   | .bq _=>fB P c k Q .normal
  | .exit id=>match it with
   | .bq i=>if id=i then fB P c k Q .normal else fB P c k Q (.exit id)
   |_=>fB P c k Q (.exit id)
  |e=>fB P c k Q e
def pw(P:Program)(c:aY)(k:List ip)(Q:Exit->ah->Prop)(pf:ah):Prop:=fB P c k Q .normal pf
section
variable {P:Program}{c:aY}{K K2:ah->Prop}
variable{d:Option Tmp}{o:Oper}{pf:ah}
def zzm(hk:∀pf,K pf->K2 pf){d:Nat}{x:Option (PF×ah)}(h:Hu K d x):Hu K2 d x:=by
 cases x with
 |none=>exact h
 |some x=>exact hk _ h
def fo(hk:∀pf,K pf->K2 pf){y:PF}(h:dF c K d y pf):dF c K2 d y pf:=by
 cases d with
 |none=>exact hk _ h
 |some d=>
  refine⟨h.1,?_⟩;have h2:=h.2;split at h2
  ·rename_i hh;rw[aB hh];exact zzm hk h2
  ·rename_i hh;rw[az hh];exact hk _ h2
def zs5(hk:∀pf,K pf->K2 pf){x:Option AD}(h:F1 c K d pf x):F1 c K2 d pf x:=by
 cases x with
 |none=>exact h
 |some x=>exact fo hk h
def Kl(hk:∀pf,K pf->K2 pf)(h:kT P c o K pf):kT P c o K2 pf:=by
 unfold kT at h⊢;split at h
 ·split at h
  ·exact fo hk h
  ·exact h
 ·exact h
def zrx(hk:∀pf,K pf->K2 pf){r:PV}{x:Option ah}(h:J6 c d K r x):J6 c d K2 r x:=by
 cases x with
 |none=>exact h
 |some x=>exact fo hk h
def ZP(hk:∀pf,K pf->K2 pf){f:Operand}{args:List Operand}{ts:List TypeId}{ms:List Md}(h:I3 P c f args ts d K pf ms):I3 P c f args ts d K2 pf ms:=by
 refine⟨h.1,?_⟩;have h2:=h.2;unfold Si at h2⊢;split at h2
 ·unfold y9 at h2⊢;split at h2
  ·exact h2.mono λr outs hh=>⟨hh.1,zrx hk hh.2⟩
  ·exact h2
 ·exact h2
def zum(hk:∀pf,K pf->K2 pf){f:Operand}{l:List (Md×Nat×Operand)}{x:Nat×FuncId×List PV}{y:Option (List PV×ah)}(h:J4 P c f d K l x y):J4 P c f d K2 l x y:=by
 unfold J4 at h⊢;split at h
 ·refine⟨h.1,?_⟩;have h2:=h.2;unfold y9 at h2⊢;split at h2
  ·exact h2.mono λr outs hh=>⟨hh.1,zrx hk hh.2⟩
  ·exact h2
 ·exact h
def zvT(hk:∀pf,K pf->K2 pf){op:BinOp}{t:TypeId}{x:Operand}(h:BX P c op t x d K pf):BX P c op t x d K2 pf:=by
 unfold BX at h⊢;split at h
 ·exact⟨h.1,λb hb=>fo hk (h.2 b hb)⟩
 ·exact h
def zwd(hk:∀pf,K pf->K2 pf){s t:TypeId}{x:Operand}(h:yc P c s t x d K pf):yc P c s t x d K2 pf:=by
 unfold yc at h⊢;split at h
 ·exact⟨h.1,fo hk h.2⟩
 ·exact h
def Me(hk:∀pf,K pf->K2 pf)(h:ny P c o K pf):ny P c o K2 pf:=by
 unfold ny at h⊢;split at h
 ·unfold EN at h⊢;split at h
  ·unfold Dh at h⊢;split at h
   ·exact fo hk h
   ·exact h
  ·split at h
   ·exact fo hk h
   ·exact h
 ·unfold Ev at h⊢;split at h
  ·refine⟨h.1,h.2.1,?_⟩;have h3:=h.2.2;unfold FJ at h3⊢;split at h3
   ·split at h3
    ·exact hk _ h3
    ·exact h3
   ·exact h3
  ·exact h
 ·exact zs5 hk h
 ·unfold EY at h⊢;split at h
  ·exact fo hk h
  ·split at h
   ·exact fo hk h
   ·exact h
 ·exact zs5 hk h
 ·unfold Fo at h⊢;split at h
  ·refine⟨h.1,?_⟩;have h3:=h.2;split at h3
   ·rename_i hh;rw[aB hh];exact hk _ h3
   ·rename_i hh;rw[az hh];exact hk _ h3
  ·exact h
 ·unfold DQ at h⊢;split at h
  ·refine⟨h.1,h.2.1,h.2.2.1,?_⟩;have h3:=h.2.2.2;split at h3
   ·rename_i hh;rw[aB hh];split at h3
    ·rename_i hh;rw[aB hh];exact hk _ h3
    ·rename_i hh;rw[az hh];exact hk _ h3
   ·rename_i hh;rw[az hh];exact hk _ h3
  ·exact h
 ·unfold Fh at h⊢;split at h
  ·rename_i hm;rw[aB hm];unfold JG at h⊢;split at h
   ·exact fo hk h
   ·exact h
  rename_i hm;rw[az hm];split at h
  ·refine⟨h.1,?_⟩;have h3:=h.2;unfold Lz at h3⊢;split at h3
   ·exact⟨h3.1,hk _ h3.2⟩
   ·exact h3
  ·exact h
 ·unfold EO at h⊢;split at h
  ·unfold SH at h⊢;split at h
   ·exact fo hk h
   ·exact h
  ·exact h
 ·unfold Df Lk at h⊢;split at h
  ·split at h
   ·exact fo hk h
   ·exact h
  ·split at h
   ·exact fo hk h
   ·exact h
  ·exact h
 ·unfold F4 at h⊢;split at h
  ·unfold K3 at h⊢;split at h
   ·exact⟨h.1,fo hk h.2⟩
   ·exact h
  ·exact h
 ·unfold D2 at h⊢;split at h
  ·rename_i hb;rw[aB hb];split at h
   ·exact fo hk h
   ·exact h
  ·rename_i hb;rw[az hb];split at h
   ·exact fo hk h
   ·exact h
 ·unfold tn at h⊢;split at h
  ·unfold sW at h⊢;split at h
   ·refine⟨h.1,?_⟩;have h3:=h.2;split at h3
    ·rename_i hh;rw[aB hh];exact fo hk h3
    ·rename_i hh;rw[az hh];exact fo hk h3
   ·exact⟨h.1,fo hk h.2⟩
   ·exact fo hk h
   ·exact h
   ·exact h
   ·split at h
    ·rename_i hh;rw[aB hh];split at h
     ·exact fo hk h
     ·exact h
    ·rename_i hh;rw[az hh];exact fo hk h
   ·exact fo hk h
  ·split at h
   ·exact fo hk h
   ·exact h
 ·unfold FZ at h⊢;split at h
  ·exact fo hk h
  ·split at h
   ·exact fo hk h
   ·exact h
 ·unfold EF at h⊢;split at h
  ·refine⟨h.1,?_⟩;have h2:=h.2;unfold JD at h2⊢;split at h2
   ·refine⟨h2.1,?_⟩;have h3:=h2.2;split at h3
    ·rename_i hh;rw[aB hh];exact fo hk h3
    ·rename_i hh;rw[az hh];exact fo hk h3
   ·exact h2
  ·exact h
 ·split at h
  ·rename_i hh;rw[aB hh];exact Kl hk h
  ·rename_i hh;rw[az hh];unfold Ed at h⊢;split at h
   ·unfold Dx at h⊢;split at h
    ·split at h
     ·exact fo hk h
     ·exact h
    ·split at h
     ·exact⟨h.1,h.2.1,fo hk h.2.2⟩
     ·exact h
    ·exact h
   ·exact h
 ·unfold Sn at h⊢;split at h
  ·split at h
   ·rename_i hh;rw[aB hh];exact Kl hk h
   ·rename_i hh;rw[az hh];unfold Cz at h⊢;split at h
    ·split at h
     ·exact λhl=>fo hk (h hl)
     ·exact h
    ·exact h
  ·exact h
 ·unfold S9 at h⊢;split at h
  ·split at h
   ·rename_i wj;rw[aB wj];unfold EX at h⊢;split at h
    ·unfold NP at h⊢;split at h
     ·split at h
      ·unfold Nv at h⊢;split at h
       ·exact⟨h.1,h.2.1,fo hk h.2.2⟩
       ·exact h
      ·exact h
     ·exact h
    ·exact h
   ·rename_i wj;rw[az wj];unfold I4 at h⊢;split at h
    ·refine⟨h.1,?_⟩;have h:=h.2;unfold O7 at h⊢;split at h
     ·split at h
      ·exact⟨h.1,fo hk h.2⟩
      ·exact h
     ·exact h
    ·exact h
  ·exact h
 ·unfold KS at h⊢;split at h
  ·refine⟨h.1,?_⟩;have h:=h.2;unfold TZ at h⊢;split at h
   ·exact⟨h.1,hk _ h.2⟩
   ·exact h
  ·exact h
 ·rcases h with⟨ms,h⟩|⟨g,x,t,n,z,a1,a2,a3,a4,a5,a6,h⟩|⟨ms,x,a1,a2,h⟩
  ·exact .inl ⟨ms,ZP hk h⟩
  ·exact .inr (.inl ⟨g,x,t,n,z,a1,a2,a3,a4,a5,a6,fo hk h⟩)
  ·exact .inr (.inr ⟨ms,x,a1,a2,zum hk h⟩)
 all_goals first
  |exact Kl hk h
  | (split at h
     ·rename_i hh;rw[aB hh];exact⟨h.1,zvT hk h.2⟩
     ·rename_i hh;rw[az hh];exact Kl hk h)
  | (split at h
     ·rename_i hh;rw[aB hh];exact⟨h.1,zwd hk h.2⟩
     ·rename_i hh;rw[az hh];exact Kl hk h)
  |exact h
def zv0(hk:∀pf,K pf->K2 pf)(h:uG c d K pf):uG c d K2 pf:=by
 cases d with
 |none=>exact hk _ h
 |some d=>exact⟨h.1,hk _ h.2⟩
def Z5(hk:∀pf,K pf->K2 pf){b:Bool}{r r2:Prop}(hr:r->r2){y:Option (Option Bool)}(h:lm c b d r K pf y):lm c b d r2 K2 pf y:=by
 unfold lm at h⊢;split at h
 ·split at h
  ·rename_i hh;rw[aB hh];exact hr h
  ·rename_i hh;rw[az hh];exact zv0 hk h
 ·exact h
def zx4{pre:List (Option Tmp)}:∀{l:List Oper}{K K2:ah->Prop}(_:∀pf,K pf->K2 pf) {pf:ah},C0 P c pre l K pf->C0 P c pre l K2 pf:=by
 intro l;induction l with
 |nil=>intro K K2 hk pf h;exact hk _ h
 |cons o l ih=>
  intro K K2 hk pf h;simp only[C0,yL]at h⊢;split at h
  ·exact Me (λ_ hh=>ih hk hh) h
  ·exact Z5 (λ_ hh=>ih hk hh) (Me λ_ hh=>ih hk hh) h
def Vt(hk:∀pf,K pf->K2 pf){ext:Bool}(h:rJ P c ext o K pf):rJ P c ext o K2 pf:=by
 unfold rJ at h⊢;split at h
 ·split at h
  ·rename_i hx;rw[aB hx];exact ZP hk h
  ·rename_i hx;rw[az hx];exact Me hk h
 ·exact⟨h.1,Me hk h.2⟩
def zwz{pre:List (Option Tmp)}:∀{l:List (DE×Oper)}{K K2:ah->Prop}(_:∀pf,K pf->K2 pf) {pf:ah},EB P c pre l K pf->EB P c pre l K2 pf:=by
 intro l;induction l with
 |nil=>intro K K2 hk pf h;exact hk _ h
 |cons x l ih=>
  obtain⟨e,o⟩:=x;intro K K2 hk pf h;refine⟨h.1,?_⟩;have h2:=h.2;unfold HE at h2⊢;split at h2
  ·exact Vt (λ_ hh=>ih hk hh) h2
  ·exact Z5 (λ_ hh=>ih hk hh) (Vt λ_ hh=>ih hk hh) h2
def Qc:∀(x:Code) {Q Q2:Exit->ah->Prop},(∀e pf,Q e pf->Q2 e pf)->∀{pf},gu P c x Q pf->gu P c x Q2 pf:=by
 intro x;induction x with
 |skip=>intro Q Q2 hq pf h;exact hq _ _ h
 |region id ops AC=>
  intro Q Q2 hq pf h;simp only[gu]at h⊢;split at h
  ·rename_i hd;rw[aB hd];obtain⟨a,n,h⟩:=h;exact⟨a,n,S4 (λ_=>zwz (hq .normal)) h⟩
  ·rename_i hd;rw[az hd];exact zx4 (hq .normal) h
 |seq x y tf sU=>
  intro Q Q2 hq pf h;refine tf (λe pf h=>?_) h;cases e<;>try exact hq _ _ h
  obtain⟨bW,hw,h⟩:=h;exact⟨bW,hw,sU hq h⟩
 |cond b x y tf sU=>
  intro Q Q2 hq pf h;obtain⟨bW,hw,h⟩:=h;refine⟨bW,hw,?_⟩;unfold P8 at h⊢;split at h
  ·split at h
   ·rename_i e;rw[aB e];exact tf hq h
   ·rename_i e;rw[az e];exact sU hq h
  ·exact h
 |block id b ih=>
  intro Q Q2 hq pf h;refine ih (λe pf h=>?_) h;cases e<;>try exact hq _ _ h
  simp only[Jb]at h⊢;split at h
  ·rename_i e;rw[aB e];exact hq _ _ h
  ·rename_i e;rw[az e];exact hq _ _ h
 |loop b ih=>
  intro Q Q2 hq pf h;obtain⟨n,hn⟩:=h;refine⟨n,?_⟩;induction n generalizing pf with
  |zero=>exact hn
  |succ n Cr=>
   obtain⟨bW,hw,hn⟩:=hn;refine⟨bW,hw,ih (λe pf h=>?_) hn⟩;cases e<;>first|exact Cr h|exact hq _ _ h
 |exit id=>intro Q Q2 hq pf h;exact hq _ _ h
 |ret=>intro Q Q2 hq pf h;exact hq _ _ h
 |_=>intros;rename_i h;exact absurd h (by simp[gu])
end
section
variable {P:Program}{c:aY}{k:List ip}{Q:Exit->ah->Prop}{pf:ah}
variable{b:Operand}{id n:Nat}{x y:Code}
def zzJ{pf':ah}(h:pf=pf'):pw P c k Q pf=pw P c k Q pf':=by rw[h]
@[go_sem ↓] theorem zRG:pw P c [] Q pf=Q .normal pf:=rfl
@[go_sem ↓] theorem zSA{i:Nat}:pw P c (.bq i::k) Q pf=pw P c k Q pf:=rfl
@[go_sem ↓] theorem zQI:pw P c (.code .skip::k) Q pf=pw P c k Q pf:=rfl
@[go_sem ↓] def O3 :pw P c (.code (.seq x y)::k) Q pf=pw P c (.code x::.wk y::k) Q pf:=by
 show gu P c x (Xg (λpf=>∃bW,n9 bW pf/\gu P c y (fB P c k Q) bW) (fB P c k Q)) pf=gu P c x (fB P c (.wk y::k) Q) pf;congr 1;funext e;cases e<;>rfl
@[go_sem ↓] def WV{b:Code}:pw P c (.code (.block id b)::k) Q pf=pw P c (.code b::.bq id::k) Q pf:=by
 show gu P c b (Jb id (fB P c k Q)) pf=gu P c b (fB P c (.bq id::k) Q) pf;congr 1;funext e;cases e<;>try rfl
 funext pf;simp only[Jb,fB];split<;>rfl
def P5:fB P c k Q .ret=Q .ret:=by
 induction k with
 |nil=>rfl
 |cons it k ih=>exact ih
@[go_sem ↓] def zSB:pw P c (.code .ret::k) Q pf=Q .ret pf:=by
 show fB P c k Q .ret pf=_;rw[P5]
def pwx(P:Program)(c:aY)(id:Nat)(k:List ip)(Q:Exit->ah->Prop)(pf:ah):Prop:=fB P c k Q (.exit id) pf
@[go_sem ↓] theorem zQl :pw P c (.code (.exit id)::k) Q pf=pwx P c id k Q pf:=rfl
@[go_sem ↓] theorem zP9 :pwx P c id [] Q pf=Q (.exit id) pf:=rfl
@[go_sem ↓] theorem zMy :pwx P c id (.code x::k) Q pf=pwx P c id k Q pf:=rfl
@[go_sem ↓] theorem zTj :pwx P c id (.wk x::k) Q pf=pwx P c id k Q pf:=rfl
@[go_sem ↓] theorem zPg{pre:List (Option Tmp)}{l:List Oper}:pwx P c id (.ops pre l::k) Q pf=pwx P c id k Q pf:=rfl
@[go_sem ↓] theorem zK0{pre:List (Option Tmp)}{l:List (DE×Oper)}:pwx P c id (.iq pre l::k) Q pf=pwx P c id k Q pf:=rfl
@[go_sem ↓] def zOd{i:Nat}:pwx P c id (.bq i::k) Q pf=if id=i then pw P c k Q pf else pwx P c id k Q pf:=by
 show(fB P c (.bq i::k) Q (.exit id)) pf=_;simp only[fB];split<;>rfl
def ah.eu:List (Nat×PF)->ah
 |[],_=>jP
 |(s,x)::l,t=>if t=s then x else ah.eu l t
def gz:List (Nat×PF)->ah->Prop
 |[],_=>True
 |(s,x)::l,pf=>pf s=x/\gz l pf
@[go_sem] theorem zEw{pf:ah}:gz [] pf=True:=rfl
@[go_sem] theorem zEl{s:Nat}{x:PF}{l:List (Nat×PF)}{pf:ah}:gz ((s,x)::l) pf=(pf s=x/\gz l pf):=rfl
def ztl:∀{l:List (Nat×PF)}{pf:ah},gz l pf->∀t,ah.eu l t=pf t\/ah.eu l t=jP:=by
 intro l;induction l with
 |nil=>intro pf _ t;exact .inr rfl
 |cons p l ih=>
  intro pf h t;obtain⟨s,x⟩:=p;obtain⟨h1,h2⟩:=h;by_cases e:t=s
  ·subst e;left;simp[ah.eu,h1]
  ·rcases ih h2 t with e2|e2
   ·left;simpa[ah.eu,e]using e2
   ·right;simpa[ah.eu,e]using e2
def K0{l:List (Nat×PF)}{pf:ah}(h:gz l pf):n9 (ah.eu l) pf:=.w (ztl h)
def Y2:n9 pf pf:=.w λ_=>.inl rfl
theorem XC:∀(row:List PV) (j:Nat) (y:PV),j<row.length->jS row j [y]=J (row.set j y)
 |[],_,_,h=>by simp at h
 |c::cs,0,y,_=>by cases cs<;>rfl
 |c::cs,j+1,y,h=>by
  show(jS cs j [y]).map (c:: ·)=J (c::cs.set j y);rw[XC cs j y (by simpa using h)];rfl
def zzD{bW pf:ah}(s j:Nat){row:List PV}{y:PV}(hs:pf s=.bl row)(hy:row[j]? =J y)(hj:dr y=aa)(h:n9 bW ((pf.bU s (.bl (row.set j (drop y)))).kill s 1)):n9 bW pf:=by
 have hl:j<row.length:=(cT.1 hy).1;refine .g s [(0,j)] y (by simp) ?_ hj ?_ h
 ·simp[cb,hs,fD,iF,ij,hy]
 ·simp[iy,oQ,ml,hs,fD,ji,iM,XC _ _ _ hl,rU]
def jH(s j:Nat){row:List PV}{y:PV}(hs:pf s=.bl row)(hy:row[j]? =J y)(hj:dr y=aa)(h:pw P c (.wk x::k) Q ((pf.bU s (.bl (row.set j (drop y)))).kill s 1)):pw P c (.wk x::k) Q pf:=
 let⟨bW,h1,h2⟩:=h;⟨bW,zzD s j hs hy hj h1,h2⟩
def bu(h:pw P c (.code x::k) Q pf):pw P c (.wk x::k) Q pf:=⟨pf,Y2,h⟩
def Iq(l:List (Nat×PF))(ha:gz l pf)(h:pw P c (.code x::k) Q (ah.eu l)):pw P c (.wk x::k) Q pf:=⟨ah.eu l,K0 ha,h⟩
def Rm{v:Bool}(hb:cr pf b=J (.bool v))(ht:v=Z->pw P c (.code x::k) Q pf)(he:v=aa->pw P c (.code y::k) Q pf):
 pw P c (.code (.cond b x y)::k) Q pf:=by
 refine⟨pf,Y2,?_⟩;rw[hb];cases v
 ·exact he rfl
 ·exact ht rfl
def MF(hb:cr pf b=J (.bool Z))(ht:pw P c (.code x::k) Q pf):pw P c (.code (.cond b x y)::k) Q pf:=Rm hb (λ_=>ht) (λh=>by cases h)
def Qu(hb:cr pf b=J (.bool aa))(ht:pw P c (.code y::k) Q pf):pw P c (.code (.cond b x y)::k) Q pf:=Rm hb (λh=>by cases h) (λ_=>ht)
def ZE{σ:Type}(shape:σ->List (Nat×PF))(I:σ->Prop)(oD:σ->Nat)(n:Nat)(pf:ah):Prop:=∃s,gz (shape s) pf/\I s/\oD s<n
def Tl{σ:Type}(P:Program)(c:aY)(shape:σ->List (Nat×PF))(I:σ->Prop)(oD:σ->Nat)(n:Nat)(k:List ip)(Q:Exit->ah->Prop):Exit->ah->Prop
 | .normal,pf=>ZE shape I oD n pf
 |e,pf=>fB P c k Q e pf
@[go_sem ↓] theorem zCj{σ:Type}{shape:σ->List (Nat×PF)}{I:σ->Prop}{oD:σ->Nat}:Tl P c shape I oD n k Q .normal pf=ZE shape I oD n pf:=rfl
@[go_sem ↓] theorem zD7{σ:Type}{shape:σ->List (Nat×PF)}{I:σ->Prop}{oD:σ->Nat}:Tl P c shape I oD n k Q (.exit id) pf=pwx P c id k Q pf:=rfl
@[go_sem ↓] def zEI{σ:Type}{shape:σ->List (Nat×PF)}{I:σ->Prop}{oD:σ->Nat}:Tl P c shape I oD n k Q .ret pf=Q .ret pf:=by
 show fB P c k Q .ret pf=_;rw[P5]
end
end Go.Pm
