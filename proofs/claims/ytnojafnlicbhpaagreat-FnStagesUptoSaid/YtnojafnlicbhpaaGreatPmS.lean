import Derived.Test.YtnojafnlicbhpaaGreatPmR
open Bool renaming false→aa,true→Z
open Option renaming some→J
set_option linter.defProp false
namespace Go.Pm
open Go.Am
inductive iO where
 |code (c:Code)
 |wk (c:Code)
 |ops (pre:List (Option Tmp)) (l:List Oper)
 |iF (pre:List (Option Tmp)) (l:List (DE×Oper))
 |bu (id:Nat)
def fN(P:Program)(c:aY):List iO->(Exit->ah->Prop)->Exit->ah->Prop
 |[],Q,e=>Q e
 |it::k,Q,e=>match e with
  | .normal=>match it with
   | .code x=>gJ P c x (fN P c k Q)
   | .wk x=>λpf=>∃b7,oN b7 pf/\gJ P c x (fN P c k Q) b7
   | .ops pre l=>D8 P c pre l (fN P c k Q .normal)
   | .iF pre l=>GT P c pre l (fN P c k Q .normal)
   | .bu _=>fN P c k Q .normal
  | .exit id=>match it with
   | .bu i=>if id=i then fN P c k Q .normal else fN P c k Q (.exit id)
   |_=>fN P c k Q (.exit id)
  |e=>fN P c k Q e
def pw(P:Program)(c:aY)(k:List iO)(Q:Exit->ah->Prop)(pf:ah):Prop:=fN P c k Q .normal pf
section
variable {P:Program}{c:aY}{K K2:ah->Prop}
variable{d:Option Tmp}{o:Oper}{pf:ah}
def zy9(hk:∀pf,K pf->K2 pf){d:Nat}{x:Option (PF×ah)}(h:KA K d x):KA K2 d x:=by
 cases x with
 |none=>exact h
 |some x=>exact hk _ h
def fE(hk:∀pf,K pf->K2 pf){y:PF}(h:dI c K d y pf):dI c K2 d y pf:=by
 cases d with
 |none=>exact hk _ h
 |some d=>
  refine⟨h.1,?_⟩;have h2:=h.2;split at h2
  ·rename_i hh;rw[aD hh];exact zy9 hk h2
  ·rename_i hh;rw[aB hh];exact hk _ h2
def Yf(hk:∀pf,K pf->K2 pf){x:Option AD}(h:Gn c K d pf x):Gn c K2 d pf x:=by
 cases x with
 |none=>exact h
 |some x=>exact fE hk h
def Ji(hk:∀pf,K pf->K2 pf)(h:lU P c o K pf):lU P c o K2 pf:=by
 unfold lU at h⊢;split at h
 ·split at h
  ·exact fE hk h
  ·exact h
 ·exact h
def zrn(hk:∀pf,K pf->K2 pf){r:PV}{x:Option ah}(h:Lr c d K r x):Lr c d K2 r x:=by
 cases x with
 |none=>exact h
 |some x=>exact fE hk h
def WH(hk:∀pf,K pf->K2 pf){f:Operand}{args:List Operand}{ts:List TypeId}{ms:List Md}(h:HZ P c f args ts d K pf ms):HZ P c f args ts d K2 pf ms:=by
 refine⟨h.1,?_⟩;have h2:=h.2;unfold UB at h2⊢;split at h2
 ·unfold Aj at h2⊢;split at h2
  ·exact h2.mono λr outs hh=>⟨hh.1,zrn hk hh.2⟩
  ·exact h2
 ·exact h2
def zug(hk:∀pf,K pf->K2 pf){f:Operand}{l:List (Md×Nat×Operand)}{x:Nat×FuncId×List PV}{y:Option (List PV×ah)}(h:IQ P c f d K l x y):IQ P c f d K2 l x y:=by
 unfold IQ at h⊢;split at h
 ·refine⟨h.1,?_⟩;have h2:=h.2;unfold Aj at h2⊢;split at h2
  ·exact h2.mono λr outs hh=>⟨hh.1,zrn hk hh.2⟩
  ·exact h2
 ·exact h
def zwv(hk:∀pf,K pf->K2 pf){op:BinOp}{t:TypeId}{x:Operand}(h:Dq P c op t x d K pf):Dq P c op t x d K2 pf:=by
 unfold Dq at h⊢;split at h
 ·exact⟨h.1,λb hb=>fE hk (h.2 b hb)⟩
 ·exact h
def zvH(hk:∀pf,K pf->K2 pf){s t:TypeId}{x:Operand}(h:y7 P c s t x d K pf):y7 P c s t x d K2 pf:=by
 unfold y7 at h⊢;split at h
 ·exact⟨h.1,fE hk h.2⟩
 ·exact h
def Mp(hk:∀pf,K pf->K2 pf)(h:oe P c o K pf):oe P c o K2 pf:=by
 unfold oe at h⊢;split at h
 ·unfold Fy at h⊢;split at h
  ·unfold Fp at h⊢;split at h
   ·exact fE hk h
   ·exact h
  ·split at h
   ·exact fE hk h
   ·exact h
 ·unfold FU at h⊢;split at h
  ·refine⟨h.1,h.2.1,?_⟩;have h3:=h.2.2;unfold Hc at h3⊢;split at h3
   ·split at h3
    ·exact hk _ h3
    ·exact h3
   ·exact h3
  ·exact h
 ·exact Yf hk h
 ·unfold Hg at h⊢;split at h
  ·exact fE hk h
  ·split at h
   ·exact fE hk h
   ·exact h
 ·exact Yf hk h
 ·unfold Fr at h⊢;split at h
  ·refine⟨h.1,?_⟩;have h3:=h.2;split at h3
   ·rename_i hh;rw[aD hh];exact hk _ h3
   ·rename_i hh;rw[aB hh];exact hk _ h3
  ·exact h
 ·unfold F3 at h⊢;split at h
  ·refine⟨h.1,h.2.1,h.2.2.1,?_⟩;have h3:=h.2.2.2;split at h3
   ·rename_i hh;rw[aD hh];split at h3
    ·rename_i hh;rw[aD hh];exact hk _ h3
    ·rename_i hh;rw[aB hh];exact hk _ h3
   ·rename_i hh;rw[aB hh];exact hk _ h3
  ·exact h
 ·unfold Hb at h⊢;split at h
  ·rename_i hm;rw[aD hm];unfold Jj at h⊢;split at h
   ·exact fE hk h
   ·exact h
  rename_i hm;rw[aB hm];split at h
  ·refine⟨h.1,?_⟩;have h3:=h.2;unfold Px at h3⊢;split at h3
   ·exact⟨h3.1,hk _ h3.2⟩
   ·exact h3
  ·exact h
 ·unfold Gr at h⊢;split at h
  ·unfold QQ at h⊢;split at h
   ·exact fE hk h
   ·exact h
  ·exact h
 ·unfold EH PA at h⊢;split at h
  ·split at h
   ·exact fE hk h
   ·exact h
  ·split at h
   ·exact fE hk h
   ·exact h
  ·exact h
 ·unfold G9 at h⊢;split at h
  ·unfold OM at h⊢;split at h
   ·exact⟨h.1,fE hk h.2⟩
   ·exact h
  ·exact h
 ·unfold GE at h⊢;split at h
  ·rename_i hb;rw[aD hb];split at h
   ·exact fE hk h
   ·exact h
  ·rename_i hb;rw[aB hb];split at h
   ·exact fE hk h
   ·exact h
 ·unfold tu at h⊢;split at h
  ·unfold tS at h⊢;split at h
   ·refine⟨h.1,?_⟩;have h3:=h.2;split at h3
    ·rename_i hh;rw[aD hh];exact fE hk h3
    ·rename_i hh;rw[aB hh];exact fE hk h3
   ·exact⟨h.1,fE hk h.2⟩
   ·exact fE hk h
   ·exact h
   ·exact h
   ·split at h
    ·rename_i hh;rw[aD hh];split at h
     ·exact fE hk h
     ·exact h
    ·rename_i hh;rw[aB hh];exact fE hk h
   ·exact fE hk h
  ·split at h
   ·exact fE hk h
   ·exact h
 ·unfold Gj at h⊢;split at h
  ·exact fE hk h
  ·split at h
   ·exact fE hk h
   ·exact h
 ·unfold G1 at h⊢;split at h
  ·refine⟨h.1,?_⟩;have h2:=h.2;unfold JV at h2⊢;split at h2
   ·refine⟨h2.1,?_⟩;have h3:=h2.2;split at h3
    ·rename_i hh;rw[aD hh];exact fE hk h3
    ·rename_i hh;rw[aB hh];exact fE hk h3
   ·exact h2
  ·exact h
 ·split at h
  ·rename_i hh;rw[aD hh];exact Ji hk h
  ·rename_i hh;rw[aB hh];unfold G8 at h⊢;split at h
   ·unfold Gl at h⊢;split at h
    ·split at h
     ·exact fE hk h
     ·exact h
    ·split at h
     ·exact⟨h.1,h.2.1,fE hk h.2.2⟩
     ·exact h
    ·exact h
   ·exact h
 ·unfold SO at h⊢;split at h
  ·split at h
   ·rename_i hh;rw[aD hh];exact Ji hk h
   ·rename_i hh;rw[aB hh];unfold Cm at h⊢;split at h
    ·split at h
     ·exact λhl=>fE hk (h hl)
     ·exact h
    ·exact h
  ·exact h
 ·unfold Rw at h⊢;split at h
  ·split at h
   ·rename_i yo;rw[aD yo];unfold GF at h⊢;split at h
    ·unfold NJ at h⊢;split at h
     ·split at h
      ·unfold N2 at h⊢;split at h
       ·exact⟨h.1,h.2.1,fE hk h.2.2⟩
       ·exact h
      ·exact h
     ·exact h
    ·exact h
   ·rename_i yo;rw[aB yo];unfold K7 at h⊢;split at h
    ·refine⟨h.1,?_⟩;have h:=h.2;unfold SM at h⊢;split at h
     ·split at h
      ·exact⟨h.1,fE hk h.2⟩
      ·exact h
     ·exact h
    ·exact h
  ·exact h
 ·unfold NG at h⊢;split at h
  ·refine⟨h.1,?_⟩;have h:=h.2;unfold Rs at h⊢;split at h
   ·exact⟨h.1,hk _ h.2⟩
   ·exact h
  ·exact h
 ·rcases h with⟨ms,h⟩|⟨g,x,t,n,z,a1,a2,a3,a4,a5,a6,h⟩|⟨ms,x,a1,a2,h⟩
  ·exact .inl ⟨ms,WH hk h⟩
  ·exact .inr (.inl ⟨g,x,t,n,z,a1,a2,a3,a4,a5,a6,fE hk h⟩)
  ·exact .inr (.inr ⟨ms,x,a1,a2,zug hk h⟩)
 all_goals first
  |exact Ji hk h
  | (split at h
     ·rename_i hh;rw[aD hh];exact⟨h.1,zwv hk h.2⟩
     ·rename_i hh;rw[aB hh];exact Ji hk h)
  | (split at h
     ·rename_i hh;rw[aD hh];exact⟨h.1,zvH hk h.2⟩
     ·rename_i hh;rw[aB hh];exact Ji hk h)
  |exact h
def zws(hk:∀pf,K pf->K2 pf)(h:xt c d K pf):xt c d K2 pf:=by
 cases d with
 |none=>exact hk _ h
 |some d=>exact⟨h.1,hk _ h.2⟩
def WO(hk:∀pf,K pf->K2 pf){b:Bool}{r r2:Prop}(hr:r->r2){y:Option (Option Bool)}(h:me c b d r K pf y):me c b d r2 K2 pf y:=by
 unfold me at h⊢;split at h
 ·split at h
  ·rename_i hh;rw[aD hh];exact hr h
  ·rename_i hh;rw[aB hh];exact zws hk h
 ·exact h
def zw9{pre:List (Option Tmp)}:∀{l:List Oper}{K K2:ah->Prop}(_:∀pf,K pf->K2 pf) {pf:ah},D8 P c pre l K pf->D8 P c pre l K2 pf:=by
 intro l;induction l with
 |nil=>intro K K2 hk pf h;exact hk _ h
 |cons o l ih=>
  intro K K2 hk pf h;simp only[D8,A3]at h⊢;split at h
  ·exact Mp (λ_ hh=>ih hk hh) h
  ·exact WO (λ_ hh=>ih hk hh) (Mp λ_ hh=>ih hk hh) h
def XM(hk:∀pf,K pf->K2 pf){ext:Bool}(h:sQ P c ext o K pf):sQ P c ext o K2 pf:=by
 unfold sQ at h⊢;split at h
 ·split at h
  ·rename_i hx;rw[aD hx];exact WH hk h
  ·rename_i hx;rw[aB hx];exact Mp hk h
 ·exact⟨h.1,Mp hk h.2⟩
def zww{pre:List (Option Tmp)}:∀{l:List (DE×Oper)}{K K2:ah->Prop}(_:∀pf,K pf->K2 pf) {pf:ah},GT P c pre l K pf->GT P c pre l K2 pf:=by
 intro l;induction l with
 |nil=>intro K K2 hk pf h;exact hk _ h
 |cons x l ih=>
  obtain⟨e,o⟩:=x;intro K K2 hk pf h;refine⟨h.1,?_⟩;have h2:=h.2;unfold Ip at h2⊢;split at h2
  ·exact XM (λ_ hh=>ih hk hh) h2
  ·exact WO (λ_ hh=>ih hk hh) (XM λ_ hh=>ih hk hh) h2
def TA:∀(x:Code) {Q Q2:Exit->ah->Prop},(∀e pf,Q e pf->Q2 e pf)->∀{pf},gJ P c x Q pf->gJ P c x Q2 pf:=by
 intro x;induction x with
 |skip=>intro Q Q2 hq pf h;exact hq _ _ h
 |region id ops BJ=>
  intro Q Q2 hq pf h;simp only[gJ]at h⊢;split at h
  ·rename_i hd;rw[aD hd];obtain⟨a,n,h⟩:=h;exact⟨a,n,TL (λ_=>zww (hq .normal)) h⟩
  ·rename_i hd;rw[aB hd];exact zw9 (hq .normal) h
 |seq x y uu uC=>
  intro Q Q2 hq pf h;refine uu (λe pf h=>?_) h;cases e<;>try exact hq _ _ h
  obtain⟨b7,hw,h⟩:=h;exact⟨b7,hw,uC hq h⟩
 |cond b x y uu uC=>
  intro Q Q2 hq pf h;obtain⟨b7,hw,h⟩:=h;refine⟨b7,hw,?_⟩;unfold Vc at h⊢;split at h
  ·split at h
   ·rename_i e;rw[aD e];exact uu hq h
   ·rename_i e;rw[aB e];exact uC hq h
  ·exact h
 |block id b ih=>
  intro Q Q2 hq pf h;refine ih (λe pf h=>?_) h;cases e<;>try exact hq _ _ h
  simp only[JW]at h⊢;split at h
  ·rename_i e;rw[aD e];exact hq _ _ h
  ·rename_i e;rw[aB e];exact hq _ _ h
 |loop b ih=>
  intro Q Q2 hq pf h;obtain⟨n,hn⟩:=h;refine⟨n,?_⟩;induction n generalizing pf with
  |zero=>exact hn
  |succ n Db=>
   obtain⟨b7,hw,hn⟩:=hn;refine⟨b7,hw,ih (λe pf h=>?_) hn⟩;cases e<;>first|exact Db h|exact hq _ _ h
 |exit id=>intro Q Q2 hq pf h;exact hq _ _ h
 |ret=>intro Q Q2 hq pf h;exact hq _ _ h
 |_=>intros;rename_i h;exact absurd h (by simp[gJ])
end
section
variable {P:Program}{c:aY}{k:List iO}{Q:Exit->ah->Prop}{pf:ah}
variable{b:Operand}{id n:Nat}{x y:Code}
def zzl{pf':ah}(h:pf=pf'):pw P c k Q pf=pw P c k Q pf':=by rw[h]
@[go_sem ↓] theorem zSg:pw P c [] Q pf=Q .normal pf:=rfl
@[go_sem ↓] theorem zRN{i:Nat}:pw P c (.bu i::k) Q pf=pw P c k Q pf:=rfl
@[go_sem ↓] theorem zPh:pw P c (.code .skip::k) Q pf=pw P c k Q pf:=rfl
@[go_sem ↓] def Q1 :pw P c (.code (.seq x y)::k) Q pf=pw P c (.code x::.wk y::k) Q pf:=by
 show gJ P c x (Wz (λpf=>∃b7,oN b7 pf/\gJ P c y (fN P c k Q) b7) (fN P c k Q)) pf=gJ P c x (fN P c (.wk y::k) Q) pf;congr 1;funext e;cases e<;>rfl
@[go_sem ↓] def a3Q{b:Code}:pw P c (.code (.block id b)::k) Q pf=pw P c (.code b::.bu id::k) Q pf:=by
 show gJ P c b (JW id (fN P c k Q)) pf=gJ P c b (fN P c (.bu id::k) Q) pf;congr 1;funext e;cases e<;>try rfl
 funext pf;simp only[JW,fN];split<;>rfl
def UW:fN P c k Q .ret=Q .ret:=by
 induction k with
 |nil=>rfl
 |cons it k ih=>exact ih
@[go_sem ↓] def zR3:pw P c (.code .ret::k) Q pf=Q .ret pf:=by
 show fN P c k Q .ret pf=_;rw[UW]
def pwx(P:Program)(c:aY)(id:Nat)(k:List iO)(Q:Exit->ah->Prop)(pf:ah):Prop:=fN P c k Q (.exit id) pf
@[go_sem ↓] theorem zP9 :pw P c (.code (.exit id)::k) Q pf=pwx P c id k Q pf:=rfl
@[go_sem ↓] theorem zOa :pwx P c id [] Q pf=Q (.exit id) pf:=rfl
@[go_sem ↓] theorem zNE :pwx P c id (.code x::k) Q pf=pwx P c id k Q pf:=rfl
@[go_sem ↓] theorem zSy :pwx P c id (.wk x::k) Q pf=pwx P c id k Q pf:=rfl
@[go_sem ↓] theorem zOK{pre:List (Option Tmp)}{l:List Oper}:pwx P c id (.ops pre l::k) Q pf=pwx P c id k Q pf:=rfl
@[go_sem ↓] theorem zLY{pre:List (Option Tmp)}{l:List (DE×Oper)}:pwx P c id (.iF pre l::k) Q pf=pwx P c id k Q pf:=rfl
@[go_sem ↓] def zOn{i:Nat}:pwx P c id (.bu i::k) Q pf=if id=i then pw P c k Q pf else pwx P c id k Q pf:=by
 show(fN P c (.bu i::k) Q (.exit id)) pf=_;simp only[fN];split<;>rfl
def ah.eU:List (Nat×PF)->ah
 |[],_=>jP
 |(s,x)::l,t=>if t=s then x else ah.eU l t
def ii:List (Nat×PF)->ah->Prop
 |[],_=>True
 |(s,x)::l,pf=>pf s=x/\ii l pf
@[go_sem] theorem zHb{pf:ah}:ii [] pf=True:=rfl
@[go_sem] theorem zD2{s:Nat}{x:PF}{l:List (Nat×PF)}{pf:ah}:ii ((s,x)::l) pf=(pf s=x/\ii l pf):=rfl
def ztG:∀{l:List (Nat×PF)}{pf:ah},ii l pf->∀t,ah.eU l t=pf t\/ah.eU l t=jP:=by
 intro l;induction l with
 |nil=>intro pf _ t;exact .inr rfl
 |cons p l ih=>
  intro pf h t;obtain⟨s,x⟩:=p;obtain⟨h1,h2⟩:=h;by_cases e:t=s
  ·subst e;left;simp[ah.eU,h1]
  ·rcases ih h2 t with e2|e2
   ·left;simpa[ah.eU,e]using e2
   ·right;simpa[ah.eU,e]using e2
def Pj{l:List (Nat×PF)}{pf:ah}(h:ii l pf):oN (ah.eU l) pf:=.w (ztG h)
def zp8:oN pf pf:=.w λ_=>.inl rfl
theorem ztI:∀(row:List PV) (j:Nat) (y:PV),j<row.length->ke row j [y]=J (row.set j y)
 |[],_,_,h=>by simp at h
 |c::cs,0,y,_=>by cases cs<;>rfl
 |c::cs,j+1,y,h=>by
  show(ke cs j [y]).map (c:: ·)=J (c::cs.set j y);rw[ztI cs j y (by simpa using h)];rfl
def zzD{b7 pf:ah}(s j:Nat){row:List PV}{y:PV}(hs:pf s=.bl row)(hy:row[j]? =J y)(hj:dB y=aa)(h:oN b7 ((pf.bY s (.bl (row.set j (drop y)))).kill s 1)):oN b7 pf:=by
 have hl:j<row.length:=(cY.1 hy).1;refine .g s [(0,j)] y (by simp) ?_ hj ?_ h
 ·simp[cn,hs,fV,jb,iM,hy]
 ·simp[iC,oV,mT,hs,fV,jM,i9,ztI _ _ _ hl,sB]
def j4(s j:Nat){row:List PV}{y:PV}(hs:pf s=.bl row)(hy:row[j]? =J y)(hj:dB y=aa)(h:pw P c (.wk x::k) Q ((pf.bY s (.bl (row.set j (drop y)))).kill s 1)):pw P c (.wk x::k) Q pf:=
 let⟨b7,h1,h2⟩:=h;⟨b7,zzD s j hs hy hj h1,h2⟩
def bh(h:pw P c (.code x::k) Q pf):pw P c (.wk x::k) Q pf:=⟨pf,zp8,h⟩
def Is(l:List (Nat×PF))(ha:ii l pf)(h:pw P c (.code x::k) Q (ah.eU l)):pw P c (.wk x::k) Q pf:=⟨ah.eU l,Pj ha,h⟩
def Vp{v:Bool}(hb:cu pf b=J (.bool v))(ht:v=Z->pw P c (.code x::k) Q pf)(he:v=aa->pw P c (.code y::k) Q pf):
 pw P c (.code (.cond b x y)::k) Q pf:=by
 refine⟨pf,zp8,?_⟩;rw[hb];cases v
 ·exact he rfl
 ·exact ht rfl
def MF(hb:cu pf b=J (.bool Z))(ht:pw P c (.code x::k) Q pf):pw P c (.code (.cond b x y)::k) Q pf:=Vp hb (λ_=>ht) (λh=>by cases h)
def Vy(hb:cu pf b=J (.bool aa))(ht:pw P c (.code y::k) Q pf):pw P c (.code (.cond b x y)::k) Q pf:=Vp hb (λh=>by cases h) (λ_=>ht)
def WZ{σ:Type}(shape:σ->List (Nat×PF))(I:σ->Prop)(o6:σ->Nat)(n:Nat)(pf:ah):Prop:=∃s,ii (shape s) pf/\I s/\o6 s<n
def QI{σ:Type}(P:Program)(c:aY)(shape:σ->List (Nat×PF))(I:σ->Prop)(o6:σ->Nat)(n:Nat)(k:List iO)(Q:Exit->ah->Prop):Exit->ah->Prop
 | .normal,pf=>WZ shape I o6 n pf
 |e,pf=>fN P c k Q e pf
@[go_sem ↓] theorem zB9{σ:Type}{shape:σ->List (Nat×PF)}{I:σ->Prop}{o6:σ->Nat}:QI P c shape I o6 n k Q .normal pf=WZ shape I o6 n pf:=rfl
@[go_sem ↓] theorem zEd{σ:Type}{shape:σ->List (Nat×PF)}{I:σ->Prop}{o6:σ->Nat}:QI P c shape I o6 n k Q (.exit id) pf=pwx P c id k Q pf:=rfl
@[go_sem ↓] def zE3{σ:Type}{shape:σ->List (Nat×PF)}{I:σ->Prop}{o6:σ->Nat}:QI P c shape I o6 n k Q .ret pf=Q .ret pf:=by
 show fN P c k Q .ret pf=_;rw[UW]
end
end Go.Pm
