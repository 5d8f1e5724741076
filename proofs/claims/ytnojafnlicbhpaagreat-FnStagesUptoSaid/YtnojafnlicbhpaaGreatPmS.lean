import Derived.Test.YtnojafnlicbhpaaGreatPmR
open Bool renaming false→aa,true→Z
open Option renaming some→J
set_option linter.defProp false
namespace Go.Pm
open Go.Am
inductive iu where
 |code (c:Code)
 |wk (c:Code)
 |ops (pre:List (Option Tmp)) (l:List Oper)
 |iz (pre:List (Option Tmp)) (l:List (DE×Oper))
 |bq (id:Nat)
def fC(P:Program)(c:aY):List iu->(Exit->ah->Prop)->Exit->ah->Prop
 |[],Q,e=>Q e
 |it::k,Q,e=>match e with
  | .normal=>match it with
   | .code x=>gq P c x (fC P c k Q)
   | .wk x=>λpf=>∃bV,oZ bV pf/\gq P c x (fC P c k Q) bV
   | .ops pre l=>Ck P c pre l (fC P c k Q .normal)
   | .iz pre l=>EN P c pre l (fC P c k Q .normal)
   | .bq _=>fC P c k Q .normal
  | .exit id=>match it with
   | .bq i=>if id=i then fC P c k Q .normal else fC P c k Q (.exit id)
   |_=>fC P c k Q (.exit id)
  |e=>fC P c k Q e
def pw(P:Program)(c:aY)(k:List iu)(Q:Exit->ah->Prop)(pf:ah):Prop:=fC P c k Q .normal pf
section
variable {P:Program}{c:aY}{K K2:ah->Prop}
variable{d:Option Tmp}{o:Oper}{pf:ah}
def zzq(hk:∀pf,K pf->K2 pf){d:Nat}{x:Option (PF×ah)}(h:GZ K d x):GZ K2 d x:=by
 cases x with
 |none=>exact h
 |some x=>exact hk _ h
def fq(hk:∀pf,K pf->K2 pf){y:PF}(h:dC c K d y pf):dC c K2 d y pf:=by
 cases d with
 |none=>exact hk _ h
 |some d=>
  refine⟨h.1,?_⟩;have h2:=h.2;split at h2
  ·rename_i hh;rw[aB hh];exact zzq hk h2
  ·rename_i hh;rw[az hh];exact hk _ h2
def Vx(hk:∀pf,K pf->K2 pf){x:Option AD}(h:Dm c K d pf x):Dm c K2 d pf x:=by
 cases x with
 |none=>exact h
 |some x=>exact fq hk h
def Hz(hk:∀pf,K pf->K2 pf)(h:lR P c o K pf):lR P c o K2 pf:=by
 unfold lR at h⊢;split at h
 ·split at h
  ·exact fq hk h
  ·exact h
 ·exact h
def zrj(hk:∀pf,K pf->K2 pf){r:PV}{x:Option ah}(h:GO c d K r x):GO c d K2 r x:=by
 cases x with
 |none=>exact h
 |some x=>exact fq hk h
def Zb(hk:∀pf,K pf->K2 pf){f:Operand}{args:List Operand}{ts:List TypeId}{ms:List Md}(h:IB P c f args ts d K pf ms):IB P c f args ts d K2 pf ms:=by
 refine⟨h.1,?_⟩;have h2:=h.2;unfold Rc at h2⊢;split at h2
 ·unfold zJ at h2⊢;split at h2
  ·exact h2.mono λr outs hh=>⟨hh.1,zrj hk hh.2⟩
  ·exact h2
 ·exact h2
def zuq(hk:∀pf,K pf->K2 pf){f:Operand}{l:List (Md×Nat×Operand)}{x:Nat×FuncId×List PV}{y:Option (List PV×ah)}(h:IL P c f d K l x y):IL P c f d K2 l x y:=by
 unfold IL at h⊢;split at h
 ·refine⟨h.1,?_⟩;have h2:=h.2;unfold zJ at h2⊢;split at h2
  ·exact h2.mono λr outs hh=>⟨hh.1,zrj hk hh.2⟩
  ·exact h2
 ·exact h
def zwW(hk:∀pf,K pf->K2 pf){op:BinOp}{t:TypeId}{x:Operand}(h:BZ P c op t x d K pf):BZ P c op t x d K2 pf:=by
 unfold BZ at h⊢;split at h
 ·exact⟨h.1,λb hb=>fq hk (h.2 b hb)⟩
 ·exact h
def zvJ(hk:∀pf,K pf->K2 pf){s t:TypeId}{x:Operand}(h:xw P c s t x d K pf):xw P c s t x d K2 pf:=by
 unfold xw at h⊢;split at h
 ·exact⟨h.1,fq hk h.2⟩
 ·exact h
def MC(hk:∀pf,K pf->K2 pf)(h:nE P c o K pf):nE P c o K2 pf:=by
 unfold nE at h⊢;split at h
 ·unfold DU at h⊢;split at h
  ·unfold EE at h⊢;split at h
   ·exact fq hk h
   ·exact h
  ·split at h
   ·exact fq hk h
   ·exact h
 ·unfold EK at h⊢;split at h
  ·refine⟨h.1,h.2.1,?_⟩;have h3:=h.2.2;unfold El at h3⊢;split at h3
   ·split at h3
    ·exact hk _ h3
    ·exact h3
   ·exact h3
  ·exact h
 ·exact Vx hk h
 ·unfold Dj at h⊢;split at h
  ·exact fq hk h
  ·split at h
   ·exact fq hk h
   ·exact h
 ·exact Vx hk h
 ·unfold D1 at h⊢;split at h
  ·refine⟨h.1,?_⟩;have h3:=h.2;split at h3
   ·rename_i hh;rw[aB hh];exact hk _ h3
   ·rename_i hh;rw[az hh];exact hk _ h3
  ·exact h
 ·unfold Gl at h⊢;split at h
  ·refine⟨h.1,h.2.1,h.2.2.1,?_⟩;have h3:=h.2.2.2;split at h3
   ·rename_i hh;rw[aB hh];split at h3
    ·rename_i hh;rw[aB hh];exact hk _ h3
    ·rename_i hh;rw[az hh];exact hk _ h3
   ·rename_i hh;rw[az hh];exact hk _ h3
  ·exact h
 ·unfold Ex at h⊢;split at h
  ·rename_i hm;rw[aB hm];unfold HT at h⊢;split at h
   ·exact fq hk h
   ·exact h
  rename_i hm;rw[az hm];split at h
  ·refine⟨h.1,?_⟩;have h3:=h.2;unfold Ot at h3⊢;split at h3
   ·exact⟨h3.1,hk _ h3.2⟩
   ·exact h3
  ·exact h
 ·unfold Fh at h⊢;split at h
  ·unfold Qz at h⊢;split at h
   ·exact fq hk h
   ·exact h
  ·exact h
 ·unfold Fs LK at h⊢;split at h
  ·split at h
   ·exact fq hk h
   ·exact h
  ·split at h
   ·exact fq hk h
   ·exact h
  ·exact h
 ·unfold DH at h⊢;split at h
  ·unfold Mt at h⊢;split at h
   ·exact⟨h.1,fq hk h.2⟩
   ·exact h
  ·exact h
 ·unfold EO at h⊢;split at h
  ·rename_i hb;rw[aB hb];split at h
   ·exact fq hk h
   ·exact h
  ·rename_i hb;rw[az hb];split at h
   ·exact fq hk h
   ·exact h
 ·unfold tw at h⊢;split at h
  ·unfold tE at h⊢;split at h
   ·refine⟨h.1,?_⟩;have h3:=h.2;split at h3
    ·rename_i hh;rw[aB hh];exact fq hk h3
    ·rename_i hh;rw[az hh];exact fq hk h3
   ·exact⟨h.1,fq hk h.2⟩
   ·exact fq hk h
   ·exact h
   ·exact h
   ·split at h
    ·rename_i hh;rw[aB hh];split at h
     ·exact fq hk h
     ·exact h
    ·rename_i hh;rw[az hh];exact fq hk h
   ·exact fq hk h
  ·split at h
   ·exact fq hk h
   ·exact h
 ·unfold Eg at h⊢;split at h
  ·exact fq hk h
  ·split at h
   ·exact fq hk h
   ·exact h
 ·unfold Ek at h⊢;split at h
  ·refine⟨h.1,?_⟩;have h2:=h.2;unfold Jh at h2⊢;split at h2
   ·refine⟨h2.1,?_⟩;have h3:=h2.2;split at h3
    ·rename_i hh;rw[aB hh];exact fq hk h3
    ·rename_i hh;rw[az hh];exact fq hk h3
   ·exact h2
  ·exact h
 ·split at h
  ·rename_i hh;rw[aB hh];exact Hz hk h
  ·rename_i hh;rw[az hh];unfold E6 at h⊢;split at h
   ·unfold D7 at h⊢;split at h
    ·split at h
     ·exact fq hk h
     ·exact h
    ·split at h
     ·exact⟨h.1,h.2.1,fq hk h.2.2⟩
     ·exact h
    ·exact h
   ·exact h
 ·unfold RP at h⊢;split at h
  ·split at h
   ·rename_i hh;rw[aB hh];exact Hz hk h
   ·rename_i hh;rw[az hh];unfold A8 at h⊢;split at h
    ·split at h
     ·exact λhl=>fq hk (h hl)
     ·exact h
    ·exact h
  ·exact h
 ·unfold QW at h⊢;split at h
  ·split at h
   ·rename_i xb;rw[aB xb];unfold DO at h⊢;split at h
    ·unfold Og at h⊢;split at h
     ·split at h
      ·unfold MA at h⊢;split at h
       ·exact⟨h.1,h.2.1,fq hk h.2.2⟩
       ·exact h
      ·exact h
     ·exact h
    ·exact h
   ·rename_i xb;rw[az xb];unfold Jm at h⊢;split at h
    ·refine⟨h.1,?_⟩;have h:=h.2;unfold O5 at h⊢;split at h
     ·split at h
      ·exact⟨h.1,fq hk h.2⟩
      ·exact h
     ·exact h
    ·exact h
  ·exact h
 ·unfold Oj at h⊢;split at h
  ·refine⟨h.1,?_⟩;have h:=h.2;unfold PP at h⊢;split at h
   ·exact⟨h.1,hk _ h.2⟩
   ·exact h
  ·exact h
 ·rcases h with⟨ms,h⟩|⟨g,x,t,n,z,a1,a2,a3,a4,a5,a6,h⟩|⟨ms,x,a1,a2,h⟩
  ·exact .inl ⟨ms,Zb hk h⟩
  ·exact .inr (.inl ⟨g,x,t,n,z,a1,a2,a3,a4,a5,a6,fq hk h⟩)
  ·exact .inr (.inr ⟨ms,x,a1,a2,zuq hk h⟩)
 all_goals first
  |exact Hz hk h
  | (split at h
     ·rename_i hh;rw[aB hh];exact⟨h.1,zwW hk h.2⟩
     ·rename_i hh;rw[az hh];exact Hz hk h)
  | (split at h
     ·rename_i hh;rw[aB hh];exact⟨h.1,zvJ hk h.2⟩
     ·rename_i hh;rw[az hh];exact Hz hk h)
  |exact h
def zws(hk:∀pf,K pf->K2 pf)(h:vv c d K pf):vv c d K2 pf:=by
 cases d with
 |none=>exact hk _ h
 |some d=>exact⟨h.1,hk _ h.2⟩
def zsH(hk:∀pf,K pf->K2 pf){b:Bool}{r r2:Prop}(hr:r->r2){y:Option (Option Bool)}(h:lX c b d r K pf y):lX c b d r2 K2 pf y:=by
 unfold lX at h⊢;split at h
 ·split at h
  ·rename_i hh;rw[aB hh];exact hr h
  ·rename_i hh;rw[az hh];exact zws hk h
 ·exact h
def zyB{pre:List (Option Tmp)}:∀{l:List Oper}{K K2:ah->Prop}(_:∀pf,K pf->K2 pf) {pf:ah},Ck P c pre l K pf->Ck P c pre l K2 pf:=by
 intro l;induction l with
 |nil=>intro K K2 hk pf h;exact hk _ h
 |cons o l ih=>
  intro K K2 hk pf h;simp only[Ck,zj]at h⊢;split at h
  ·exact MC (λ_ hh=>ih hk hh) h
  ·exact zsH (λ_ hh=>ih hk hh) (MC λ_ hh=>ih hk hh) h
def Yk(hk:∀pf,K pf->K2 pf){ext:Bool}(h:rO P c ext o K pf):rO P c ext o K2 pf:=by
 unfold rO at h⊢;split at h
 ·split at h
  ·rename_i hx;rw[aB hx];exact Zb hk h
  ·rename_i hx;rw[az hx];exact MC hk h
 ·exact⟨h.1,MC hk h.2⟩
def zvN{pre:List (Option Tmp)}:∀{l:List (DE×Oper)}{K K2:ah->Prop}(_:∀pf,K pf->K2 pf) {pf:ah},EN P c pre l K pf->EN P c pre l K2 pf:=by
 intro l;induction l with
 |nil=>intro K K2 hk pf h;exact hk _ h
 |cons x l ih=>
  obtain⟨e,o⟩:=x;intro K K2 hk pf h;refine⟨h.1,?_⟩;have h2:=h.2;unfold GS at h2⊢;split at h2
  ·exact Yk (λ_ hh=>ih hk hh) h2
  ·exact zsH (λ_ hh=>ih hk hh) (Yk λ_ hh=>ih hk hh) h2
def Rm:∀(x:Code) {Q Q2:Exit->ah->Prop},(∀e pf,Q e pf->Q2 e pf)->∀{pf},gq P c x Q pf->gq P c x Q2 pf:=by
 intro x;induction x with
 |skip=>intro Q Q2 hq pf h;exact hq _ _ h
 |region id ops zd=>
  intro Q Q2 hq pf h;simp only[gq]at h⊢;split at h
  ·rename_i hd;rw[aB hd];obtain⟨a,n,h⟩:=h;exact⟨a,n,Qv (λ_=>zvN (hq .normal)) h⟩
  ·rename_i hd;rw[az hd];exact zyB (hq .normal) h
 |seq x y tW tA=>
  intro Q Q2 hq pf h;refine tW (λe pf h=>?_) h;cases e<;>try exact hq _ _ h
  obtain⟨bV,hw,h⟩:=h;exact⟨bV,hw,tA hq h⟩
 |cond b x y tW tA=>
  intro Q Q2 hq pf h;obtain⟨bV,hw,h⟩:=h;refine⟨bV,hw,?_⟩;unfold QX at h⊢;split at h
  ·split at h
   ·rename_i e;rw[aB e];exact tW hq h
   ·rename_i e;rw[az e];exact tA hq h
  ·exact h
 |block id b ih=>
  intro Q Q2 hq pf h;refine ih (λe pf h=>?_) h;cases e<;>try exact hq _ _ h
  simp only[HN]at h⊢;split at h
  ·rename_i e;rw[aB e];exact hq _ _ h
  ·rename_i e;rw[az e];exact hq _ _ h
 |loop b ih=>
  intro Q Q2 hq pf h;obtain⟨n,hn⟩:=h;refine⟨n,?_⟩;induction n generalizing pf with
  |zero=>exact hn
  |succ n Cn=>
   obtain⟨bV,hw,hn⟩:=hn;refine⟨bV,hw,ih (λe pf h=>?_) hn⟩;cases e<;>first|exact Cn h|exact hq _ _ h
 |exit id=>intro Q Q2 hq pf h;exact hq _ _ h
 |ret=>intro Q Q2 hq pf h;exact hq _ _ h
 |_=>intros;rename_i h;exact absurd h (by simp[gq])
end
section
variable {P:Program}{c:aY}{k:List iu}{Q:Exit->ah->Prop}{pf:ah}
variable{b:Operand}{id n:Nat}{x y:Code}
def zy4{pf':ah}(h:pf=pf'):pw P c k Q pf=pw P c k Q pf':=by rw[h]
@[go_sem ↓] theorem zS8:pw P c [] Q pf=Q .normal pf:=rfl
@[go_sem ↓] theorem zSf{i:Nat}:pw P c (.bq i::k) Q pf=pw P c k Q pf:=rfl
@[go_sem ↓] theorem zQi:pw P c (.code .skip::k) Q pf=pw P c k Q pf:=rfl
@[go_sem ↓] def QB :pw P c (.code (.seq x y)::k) Q pf=pw P c (.code x::.wk y::k) Q pf:=by
 show gq P c x (Wc (λpf=>∃bV,oZ bV pf/\gq P c y (fC P c k Q) bV) (fC P c k Q)) pf=gq P c x (fC P c (.wk y::k) Q) pf;congr 1;funext e;cases e<;>rfl
@[go_sem ↓] def VG{b:Code}:pw P c (.code (.block id b)::k) Q pf=pw P c (.code b::.bq id::k) Q pf:=by
 show gq P c b (HN id (fC P c k Q)) pf=gq P c b (fC P c (.bq id::k) Q) pf;congr 1;funext e;cases e<;>try rfl
 funext pf;simp only[HN,fC];split<;>rfl
def Sy:fC P c k Q .ret=Q .ret:=by
 induction k with
 |nil=>rfl
 |cons it k ih=>exact ih
@[go_sem ↓] def zSS:pw P c (.code .ret::k) Q pf=Q .ret pf:=by
 show fC P c k Q .ret pf=_;rw[Sy]
def pwx(P:Program)(c:aY)(id:Nat)(k:List iu)(Q:Exit->ah->Prop)(pf:ah):Prop:=fC P c k Q (.exit id) pf
@[go_sem ↓] theorem zQJ :pw P c (.code (.exit id)::k) Q pf=pwx P c id k Q pf:=rfl
@[go_sem ↓] theorem zRq :pwx P c id [] Q pf=Q (.exit id) pf:=rfl
@[go_sem ↓] theorem zN3 :pwx P c id (.code x::k) Q pf=pwx P c id k Q pf:=rfl
@[go_sem ↓] theorem zSD :pwx P c id (.wk x::k) Q pf=pwx P c id k Q pf:=rfl
@[go_sem ↓] theorem zPU{pre:List (Option Tmp)}{l:List Oper}:pwx P c id (.ops pre l::k) Q pf=pwx P c id k Q pf:=rfl
@[go_sem ↓] theorem zMi{pre:List (Option Tmp)}{l:List (DE×Oper)}:pwx P c id (.iz pre l::k) Q pf=pwx P c id k Q pf:=rfl
@[go_sem ↓] def zQM{i:Nat}:pwx P c id (.bq i::k) Q pf=if id=i then pw P c k Q pf else pwx P c id k Q pf:=by
 show(fC P c (.bq i::k) Q (.exit id)) pf=_;simp only[fC];split<;>rfl
def ah.ew:List (Nat×PF)->ah
 |[],_=>jP
 |(s,x)::l,t=>if t=s then x else ah.ew l t
def gz:List (Nat×PF)->ah->Prop
 |[],_=>True
 |(s,x)::l,pf=>pf s=x/\gz l pf
@[go_sem] theorem zGf{pf:ah}:gz [] pf=True:=rfl
@[go_sem] theorem zEn{s:Nat}{x:PF}{l:List (Nat×PF)}{pf:ah}:gz ((s,x)::l) pf=(pf s=x/\gz l pf):=rfl
def ztg:∀{l:List (Nat×PF)}{pf:ah},gz l pf->∀t,ah.ew l t=pf t\/ah.ew l t=jP:=by
 intro l;induction l with
 |nil=>intro pf _ t;exact .inr rfl
 |cons p l ih=>
  intro pf h t;obtain⟨s,x⟩:=p;obtain⟨h1,h2⟩:=h;by_cases e:t=s
  ·subst e;left;simp[ah.ew,h1]
  ·rcases ih h2 t with e2|e2
   ·left;simpa[ah.ew,e]using e2
   ·right;simpa[ah.ew,e]using e2
def MX{l:List (Nat×PF)}{pf:ah}(h:gz l pf):oZ (ah.ew l) pf:=.w (ztg h)
def zp5:oZ pf pf:=.w λ_=>.inl rfl
theorem U4:∀(row:List PV) (j:Nat) (y:PV),j<row.length->jR row j [y]=J (row.set j y)
 |[],_,_,h=>by simp at h
 |c::cs,0,y,_=>by cases cs<;>rfl
 |c::cs,j+1,y,h=>by
  show(jR cs j [y]).map (c:: ·)=J (c::cs.set j y);rw[U4 cs j y (by simpa using h)];rfl
def zzh{bV pf:ah}(s j:Nat){row:List PV}{y:PV}(hs:pf s=.bl row)(hy:row[j]? =J y)(hj:dt y=aa)(h:oZ bV ((pf.bS s (.bl (row.set j (drop y)))).kill s 1)):oZ bV pf:=by
 have hl:j<row.length:=(cT.1 hy).1;refine .g s [(0,j)] y (by simp) ?_ hj ?_ h
 ·simp[cj,hs,fD,iB,iv,hy]
 ·simp[iw,oQ,mz,hs,fD,jx,iL,U4 _ _ _ hl,sw]
def jM(s j:Nat){row:List PV}{y:PV}(hs:pf s=.bl row)(hy:row[j]? =J y)(hj:dt y=aa)(h:pw P c (.wk x::k) Q ((pf.bS s (.bl (row.set j (drop y)))).kill s 1)):pw P c (.wk x::k) Q pf:=
 let⟨bV,h1,h2⟩:=h;⟨bV,zzh s j hs hy hj h1,h2⟩
def bu(h:pw P c (.code x::k) Q pf):pw P c (.wk x::k) Q pf:=⟨pf,zp5,h⟩
def Hh(l:List (Nat×PF))(ha:gz l pf)(h:pw P c (.code x::k) Q (ah.ew l)):pw P c (.wk x::k) Q pf:=⟨ah.ew l,MX ha,h⟩
def TK{v:Bool}(hb:cq pf b=J (.bool v))(ht:v=Z->pw P c (.code x::k) Q pf)(he:v=aa->pw P c (.code y::k) Q pf):
 pw P c (.code (.cond b x y)::k) Q pf:=by
 refine⟨pf,zp5,?_⟩;rw[hb];cases v
 ·exact he rfl
 ·exact ht rfl
def Na(hb:cq pf b=J (.bool Z))(ht:pw P c (.code x::k) Q pf):pw P c (.code (.cond b x y)::k) Q pf:=TK hb (λ_=>ht) (λh=>by cases h)
def RY(hb:cq pf b=J (.bool aa))(ht:pw P c (.code y::k) Q pf):pw P c (.code (.cond b x y)::k) Q pf:=TK hb (λh=>by cases h) (λ_=>ht)
def zyJ{σ:Type}(shape:σ->List (Nat×PF))(I:σ->Prop)(nY:σ->Nat)(n:Nat)(pf:ah):Prop:=∃s,gz (shape s) pf/\I s/\nY s<n
def Pd{σ:Type}(P:Program)(c:aY)(shape:σ->List (Nat×PF))(I:σ->Prop)(nY:σ->Nat)(n:Nat)(k:List iu)(Q:Exit->ah->Prop):Exit->ah->Prop
 | .normal,pf=>zyJ shape I nY n pf
 |e,pf=>fC P c k Q e pf
@[go_sem ↓] theorem zCd{σ:Type}{shape:σ->List (Nat×PF)}{I:σ->Prop}{nY:σ->Nat}:Pd P c shape I nY n k Q .normal pf=zyJ shape I nY n pf:=rfl
@[go_sem ↓] theorem zEp{σ:Type}{shape:σ->List (Nat×PF)}{I:σ->Prop}{nY:σ->Nat}:Pd P c shape I nY n k Q (.exit id) pf=pwx P c id k Q pf:=rfl
@[go_sem ↓] def zFe{σ:Type}{shape:σ->List (Nat×PF)}{I:σ->Prop}{nY:σ->Nat}:Pd P c shape I nY n k Q .ret pf=Q .ret pf:=by
 show fC P c k Q .ret pf=_;rw[Sy]
end
end Go.Pm
