import Derived.Test.YtnojafnlicbhpaaGreatPmR
open Bool renaming false→aa,true→Z
open Option renaming some→J
set_option linter.defProp false
namespace Go.Pm
open Go.Am
inductive iv where
 |code (c:Code)
 |wk (c:Code)
 |ops (pre:List (Option Tmp)) (l:List Oper)
 |ir (pre:List (Option Tmp)) (l:List (DE×Oper))
 |bq (id:Nat)
def fF(P:Program)(c:aY):List iv->(Exit->ah->Prop)->Exit->ah->Prop
 |[],Q,e=>Q e
 |it::k,Q,e=>match e with
  | .normal=>match it with
   | .code x=>gx P c x (fF P c k Q)
   | .wk x=>λpf=>∃bW,nZ bW pf/\gx P c x (fF P c k Q) bW
   | .ops pre l=>C0 P c pre l (fF P c k Q .normal)
   | .ir pre l=>E4 P c pre l (fF P c k Q .normal)
   | .bq _=>fF P c k Q .normal
  | .exit id=>match it with
   | .bq i=>if id=i then fF P c k Q .normal else fF P c k Q (.exit id)
   |_=>fF P c k Q (.exit id)
  |e=>fF P c k Q e
def pw(P:Program)(c:aY)(k:List iv)(Q:Exit->ah->Prop)(pf:ah):Prop:=fF P c k Q .normal pf
section
variable {P:Program}{c:aY}{K K2:ah->Prop}
variable{d:Option Tmp}{o:Oper}{pf:ah}
def zy8(hk:∀pf,K pf->K2 pf){d:Nat}{x:Option (PF×ah)}(h:JS K d x):JS K2 d x:=by
 cases x with
 |none=>exact h
 |some x=>exact hk _ h
def fo(hk:∀pf,K pf->K2 pf){y:PF}(h:dB c K d y pf):dB c K2 d y pf:=by
 cases d with
 |none=>exact hk _ h
 |some d=>
  refine⟨h.1,?_⟩;have h2:=h.2;split at h2
  ·rename_i hh;rw[aB hh];exact zy8 hk h2
  ·rename_i hh;rw[az hh];exact hk _ h2
def Vu(hk:∀pf,K pf->K2 pf){x:Option AD}(h:E7 c K d pf x):E7 c K2 d pf x:=by
 cases x with
 |none=>exact h
 |some x=>exact fo hk h
def Ic(hk:∀pf,K pf->K2 pf)(h:lZ P c o K pf):lZ P c o K2 pf:=by
 unfold lZ at h⊢;split at h
 ·split at h
  ·exact fo hk h
  ·exact h
 ·exact h
def Xo(hk:∀pf,K pf->K2 pf){r:PV}{x:Option ah}(h:HQ c d K r x):HQ c d K2 r x:=by
 cases x with
 |none=>exact h
 |some x=>exact fo hk h
def zoM(hk:∀pf,K pf->K2 pf){f:Operand}{args:List Operand}{ts:List TypeId}{ms:List Md}(h:GJ P c f args ts d K pf ms):GJ P c f args ts d K2 pf ms:=by
 refine⟨h.1,?_⟩;have h2:=h.2;unfold TK at h2⊢;split at h2
 ·unfold Al at h2⊢;split at h2
  ·exact h2.mono λr outs hh=>⟨hh.1,Xo hk hh.2⟩
  ·exact h2
 ·exact h2
def zum(hk:∀pf,K pf->K2 pf){f:Operand}{l:List (Md×Nat×Operand)}{x:Nat×FuncId×List PV}{y:Option (List PV×ah)}(h:G1 P c f d K l x y):G1 P c f d K2 l x y:=by
 unfold G1 at h⊢;split at h
 ·refine⟨h.1,?_⟩;have h2:=h.2;unfold Al at h2⊢;split at h2
  ·exact h2.mono λr outs hh=>⟨hh.1,Xo hk hh.2⟩
  ·exact h2
 ·exact h
def zvQ(hk:∀pf,K pf->K2 pf){op:BinOp}{t:TypeId}{x:Operand}(h:Cb P c op t x d K pf):Cb P c op t x d K2 pf:=by
 unfold Cb at h⊢;split at h
 ·exact⟨h.1,λb hb=>fo hk (h.2 b hb)⟩
 ·exact h
def zwM(hk:∀pf,K pf->K2 pf){s t:TypeId}{x:Operand}(h:xz P c s t x d K pf):xz P c s t x d K2 pf:=by
 unfold xz at h⊢;split at h
 ·exact⟨h.1,fo hk h.2⟩
 ·exact h
def LC(hk:∀pf,K pf->K2 pf)(h:nw P c o K pf):nw P c o K2 pf:=by
 unfold nw at h⊢;split at h
 ·unfold Dy at h⊢;split at h
  ·unfold DC at h⊢;split at h
   ·exact fo hk h
   ·exact h
  ·split at h
   ·exact fo hk h
   ·exact h
 ·unfold E5 at h⊢;split at h
  ·refine⟨h.1,h.2.1,?_⟩;have h3:=h.2.2;unfold Dk at h3⊢;split at h3
   ·split at h3
    ·exact hk _ h3
    ·exact h3
   ·exact h3
  ·exact h
 ·exact Vu hk h
 ·unfold EF at h⊢;split at h
  ·exact fo hk h
  ·split at h
   ·exact fo hk h
   ·exact h
 ·exact Vu hk h
 ·unfold Gd at h⊢;split at h
  ·refine⟨h.1,?_⟩;have h3:=h.2;split at h3
   ·rename_i hh;rw[aB hh];exact hk _ h3
   ·rename_i hh;rw[az hh];exact hk _ h3
  ·exact h
 ·unfold DG at h⊢;split at h
  ·refine⟨h.1,h.2.1,h.2.2.1,?_⟩;have h3:=h.2.2.2;split at h3
   ·rename_i hh;rw[aB hh];split at h3
    ·rename_i hh;rw[aB hh];exact hk _ h3
    ·rename_i hh;rw[az hh];exact hk _ h3
   ·rename_i hh;rw[az hh];exact hk _ h3
  ·exact h
 ·unfold DQ at h⊢;split at h
  ·rename_i hm;rw[aB hm];unfold Iw at h⊢;split at h
   ·exact fo hk h
   ·exact h
  rename_i hm;rw[az hm];split at h
  ·refine⟨h.1,?_⟩;have h3:=h.2;unfold N0 at h3⊢;split at h3
   ·exact⟨h3.1,hk _ h3.2⟩
   ·exact h3
  ·exact h
 ·unfold Gm at h⊢;split at h
  ·unfold SQ at h⊢;split at h
   ·exact fo hk h
   ·exact h
  ·exact h
 ·unfold Gn MZ at h⊢;split at h
  ·split at h
   ·exact fo hk h
   ·exact h
  ·split at h
   ·exact fo hk h
   ·exact h
  ·exact h
 ·unfold Df at h⊢;split at h
  ·unfold NH at h⊢;split at h
   ·exact⟨h.1,fo hk h.2⟩
   ·exact h
  ·exact h
 ·unfold DU at h⊢;split at h
  ·rename_i hb;rw[aB hb];split at h
   ·exact fo hk h
   ·exact h
  ·rename_i hb;rw[az hb];split at h
   ·exact fo hk h
   ·exact h
 ·unfold sU at h⊢;split at h
  ·unfold tv at h⊢;split at h
   ·refine⟨h.1,?_⟩;have h3:=h.2;split at h3
    ·rename_i hh;rw[aB hh];exact fo hk h3
    ·rename_i hh;rw[az hh];exact fo hk h3
   ·exact⟨h.1,fo hk h.2⟩
   ·exact fo hk h
   ·exact h
   ·exact h
   ·split at h
    ·rename_i hh;rw[aB hh];split at h
     ·exact fo hk h
     ·exact h
    ·rename_i hh;rw[az hh];exact fo hk h
   ·exact fo hk h
  ·split at h
   ·exact fo hk h
   ·exact h
 ·unfold Ga at h⊢;split at h
  ·exact fo hk h
  ·split at h
   ·exact fo hk h
   ·exact h
 ·unfold EX at h⊢;split at h
  ·refine⟨h.1,?_⟩;have h2:=h.2;unfold Jn at h2⊢;split at h2
   ·refine⟨h2.1,?_⟩;have h3:=h2.2;split at h3
    ·rename_i hh;rw[aB hh];exact fo hk h3
    ·rename_i hh;rw[az hh];exact fo hk h3
   ·exact h2
  ·exact h
 ·split at h
  ·rename_i hh;rw[aB hh];exact Ic hk h
  ·rename_i hh;rw[az hh];unfold FW at h⊢;split at h
   ·unfold EU at h⊢;split at h
    ·split at h
     ·exact fo hk h
     ·exact h
    ·split at h
     ·exact⟨h.1,h.2.1,fo hk h.2.2⟩
     ·exact h
    ·exact h
   ·exact h
 ·unfold TT at h⊢;split at h
  ·split at h
   ·rename_i hh;rw[aB hh];exact Ic hk h
   ·rename_i hh;rw[az hh];unfold BZ at h⊢;split at h
    ·split at h
     ·exact λhl=>fo hk (h hl)
     ·exact h
    ·exact h
  ·exact h
 ·unfold TF at h⊢;split at h
  ·split at h
   ·rename_i xZ;rw[aB xZ];unfold FK at h⊢;split at h
    ·unfold KV at h⊢;split at h
     ·split at h
      ·unfold Nb at h⊢;split at h
       ·exact⟨h.1,h.2.1,fo hk h.2.2⟩
       ·exact h
      ·exact h
     ·exact h
    ·exact h
   ·rename_i xZ;rw[az xZ];unfold Hb at h⊢;split at h
    ·refine⟨h.1,?_⟩;have h:=h.2;unfold T2 at h⊢;split at h
     ·split at h
      ·exact⟨h.1,fo hk h.2⟩
      ·exact h
     ·exact h
    ·exact h
  ·exact h
 ·unfold M4 at h⊢;split at h
  ·refine⟨h.1,?_⟩;have h:=h.2;unfold PN at h⊢;split at h
   ·exact⟨h.1,hk _ h.2⟩
   ·exact h
  ·exact h
 ·rcases h with⟨ms,h⟩|⟨g,x,t,n,z,a1,a2,a3,a4,a5,a6,h⟩|⟨ms,x,a1,a2,h⟩
  ·exact .inl ⟨ms,zoM hk h⟩
  ·exact .inr (.inl ⟨g,x,t,n,z,a1,a2,a3,a4,a5,a6,fo hk h⟩)
  ·exact .inr (.inr ⟨ms,x,a1,a2,zum hk h⟩)
 all_goals first
  |exact Ic hk h
  | (split at h
     ·rename_i hh;rw[aB hh];exact⟨h.1,zvQ hk h.2⟩
     ·rename_i hh;rw[az hh];exact Ic hk h)
  | (split at h
     ·rename_i hh;rw[aB hh];exact⟨h.1,zwM hk h.2⟩
     ·rename_i hh;rw[az hh];exact Ic hk h)
  |exact h
def zwu(hk:∀pf,K pf->K2 pf)(h:uk c d K pf):uk c d K2 pf:=by
 cases d with
 |none=>exact hk _ h
 |some d=>exact⟨h.1,hk _ h.2⟩
def Xy(hk:∀pf,K pf->K2 pf){b:Bool}{r r2:Prop}(hr:r->r2){y:Option (Option Bool)}(h:k9 c b d r K pf y):k9 c b d r2 K2 pf y:=by
 unfold k9 at h⊢;split at h
 ·split at h
  ·rename_i hh;rw[aB hh];exact hr h
  ·rename_i hh;rw[az hh];exact zwu hk h
 ·exact h
def zyw{pre:List (Option Tmp)}:∀{l:List Oper}{K K2:ah->Prop}(_:∀pf,K pf->K2 pf) {pf:ah},C0 P c pre l K pf->C0 P c pre l K2 pf:=by
 intro l;induction l with
 |nil=>intro K K2 hk pf h;exact hk _ h
 |cons o l ih=>
  intro K K2 hk pf h;simp only[C0,yT]at h⊢;split at h
  ·exact LC (λ_ hh=>ih hk hh) h
  ·exact Xy (λ_ hh=>ih hk hh) (LC λ_ hh=>ih hk hh) h
def zrp(hk:∀pf,K pf->K2 pf){ext:Bool}(h:sf P c ext o K pf):sf P c ext o K2 pf:=by
 unfold sf at h⊢;split at h
 ·split at h
  ·rename_i hx;rw[aB hx];exact zoM hk h
  ·rename_i hx;rw[az hx];exact LC hk h
 ·exact⟨h.1,LC hk h.2⟩
def zvL{pre:List (Option Tmp)}:∀{l:List (DE×Oper)}{K K2:ah->Prop}(_:∀pf,K pf->K2 pf) {pf:ah},E4 P c pre l K pf->E4 P c pre l K2 pf:=by
 intro l;induction l with
 |nil=>intro K K2 hk pf h;exact hk _ h
 |cons x l ih=>
  obtain⟨e,o⟩:=x;intro K K2 hk pf h;refine⟨h.1,?_⟩;have h2:=h.2;unfold IH at h2⊢;split at h2
  ·exact zrp (λ_ hh=>ih hk hh) h2
  ·exact Xy (λ_ hh=>ih hk hh) (zrp λ_ hh=>ih hk hh) h2
def Sv:∀(x:Code) {Q Q2:Exit->ah->Prop},(∀e pf,Q e pf->Q2 e pf)->∀{pf},gx P c x Q pf->gx P c x Q2 pf:=by
 intro x;induction x with
 |skip=>intro Q Q2 hq pf h;exact hq _ _ h
 |region id ops yG=>
  intro Q Q2 hq pf h;simp only[gx]at h⊢;split at h
  ·rename_i hd;rw[aB hd];obtain⟨a,n,h⟩:=h;exact⟨a,n,R6 (λ_=>zvL (hq .normal)) h⟩
  ·rename_i hd;rw[az hd];exact zyw (hq .normal) h
 |seq x y tw tB=>
  intro Q Q2 hq pf h;refine tw (λe pf h=>?_) h;cases e<;>try exact hq _ _ h
  obtain⟨bW,hw,h⟩:=h;exact⟨bW,hw,tB hq h⟩
 |cond b x y tw tB=>
  intro Q Q2 hq pf h;obtain⟨bW,hw,h⟩:=h;refine⟨bW,hw,?_⟩;unfold Ts at h⊢;split at h
  ·split at h
   ·rename_i e;rw[aB e];exact tw hq h
   ·rename_i e;rw[az e];exact tB hq h
  ·exact h
 |block id b ih=>
  intro Q Q2 hq pf h;refine ih (λe pf h=>?_) h;cases e<;>try exact hq _ _ h
  simp only[GZ]at h⊢;split at h
  ·rename_i e;rw[aB e];exact hq _ _ h
  ·rename_i e;rw[az e];exact hq _ _ h
 |loop b ih=>
  intro Q Q2 hq pf h;obtain⟨n,hn⟩:=h;refine⟨n,?_⟩;induction n generalizing pf with
  |zero=>exact hn
  |succ n CW=>
   obtain⟨bW,hw,hn⟩:=hn;refine⟨bW,hw,ih (λe pf h=>?_) hn⟩;cases e<;>first|exact CW h|exact hq _ _ h
 |exit id=>intro Q Q2 hq pf h;exact hq _ _ h
 |ret=>intro Q Q2 hq pf h;exact hq _ _ h
 |_=>intros;rename_i h;exact absurd h (by simp[gx])
end
section
variable {P:Program}{c:aY}{k:List iv}{Q:Exit->ah->Prop}{pf:ah}
variable{b:Operand}{id n:Nat}{x y:Code}
def zzs{pf':ah}(h:pf=pf'):pw P c k Q pf=pw P c k Q pf':=by rw[h]
@[go_sem ↓] theorem zRw:pw P c [] Q pf=Q .normal pf:=rfl
@[go_sem ↓] theorem zRP{i:Nat}:pw P c (.bq i::k) Q pf=pw P c k Q pf:=rfl
@[go_sem ↓] theorem zOC:pw P c (.code .skip::k) Q pf=pw P c k Q pf:=rfl
@[go_sem ↓] def PM :pw P c (.code (.seq x y)::k) Q pf=pw P c (.code x::.wk y::k) Q pf:=by
 show gx P c x (Xp (λpf=>∃bW,nZ bW pf/\gx P c y (fF P c k Q) bW) (fF P c k Q)) pf=gx P c x (fF P c (.wk y::k) Q) pf;congr 1;funext e;cases e<;>rfl
@[go_sem ↓] def Zj{b:Code}:pw P c (.code (.block id b)::k) Q pf=pw P c (.code b::.bq id::k) Q pf:=by
 show gx P c b (GZ id (fF P c k Q)) pf=gx P c b (fF P c (.bq id::k) Q) pf;congr 1;funext e;cases e<;>try rfl
 funext pf;simp only[GZ,fF];split<;>rfl
def TJ:fF P c k Q .ret=Q .ret:=by
 induction k with
 |nil=>rfl
 |cons it k ih=>exact ih
@[go_sem ↓] def zRL:pw P c (.code .ret::k) Q pf=Q .ret pf:=by
 show fF P c k Q .ret pf=_;rw[TJ]
def pwx(P:Program)(c:aY)(id:Nat)(k:List iv)(Q:Exit->ah->Prop)(pf:ah):Prop:=fF P c k Q (.exit id) pf
@[go_sem ↓] theorem zQL :pw P c (.code (.exit id)::k) Q pf=pwx P c id k Q pf:=rfl
@[go_sem ↓] theorem zQ0 :pwx P c id [] Q pf=Q (.exit id) pf:=rfl
@[go_sem ↓] theorem zM8 :pwx P c id (.code x::k) Q pf=pwx P c id k Q pf:=rfl
@[go_sem ↓] theorem zSU :pwx P c id (.wk x::k) Q pf=pwx P c id k Q pf:=rfl
@[go_sem ↓] theorem zPN{pre:List (Option Tmp)}{l:List Oper}:pwx P c id (.ops pre l::k) Q pf=pwx P c id k Q pf:=rfl
@[go_sem ↓] theorem zL6{pre:List (Option Tmp)}{l:List (DE×Oper)}:pwx P c id (.ir pre l::k) Q pf=pwx P c id k Q pf:=rfl
@[go_sem ↓] def zOx{i:Nat}:pwx P c id (.bq i::k) Q pf=if id=i then pw P c k Q pf else pwx P c id k Q pf:=by
 show(fF P c (.bq i::k) Q (.exit id)) pf=_;simp only[fF];split<;>rfl
def ah.eu:List (Nat×PF)->ah
 |[],_=>jP
 |(s,x)::l,t=>if t=s then x else ah.eu l t
def gu:List (Nat×PF)->ah->Prop
 |[],_=>True
 |(s,x)::l,pf=>pf s=x/\gu l pf
@[go_sem] theorem zH8{pf:ah}:gu [] pf=True:=rfl
@[go_sem] theorem zD0{s:Nat}{x:PF}{l:List (Nat×PF)}{pf:ah}:gu ((s,x)::l) pf=(pf s=x/\gu l pf):=rfl
def zts:∀{l:List (Nat×PF)}{pf:ah},gu l pf->∀t,ah.eu l t=pf t\/ah.eu l t=jP:=by
 intro l;induction l with
 |nil=>intro pf _ t;exact .inr rfl
 |cons p l ih=>
  intro pf h t;obtain⟨s,x⟩:=p;obtain⟨h1,h2⟩:=h;by_cases e:t=s
  ·subst e;left;simp[ah.eu,h1]
  ·rcases ih h2 t with e2|e2
   ·left;simpa[ah.eu,e]using e2
   ·right;simpa[ah.eu,e]using e2
def MC{l:List (Nat×PF)}{pf:ah}(h:gu l pf):nZ (ah.eu l) pf:=.w (zts h)
def Xq:nZ pf pf:=.w λ_=>.inl rfl
theorem WB:∀(row:List PV) (j:Nat) (y:PV),j<row.length->jL row j [y]=J (row.set j y)
 |[],_,_,h=>by simp at h
 |c::cs,0,y,_=>by cases cs<;>rfl
 |c::cs,j+1,y,h=>by
  show(jL cs j [y]).map (c:: ·)=J (c::cs.set j y);rw[WB cs j y (by simpa using h)];rfl
def zy6{bW pf:ah}(s j:Nat){row:List PV}{y:PV}(hs:pf s=.bl row)(hy:row[j]? =J y)(hj:dv y=aa)(h:nZ bW ((pf.bU s (.bl (row.set j (drop y)))).kill s 1)):nZ bW pf:=by
 have hl:j<row.length:=(cT.1 hy).1;refine .g s [(0,j)] y (by simp) ?_ hj ?_ h
 ·simp[ce,hs,fB,iM,iq,hy]
 ·simp[iz,oL,mz,hs,fB,jz,iD,WB _ _ _ hl,rI]
def jK(s j:Nat){row:List PV}{y:PV}(hs:pf s=.bl row)(hy:row[j]? =J y)(hj:dv y=aa)(h:pw P c (.wk x::k) Q ((pf.bU s (.bl (row.set j (drop y)))).kill s 1)):pw P c (.wk x::k) Q pf:=
 let⟨bW,h1,h2⟩:=h;⟨bW,zy6 s j hs hy hj h1,h2⟩
def bu(h:pw P c (.code x::k) Q pf):pw P c (.wk x::k) Q pf:=⟨pf,Xq,h⟩
def GG(l:List (Nat×PF))(ha:gu l pf)(h:pw P c (.code x::k) Q (ah.eu l)):pw P c (.wk x::k) Q pf:=⟨ah.eu l,MC ha,h⟩
def TL{v:Bool}(hb:cu pf b=J (.bool v))(ht:v=Z->pw P c (.code x::k) Q pf)(he:v=aa->pw P c (.code y::k) Q pf):
 pw P c (.code (.cond b x y)::k) Q pf:=by
 refine⟨pf,Xq,?_⟩;rw[hb];cases v
 ·exact he rfl
 ·exact ht rfl
def Nj(hb:cu pf b=J (.bool Z))(ht:pw P c (.code x::k) Q pf):pw P c (.code (.cond b x y)::k) Q pf:=TL hb (λ_=>ht) (λh=>by cases h)
def PT(hb:cu pf b=J (.bool aa))(ht:pw P c (.code y::k) Q pf):pw P c (.code (.cond b x y)::k) Q pf:=TL hb (λh=>by cases h) (λ_=>ht)
def zx5{σ:Type}(shape:σ->List (Nat×PF))(I:σ->Prop)(oh:σ->Nat)(n:Nat)(pf:ah):Prop:=∃s,gu (shape s) pf/\I s/\oh s<n
def SF{σ:Type}(P:Program)(c:aY)(shape:σ->List (Nat×PF))(I:σ->Prop)(oh:σ->Nat)(n:Nat)(k:List iv)(Q:Exit->ah->Prop):Exit->ah->Prop
 | .normal,pf=>zx5 shape I oh n pf
 |e,pf=>fF P c k Q e pf
@[go_sem ↓] theorem zCb{σ:Type}{shape:σ->List (Nat×PF)}{I:σ->Prop}{oh:σ->Nat}:SF P c shape I oh n k Q .normal pf=zx5 shape I oh n pf:=rfl
@[go_sem ↓] theorem zEm{σ:Type}{shape:σ->List (Nat×PF)}{I:σ->Prop}{oh:σ->Nat}:SF P c shape I oh n k Q (.exit id) pf=pwx P c id k Q pf:=rfl
@[go_sem ↓] def zGK{σ:Type}{shape:σ->List (Nat×PF)}{I:σ->Prop}{oh:σ->Nat}:SF P c shape I oh n k Q .ret pf=Q .ret pf:=by
 show fF P c k Q .ret pf=_;rw[TJ]
end
end Go.Pm
