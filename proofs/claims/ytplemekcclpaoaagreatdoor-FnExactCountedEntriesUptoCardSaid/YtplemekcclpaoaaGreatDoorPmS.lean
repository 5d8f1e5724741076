import Derived.Test.YtplemekcclpaoaaGreatDoorPmR
namespace Go.Pm
open Go.Am
inductive PIt where
 |code (c:Code)
 |wk (c:Code)
 |ops (pre:List (Option Tmp)) (l:List Oper)
 |dops (pre:List (Option Tmp)) (l:List (DE×Oper))
 |blk (id:Nat)
def zbY(P:Program)(c:Cfg):List PIt→(Exit→PFr→Prop)→Exit→PFr→Prop
 |[],Q,e=>Q e
 |it::k,Q,e=>match e with
  | .normal=>match it with
   | .code x=>pwp P c x (zbY P c k Q)
   | .wk x=>fun pf=>∃pf2,PWeak pf2 pf∧pwp P c x (zbY P c k Q) pf2
   | .ops pre l=>znz P c pre l (zbY P c k Q .normal)
   | .dops pre l=>zm2 P c pre l (zbY P c k Q .normal)
   | .blk _=>zbY P c k Q .normal
  | .exit id=>match it with
   | .blk i=>if id=i then zbY P c k Q .normal else zbY P c k Q (.exit id)
   |_=>zbY P c k Q (.exit id)
  |e=>zbY P c k Q e
def pw(P:Program)(c:Cfg)(k:List PIt)(Q:Exit→PFr→Prop)(pf:PFr):Prop:=zbY P c k Q .normal pf
section
variable {P:Program}{c:Cfg}{K K2:PFr→Prop}
variable{d:Option Tmp}{o:Oper}{pf:PFr}
theorem zyk(hk:∀pf,K pf→K2 pf){d:Nat}{x:Option (PF×PFr)}(h:pfz K d x):pfz K2 d x:=by
 cases x with
 |none=>exact h
 |some x=>exact hk _ h
theorem zaH(hk:∀pf,K pf→K2 pf){y:PF}(h:zbr c K d y pf):zbr c K2 d y pf:=by
 cases d with
 |none=>exact hk _ h
 |some d=>
  refine⟨h.1,?_⟩;have h2:=h.2;split at h2
  ·rename_i hh;rw[if_pos hh];exact zyk hk h2
  ·rename_i hh;rw[if_neg hh];exact hk _ h2
theorem zrY(hk:∀pf,K pf→K2 pf){x:Option AD}(h:pad c K d pf x):pad c K2 d pf x:=by
 cases x with
 |none=>exact h
 |some x=>exact zaH hk h
theorem zh6(hk:∀pf,K pf→K2 pf)(h:zeP P c o K pf):zeP P c o K2 pf:=by
 unfold zeP at h⊢;split at h
 ·split at h
  ·exact zaH hk h
  ·exact h
 ·exact h
theorem zpX(hk:∀pf,K pf→K2 pf){r:PV}{x:Option PFr}(h:zvi c d K r x):zvi c d K2 r x:=by
 cases x with
 |none=>exact h
 |some x=>exact zaH hk h
theorem znj(hk:∀pf,K pf→K2 pf){f:Operand}{args:List Operand}{ts:List TypeId}{ms:List Md}(h:zmy P c f args ts d K pf ms):zmy P c f args ts d K2 pf ms:=by
 refine⟨h.1,?_⟩;have h2:=h.2;unfold zrt at h2⊢;split at h2
 ·unfold ziQ at h2⊢;split at h2
  ·exact h2.mono fun r outs hh=>⟨hh.1,zpX hk hh.2⟩
  ·exact h2
 ·exact h2
theorem zta(hk:∀pf,K pf→K2 pf){f:Operand}{l:List (Md×Nat×Operand)}{x:Nat×FuncId×List PV}{y:Option (List PV×PFr)}(h:zmf P c f d K l x y):zmf P c f d K2 l x y:=by
 unfold zmf at h⊢;split at h
 ·refine⟨h.1,?_⟩;have h2:=h.2;unfold ziQ at h2⊢;split at h2
  ·exact h2.mono fun r outs hh=>⟨hh.1,zpX hk hh.2⟩
  ·exact h2
 ·exact h
theorem zuO(hk:∀pf,K pf→K2 pf){op:BinOp}{t:TypeId}{x:Operand}(h:zle P c op t x d K pf):zle P c op t x d K2 pf:=by
 unfold zle at h⊢;split at h
 ·exact⟨h.1,fun b hb=>zaH hk (h.2 b hb)⟩
 ·exact h
theorem zu5(hk:∀pf,K pf→K2 pf){s t:TypeId}{x:Operand}(h:zjg P c s t x d K pf):zjg P c s t x d K2 pf:=by
 unfold zjg at h⊢;split at h
 ·exact⟨h.1,zaH hk h.2⟩
 ·exact h
theorem zlu(hk:∀pf,K pf→K2 pf)(h:pop P c o K pf):pop P c o K2 pf:=by
 unfold pop at h⊢;split at h
 ·unfold zmW at h⊢;split at h
  ·unfold zm1 at h⊢;split at h
   ·exact zaH hk h
   ·exact h
  ·split at h
   ·exact zaH hk h
   ·exact h
 ·unfold zkx at h⊢;split at h
  ·refine⟨h.1,h.2.1,?_⟩;have h3:=h.2.2;unfold zjp at h3⊢;split at h3
   ·split at h3
    ·exact hk _ h3
    ·exact h3
   ·exact h3
  ·exact h
 ·exact zrY hk h
 ·unfold zkF at h⊢;split at h
  ·exact zaH hk h
  ·split at h
   ·exact zaH hk h
   ·exact h
 ·exact zrY hk h
 ·unfold zkt at h⊢;split at h
  ·refine⟨h.1,?_⟩;have h3:=h.2;split at h3
   ·rename_i hh;rw[if_pos hh];exact hk _ h3
   ·rename_i hh;rw[if_neg hh];exact hk _ h3
  ·exact h
 ·unfold zpP at h⊢;split at h
  ·refine⟨h.1,h.2.1,h.2.2.1,?_⟩;have h3:=h.2.2.2;split at h3
   ·rename_i hh;rw[if_pos hh];split at h3
    ·rename_i hh;rw[if_pos hh];exact hk _ h3
    ·rename_i hh;rw[if_neg hh];exact hk _ h3
   ·rename_i hh;rw[if_neg hh];exact hk _ h3
  ·exact h
 ·unfold zpE at h⊢;split at h
  ·rename_i hm;rw[if_pos hm];unfold zoa at h⊢;split at h
   ·exact zaH hk h
   ·exact h
  rename_i hm;rw[if_neg hm];split at h
  ·refine⟨h.1,?_⟩;have h3:=h.2;unfold zqF at h3⊢;split at h3
   ·exact⟨h3.1,hk _ h3.2⟩
   ·exact h3
  ·exact h
 ·unfold zkJ at h⊢;split at h
  ·unfold zuZ at h⊢;split at h
   ·exact zaH hk h
   ·exact h
  ·exact h
 ·unfold zmJ zvp at h⊢;split at h
  ·split at h
   ·exact zaH hk h
   ·exact h
  ·split at h
   ·exact zaH hk h
   ·exact h
  ·exact h
 ·unfold zmS at h⊢;split at h
  ·unfold zvn at h⊢;split at h
   ·exact⟨h.1,zaH hk h.2⟩
   ·exact h
  ·exact h
 ·unfold zmT at h⊢;split at h
  ·rename_i hb;rw[if_pos hb];split at h
   ·exact zaH hk h
   ·exact h
  ·rename_i hb;rw[if_neg hb];split at h
   ·exact zaH hk h
   ·exact h
 ·unfold zhZ at h⊢;split at h
  ·unfold zgK at h⊢;split at h
   ·refine⟨h.1,?_⟩;have h3:=h.2;split at h3
    ·rename_i hh;rw[if_pos hh];exact zaH hk h3
    ·rename_i hh;rw[if_neg hh];exact zaH hk h3
   ·exact⟨h.1,zaH hk h.2⟩
   ·exact zaH hk h
   ·exact h
   ·exact h
   ·split at h
    ·rename_i hh;rw[if_pos hh];split at h
     ·exact zaH hk h
     ·exact h
    ·rename_i hh;rw[if_neg hh];exact zaH hk h
   ·exact zaH hk h
  ·split at h
   ·exact zaH hk h
   ·exact h
 ·unfold zjo at h⊢;split at h
  ·exact zaH hk h
  ·split at h
   ·exact zaH hk h
   ·exact h
 ·unfold ziE at h⊢;split at h
  ·refine⟨h.1,?_⟩;have h2:=h.2;unfold pex at h2⊢;split at h2
   ·refine⟨h2.1,?_⟩;have h3:=h2.2;split at h3
    ·rename_i hh;rw[if_pos hh];exact zaH hk h3
    ·rename_i hh;rw[if_neg hh];exact zaH hk h3
   ·exact h2
  ·exact h
 ·split at h
  ·rename_i hh;rw[if_pos hh];exact zh6 hk h
  ·rename_i hh;rw[if_neg hh];unfold zks at h⊢;split at h
   ·unfold zpk at h⊢;split at h
    ·split at h
     ·exact zaH hk h
     ·exact h
    ·split at h
     ·exact⟨h.1,h.2.1,zaH hk h.2.2⟩
     ·exact h
    ·exact h
   ·exact h
 ·unfold zu8 at h⊢;split at h
  ·split at h
   ·rename_i hh;rw[if_pos hh];exact zh6 hk h
   ·rename_i hh;rw[if_neg hh];unfold zn2 at h⊢;split at h
    ·split at h
     ·exact fun hl=>zaH hk (h hl)
     ·exact h
    ·exact h
  ·exact h
 ·unfold zvc at h⊢;split at h
  ·split at h
   ·rename_i htt;rw[if_pos htt];unfold zpm at h⊢;split at h
    ·unfold zqQ at h⊢;split at h
     ·split at h
      ·unfold zqG at h⊢;split at h
       ·exact⟨h.1,h.2.1,zaH hk h.2.2⟩
       ·exact h
      ·exact h
     ·exact h
    ·exact h
   ·rename_i htt;rw[if_neg htt];unfold zos at h⊢;split at h
    ·refine⟨h.1,?_⟩;have h:=h.2;unfold zuX at h⊢;split at h
     ·split at h
      ·exact⟨h.1,zaH hk h.2⟩
      ·exact h
     ·exact h
    ·exact h
  ·exact h
 ·unfold zvg at h⊢;split at h
  ·refine⟨h.1,?_⟩;have h:=h.2;unfold zuo at h⊢;split at h
   ·exact⟨h.1,hk _ h.2⟩
   ·exact h
  ·exact h
 ·rcases h with⟨ms,h⟩|⟨g,x,t,n,z,a1,a2,a3,a4,a5,a6,h⟩|⟨ms,x,a1,a2,h⟩
  ·exact .inl ⟨ms,znj hk h⟩
  ·exact .inr (.inl ⟨g,x,t,n,z,a1,a2,a3,a4,a5,a6,zaH hk h⟩)
  ·exact .inr (.inr ⟨ms,x,a1,a2,zta hk h⟩)
 all_goals first
  |exact zh6 hk h
  | (split at h
     ·rename_i hh;rw[if_pos hh];exact⟨h.1,zuO hk h.2⟩
     ·rename_i hh;rw[if_neg hh];exact zh6 hk h)
  | (split at h
     ·rename_i hh;rw[if_pos hh];exact⟨h.1,zu5 hk h.2⟩
     ·rename_i hh;rw[if_neg hh];exact zh6 hk h)
  |exact h
theorem zuI(hk:∀pf,K pf→K2 pf)(h:ziI c d K pf):ziI c d K2 pf:=by
 cases d with
 |none=>exact hk _ h
 |some d=>exact⟨h.1,hk _ h.2⟩
theorem zsj(hk:∀pf,K pf→K2 pf){b:Bool}{r r2:Prop}(hr:r→r2){y:Option (Option Bool)}(h:pgo c b d r K pf y):pgo c b d r2 K2 pf y:=by
 unfold pgo at h⊢;split at h
 ·split at h
  ·rename_i hh;rw[if_pos hh];exact hr h
  ·rename_i hh;rw[if_neg hh];exact zuI hk h
 ·exact h
theorem zwy{pre:List (Option Tmp)}:∀{l:List Oper}{K K2:PFr→Prop}(_:∀pf,K pf→K2 pf) {pf:PFr},znz P c pre l K pf→znz P c pre l K2 pf:=by
 intro l;induction l with
 |nil=>intro K K2 hk pf h;exact hk _ h
 |cons o l ih=>
  intro K K2 hk pf h;simp only[znz,zmC]at h⊢;split at h
  ·exact zlu (fun _ hh=>ih hk hh) h
  ·exact zsj (fun _ hh=>ih hk hh) (zlu fun _ hh=>ih hk hh) h
theorem zp2(hk:∀pf,K pf→K2 pf){ext:Bool}(h:ziZ P c ext o K pf):ziZ P c ext o K2 pf:=by
 unfold ziZ at h⊢;split at h
 ·split at h
  ·rename_i hx;rw[if_pos hx];exact znj hk h
  ·rename_i hx;rw[if_neg hx];exact zlu hk h
 ·exact⟨h.1,zlu hk h.2⟩
theorem zup{pre:List (Option Tmp)}:∀{l:List (DE×Oper)}{K K2:PFr→Prop}(_:∀pf,K pf→K2 pf) {pf:PFr},zm2 P c pre l K pf→zm2 P c pre l K2 pf:=by
 intro l;induction l with
 |nil=>intro K K2 hk pf h;exact hk _ h
 |cons x l ih=>
  obtain⟨e,o⟩:=x;intro K K2 hk pf h;refine⟨h.1,?_⟩;have h2:=h.2;unfold zok at h2⊢;split at h2
  ·exact zp2 (fun _ hh=>ih hk hh) h2
  ·exact zsj (fun _ hh=>ih hk hh) (zp2 fun _ hh=>ih hk hh) h2
theorem znx:∀(x:Code) {Q Q2:Exit→PFr→Prop},(∀e pf,Q e pf→Q2 e pf)→∀{pf},pwp P c x Q pf→pwp P c x Q2 pf:=by
 intro x;induction x with
 |skip=>intro Q Q2 hq pf h;exact hq _ _ h
 |region id ops draw=>
  intro Q Q2 hq pf h;simp only[pwp]at h⊢;split at h
  ·rename_i hd;rw[if_pos hd];obtain⟨a,n,h⟩:=h;exact⟨a,n,zkj (fun _=>zup (hq .normal)) h⟩
  ·rename_i hd;rw[if_neg hd];exact zwy (hq .normal) h
 |seq x y ihx ihy=>
  intro Q Q2 hq pf h;refine ihx (fun e pf h=>?_) h;cases e<;>try exact hq _ _ h
  obtain⟨pf2,hw,h⟩:=h;exact⟨pf2,hw,ihy hq h⟩
 |cond b x y ihx ihy=>
  intro Q Q2 hq pf h;obtain⟨pf2,hw,h⟩:=h;refine⟨pf2,hw,?_⟩;unfold zxX at h⊢;split at h
  ·split at h
   ·rename_i e;rw[if_pos e];exact ihx hq h
   ·rename_i e;rw[if_neg e];exact ihy hq h
  ·exact h
 |block id b ih=>
  intro Q Q2 hq pf h;refine ih (fun e pf h=>?_) h;cases e<;>try exact hq _ _ h
  simp only[zmj]at h⊢;split at h
  ·rename_i e;rw[if_pos e];exact hq _ _ h
  ·rename_i e;rw[if_neg e];exact hq _ _ h
 |loop b ih=>
  intro Q Q2 hq pf h;obtain⟨n,hn⟩:=h;refine⟨n,?_⟩;induction n generalizing pf with
  |zero=>exact hn
  |succ n ihn=>
   obtain⟨pf2,hw,hn⟩:=hn;refine⟨pf2,hw,ih (fun e pf h=>?_) hn⟩;cases e<;>first|exact ihn h|exact hq _ _ h
 |exit id=>intro Q Q2 hq pf h;exact hq _ _ h
 |ret=>intro Q Q2 hq pf h;exact hq _ _ h
 |_=>intros;rename_i h;exact absurd h (by simp[pwp])
end
section
variable {P:Program}{c:Cfg}{k:List PIt}{Q:Exit→PFr→Prop}{pf:PFr}
variable{b:Operand}{id n:Nat}{x y:Code}
theorem zys{pf':PFr}(h:pf=pf'):pw P c k Q pf=pw P c k Q pf':=by rw[h]
@[go_sem ↓] theorem zRd:pw P c [] Q pf=Q .normal pf:=rfl
@[go_sem ↓] theorem zRi{i:Nat}:pw P c (.blk i::k) Q pf=pw P c k Q pf:=rfl
@[go_sem ↓] theorem zOt:pw P c (.code .skip::k) Q pf=pw P c k Q pf:=rfl
@[go_sem ↓] theorem zre :pw P c (.code (.seq x y)::k) Q pf=pw P c (.code x::.wk y::k) Q pf:=by
 show pwp P c x (zy5 (fun pf=>∃pf2,PWeak pf2 pf∧pwp P c y (zbY P c k Q) pf2) (zbY P c k Q)) pf=pwp P c x (zbY P c (.wk y::k) Q) pf;congr 1;funext e;cases e<;>rfl
@[go_sem ↓] theorem pw_block{b:Code}:pw P c (.code (.block id b)::k) Q pf=pw P c (.code b::.blk id::k) Q pf:=by
 show pwp P c b (zmj id (zbY P c k Q)) pf=pwp P c b (zbY P c (.blk id::k) Q) pf;congr 1;funext e;cases e<;>try rfl
 funext pf;simp only[zmj,zbY];split<;>rfl
theorem zl0:zbY P c k Q .ret=Q .ret:=by
 induction k with
 |nil=>rfl
 |cons it k ih=>exact ih
@[go_sem ↓] theorem zQq:pw P c (.code .ret::k) Q pf=Q .ret pf:=by
 show zbY P c k Q .ret pf=_;rw[zl0]
def pwx(P:Program)(c:Cfg)(id:Nat)(k:List PIt)(Q:Exit→PFr→Prop)(pf:PFr):Prop:=zbY P c k Q (.exit id) pf
@[go_sem ↓] theorem zPy :pw P c (.code (.exit id)::k) Q pf=pwx P c id k Q pf:=rfl
@[go_sem ↓] theorem zPD :pwx P c id [] Q pf=Q (.exit id) pf:=rfl
@[go_sem ↓] theorem zHd :pwx P c id (.code x::k) Q pf=pwx P c id k Q pf:=rfl
@[go_sem ↓] theorem zSd :pwx P c id (.wk x::k) Q pf=pwx P c id k Q pf:=rfl
@[go_sem ↓] theorem zPk{pre:List (Option Tmp)}{l:List Oper}:pwx P c id (.ops pre l::k) Q pf=pwx P c id k Q pf:=rfl
@[go_sem ↓] theorem zIg{pre:List (Option Tmp)}{l:List (DE×Oper)}:pwx P c id (.dops pre l::k) Q pf=pwx P c id k Q pf:=rfl
@[go_sem ↓] theorem zOT{i:Nat}:pwx P c id (.blk i::k) Q pf=if id=i then pw P c k Q pf else pwx P c id k Q pf:=by
 show(zbY P c (.blk i::k) Q (.exit id)) pf=_;simp only[zbY];split<;>rfl
def PFr.ofL:List (Nat×PF)→PFr
 |[],_=>jP
 |(s,x)::l,t=>if t=s then x else PFr.ofL l t
def zbH:List (Nat×PF)→PFr→Prop
 |[],_=>True
 |(s,x)::l,pf=>pf s=x∧zbH l pf
@[go_sem] theorem zEW{pf:PFr}:zbH [] pf=True:=rfl
@[go_sem] theorem zB2{s:Nat}{x:PF}{l:List (Nat×PF)}{pf:PFr}:zbH ((s,x)::l) pf=(pf s=x∧zbH l pf):=rfl
theorem zrm:∀{l:List (Nat×PF)}{pf:PFr},zbH l pf→∀t,PFr.ofL l t=pf t∨PFr.ofL l t=jP:=by
 intro l;induction l with
 |nil=>intro pf _ t;exact .inr rfl
 |cons p l ih=>
  intro pf h t;obtain⟨s,x⟩:=p;obtain⟨h1,h2⟩:=h;by_cases e:t=s
  ·subst e;left;simp[PFr.ofL,h1]
  ·rcases ih h2 t with e2|e2
   ·left;simpa[PFr.ofL,e]using e2
   ·right;simpa[PFr.ofL,e]using e2
theorem ziN{l:List (Nat×PF)}{pf:PFr}(h:zbH l pf):PWeak (PFr.ofL l) pf:=.w (zrm h)
theorem zoD:PWeak pf pf:=.w fun _=>.inl rfl
theorem zap(h:pw P c (.code x::k) Q pf):pw P c (.wk x::k) Q pf:=⟨pf,zoD,h⟩
theorem zmD(l:List (Nat×PF))(ha:zbH l pf)(h:pw P c (.code x::k) Q (PFr.ofL l)):pw P c (.wk x::k) Q pf:=⟨PFr.ofL l,ziN ha,h⟩
theorem zns{v:Bool}(hb:rdS pf b=some (.bool v))(ht:v=true→pw P c (.code x::k) Q pf)(he:v=false→pw P c (.code y::k) Q pf):
 pw P c (.code (.cond b x y)::k) Q pf:=by
 refine⟨pf,zoD,?_⟩;rw[hb];cases v
 ·exact he rfl
 ·exact ht rfl
theorem zjT(hb:rdS pf b=some (.bool true))(ht:pw P c (.code x::k) Q pf):pw P c (.code (.cond b x y)::k) Q pf:=zns hb (fun _=>ht) (fun h=>by cases h)
theorem zmx(hb:rdS pf b=some (.bool false))(ht:pw P c (.code y::k) Q pf):pw P c (.code (.cond b x y)::k) Q pf:=zns hb (fun h=>by cases h) (fun _=>ht)
def zvU{σ:Type}(shape:σ→List (Nat×PF))(I:σ→Prop)(meas:σ→Nat)(n:Nat)(pf:PFr):Prop:=∃s,zbH (shape s) pf∧I s∧meas s<n
def zsw{σ:Type}(P:Program)(c:Cfg)(shape:σ→List (Nat×PF))(I:σ→Prop)(meas:σ→Nat)(n:Nat)(k:List PIt)(Q:Exit→PFr→Prop):Exit→PFr→Prop
 | .normal,pf=>zvU shape I meas n pf
 |e,pf=>zbY P c k Q e pf
@[go_sem ↓] theorem zAu{σ:Type}{shape:σ→List (Nat×PF)}{I:σ→Prop}{meas:σ→Nat}:zsw P c shape I meas n k Q .normal pf=zvU shape I meas n pf:=rfl
@[go_sem ↓] theorem zBV{σ:Type}{shape:σ→List (Nat×PF)}{I:σ→Prop}{meas:σ→Nat}:zsw P c shape I meas n k Q (.exit id) pf=pwx P c id k Q pf:=rfl
@[go_sem ↓] theorem zDS{σ:Type}{shape:σ→List (Nat×PF)}{I:σ→Prop}{meas:σ→Nat}:zsw P c shape I meas n k Q .ret pf=Q .ret pf:=by
 show zbY P c k Q .ret pf=_;rw[zl0]
end
end Go.Pm
