import Derived.Test.YtplemekcclpaoaaGreatDoorPmR
namespace Go.Pm
open Go.Am
inductive PIt where
 |code (c:Code)
 |wk (c:Code)
 |ops (pre:List (Option Tmp)) (l:List Oper)
 |dops (pre:List (Option Tmp)) (l:List (DE×Oper))
 |blk (id:Nat)
def zbV(P:Program)(c:Cfg):List PIt→(Exit→PFr→Prop)→Exit→PFr→Prop
 |[],Q,e=>Q e
 |it::k,Q,e=>match e with
  | .normal=>match it with
   | .code x=>pwp P c x (zbV P c k Q)
   | .wk x=>fun pf=>∃pf2,PWeak pf2 pf∧pwp P c x (zbV P c k Q) pf2
   | .ops pre l=>znu P c pre l (zbV P c k Q .normal)
   | .dops pre l=>zmS P c pre l (zbV P c k Q .normal)
   | .blk _=>zbV P c k Q .normal
  | .exit id=>match it with
   | .blk i=>if id=i then zbV P c k Q .normal else zbV P c k Q (.exit id)
   |_=>zbV P c k Q (.exit id)
  |e=>zbV P c k Q e
def pw(P:Program)(c:Cfg)(k:List PIt)(Q:Exit→PFr→Prop)(pf:PFr):Prop:=zbV P c k Q .normal pf
section
variable {P:Program}{c:Cfg}{K K2:PFr→Prop}
variable{d:Option Tmp}{o:Oper}{pf:PFr}
theorem zxm(hk:∀pf,K pf→K2 pf){d:Nat}{x:Option (PF×PFr)}(h:pfz K d x):pfz K2 d x:=by
 cases x with
 |none=>exact h
 |some x=>exact hk _ h
theorem zaG(hk:∀pf,K pf→K2 pf){y:PF}(h:zbs c K d y pf):zbs c K2 d y pf:=by
 cases d with
 |none=>exact hk _ h
 |some d=>
  refine⟨h.1,?_⟩;have h2:=h.2;split at h2
  ·rename_i hh;rw[if_pos hh];exact zxm hk h2
  ·rename_i hh;rw[if_neg hh];exact hk _ h2
theorem zqW(hk:∀pf,K pf→K2 pf){x:Option AD}(h:pad c K d pf x):pad c K2 d pf x:=by
 cases x with
 |none=>exact h
 |some x=>exact zaG hk h
theorem zh8(hk:∀pf,K pf→K2 pf)(h:zeE P c o K pf):zeE P c o K2 pf:=by
 unfold zeE at h⊢;split at h
 ·split at h
  ·exact zaG hk h
  ·exact h
 ·exact h
theorem zpX(hk:∀pf,K pf→K2 pf){r:PV}{x:Option PFr}(h:zuA c d K r x):zuA c d K2 r x:=by
 cases x with
 |none=>exact h
 |some x=>exact zaG hk h
theorem znb(hk:∀pf,K pf→K2 pf){f:Operand}{args:List Operand}{ts:List TypeId}{ms:List Md}(h:zl0 P c f args ts d K pf ms):zl0 P c f args ts d K2 pf ms:=by
 refine⟨h.1,?_⟩;have h2:=h.2;unfold zrn at h2⊢;split at h2
 ·unfold ziG at h2⊢;split at h2
  ·exact h2.mono fun r outs hh=>⟨hh.1,zpX hk hh.2⟩
  ·exact h2
 ·exact h2
theorem zsO(hk:∀pf,K pf→K2 pf){f:Operand}{l:List (Md×Nat×Operand)}{x:Nat×FuncId×List PV}{y:Option (List PV×PFr)}(h:zl2 P c f d K l x y):zl2 P c f d K2 l x y:=by
 unfold zl2 at h⊢;split at h
 ·refine⟨h.1,?_⟩;have h2:=h.2;unfold ziG at h2⊢;split at h2
  ·exact h2.mono fun r outs hh=>⟨hh.1,zpX hk hh.2⟩
  ·exact h2
 ·exact h
theorem zut(hk:∀pf,K pf→K2 pf){op:BinOp}{t:TypeId}{x:Operand}(h:zkP P c op t x d K pf):zkP P c op t x d K2 pf:=by
 unfold zkP at h⊢;split at h
 ·exact⟨h.1,fun b hb=>zaG hk (h.2 b hb)⟩
 ·exact h
theorem zt8(hk:∀pf,K pf→K2 pf){s t:TypeId}{x:Operand}(h:zi0 P c s t x d K pf):zi0 P c s t x d K2 pf:=by
 unfold zi0 at h⊢;split at h
 ·exact⟨h.1,zaG hk h.2⟩
 ·exact h
theorem zlg(hk:∀pf,K pf→K2 pf)(h:pop P c o K pf):pop P c o K2 pf:=by
 unfold pop at h⊢;split at h
 ·unfold zmF at h⊢;split at h
  ·unfold zmK at h⊢;split at h
   ·exact zaG hk h
   ·exact h
  ·split at h
   ·exact zaG hk h
   ·exact h
 ·unfold zkF at h⊢;split at h
  ·refine⟨h.1,h.2.1,?_⟩;have h3:=h.2.2;unfold zje at h3⊢;split at h3
   ·split at h3
    ·exact hk _ h3
    ·exact h3
   ·exact h3
  ·exact h
 ·exact zqW hk h
 ·unfold zkh at h⊢;split at h
  ·exact zaG hk h
  ·split at h
   ·exact zaG hk h
   ·exact h
 ·exact zqW hk h
 ·unfold zki at h⊢;split at h
  ·refine⟨h.1,?_⟩;have h3:=h.2;split at h3
   ·rename_i hh;rw[if_pos hh];exact hk _ h3
   ·rename_i hh;rw[if_neg hh];exact hk _ h3
  ·exact h
 ·unfold zoU at h⊢;split at h
  ·refine⟨h.1,h.2.1,h.2.2.1,?_⟩;have h3:=h.2.2.2;split at h3
   ·rename_i hh;rw[if_pos hh];split at h3
    ·rename_i hh;rw[if_pos hh];exact hk _ h3
    ·rename_i hh;rw[if_neg hh];exact hk _ h3
   ·rename_i hh;rw[if_neg hh];exact hk _ h3
  ·exact h
 ·unfold zo0 at h⊢;split at h
  ·rename_i hm;rw[if_pos hm];unfold zoz at h⊢;split at h
   ·exact zaG hk h
   ·exact h
  rename_i hm;rw[if_neg hm];split at h
  ·refine⟨h.1,?_⟩;have h3:=h.2;unfold zqy at h3⊢;split at h3
   ·exact⟨h3.1,hk _ h3.2⟩
   ·exact h3
  ·exact h
 ·unfold zkD at h⊢;split at h
  ·unfold zuj at h⊢;split at h
   ·exact zaG hk h
   ·exact h
  ·exact h
 ·unfold zmL zuZ at h⊢;split at h
  ·split at h
   ·exact zaG hk h
   ·exact h
  ·split at h
   ·exact zaG hk h
   ·exact h
  ·exact h
 ·unfold zmP at h⊢;split at h
  ·unfold zvf at h⊢;split at h
   ·exact⟨h.1,zaG hk h.2⟩
   ·exact h
  ·exact h
 ·unfold zmE at h⊢;split at h
  ·rename_i hb;rw[if_pos hb];split at h
   ·exact zaG hk h
   ·exact h
  ·rename_i hb;rw[if_neg hb];split at h
   ·exact zaG hk h
   ·exact h
 ·unfold zh0 at h⊢;split at h
  ·unfold zgA at h⊢;split at h
   ·refine⟨h.1,?_⟩;have h3:=h.2;split at h3
    ·rename_i hh;rw[if_pos hh];exact zaG hk h3
    ·rename_i hh;rw[if_neg hh];exact zaG hk h3
   ·exact⟨h.1,zaG hk h.2⟩
   ·exact zaG hk h
   ·exact h
   ·exact h
   ·split at h
    ·rename_i hh;rw[if_pos hh];split at h
     ·exact zaG hk h
     ·exact h
    ·rename_i hh;rw[if_neg hh];exact zaG hk h
   ·exact zaG hk h
  ·split at h
   ·exact zaG hk h
   ·exact h
 ·unfold zjh at h⊢;split at h
  ·exact zaG hk h
  ·split at h
   ·exact zaG hk h
   ·exact h
 ·unfold zij at h⊢;split at h
  ·refine⟨h.1,?_⟩;have h2:=h.2;unfold pex at h2⊢;split at h2
   ·refine⟨h2.1,?_⟩;have h3:=h2.2;split at h3
    ·rename_i hh;rw[if_pos hh];exact zaG hk h3
    ·rename_i hh;rw[if_neg hh];exact zaG hk h3
   ·exact h2
  ·exact h
 ·split at h
  ·rename_i hh;rw[if_pos hh];exact zh8 hk h
  ·rename_i hh;rw[if_neg hh];unfold zkv at h⊢;split at h
   ·unfold zpI at h⊢;split at h
    ·split at h
     ·exact zaG hk h
     ·exact h
    ·split at h
     ·exact⟨h.1,h.2.1,zaG hk h.2.2⟩
     ·exact h
    ·exact h
   ·exact h
 ·unfold zup at h⊢;split at h
  ·split at h
   ·rename_i hh;rw[if_pos hh];exact zh8 hk h
   ·rename_i hh;rw[if_neg hh];unfold znP at h⊢;split at h
    ·split at h
     ·exact fun hl=>zaG hk (h hl)
     ·exact h
    ·exact h
  ·exact h
 ·unfold zud at h⊢;split at h
  ·split at h
   ·rename_i htt;rw[if_pos htt];unfold zo1 at h⊢;split at h
    ·unfold zqL at h⊢;split at h
     ·split at h
      ·unfold zqG at h⊢;split at h
       ·exact⟨h.1,h.2.1,zaG hk h.2.2⟩
       ·exact h
      ·exact h
     ·exact h
    ·exact h
   ·rename_i htt;rw[if_neg htt];unfold zoE at h⊢;split at h
    ·refine⟨h.1,?_⟩;have h:=h.2;unfold zub at h⊢;split at h
     ·split at h
      ·exact⟨h.1,zaG hk h.2⟩
      ·exact h
     ·exact h
    ·exact h
  ·exact h
 ·unfold zuc at h⊢;split at h
  ·refine⟨h.1,?_⟩;have h:=h.2;unfold zuF at h⊢;split at h
   ·exact⟨h.1,hk _ h.2⟩
   ·exact h
  ·exact h
 ·rcases h with⟨ms,h⟩|⟨g,x,t,n,z,a1,a2,a3,a4,a5,a6,h⟩|⟨ms,x,a1,a2,h⟩
  ·exact .inl ⟨ms,znb hk h⟩
  ·exact .inr (.inl ⟨g,x,t,n,z,a1,a2,a3,a4,a5,a6,zaG hk h⟩)
  ·exact .inr (.inr ⟨ms,x,a1,a2,zsO hk h⟩)
 all_goals first
  |exact zh8 hk h
  | (split at h
     ·rename_i hh;rw[if_pos hh];exact⟨h.1,zut hk h.2⟩
     ·rename_i hh;rw[if_neg hh];exact zh8 hk h)
  | (split at h
     ·rename_i hh;rw[if_pos hh];exact⟨h.1,zt8 hk h.2⟩
     ·rename_i hh;rw[if_neg hh];exact zh8 hk h)
  |exact h
theorem zuQ(hk:∀pf,K pf→K2 pf)(h:ziz c d K pf):ziz c d K2 pf:=by
 cases d with
 |none=>exact hk _ h
 |some d=>exact⟨h.1,hk _ h.2⟩
theorem zrb(hk:∀pf,K pf→K2 pf){b:Bool}{r r2:Prop}(hr:r→r2){y:Option (Option Bool)}(h:pgo c b d r K pf y):pgo c b d r2 K2 pf y:=by
 unfold pgo at h⊢;split at h
 ·split at h
  ·rename_i hh;rw[if_pos hh];exact hr h
  ·rename_i hh;rw[if_neg hh];exact zuQ hk h
 ·exact h
theorem zv7{pre:List (Option Tmp)}:∀{l:List Oper}{K K2:PFr→Prop}(_:∀pf,K pf→K2 pf) {pf:PFr},znu P c pre l K pf→znu P c pre l K2 pf:=by
 intro l;induction l with
 |nil=>intro K K2 hk pf h;exact hk _ h
 |cons o l ih=>
  intro K K2 hk pf h;simp only[znu,zma]at h⊢;split at h
  ·exact zlg (fun _ hh=>ih hk hh) h
  ·exact zrb (fun _ hh=>ih hk hh) (zlg fun _ hh=>ih hk hh) h
theorem zp8(hk:∀pf,K pf→K2 pf){ext:Bool}(h:ziP P c ext o K pf):ziP P c ext o K2 pf:=by
 unfold ziP at h⊢;split at h
 ·split at h
  ·rename_i hx;rw[if_pos hx];exact znb hk h
  ·rename_i hx;rw[if_neg hx];exact zlg hk h
 ·exact⟨h.1,zlg hk h.2⟩
theorem zuh{pre:List (Option Tmp)}:∀{l:List (DE×Oper)}{K K2:PFr→Prop}(_:∀pf,K pf→K2 pf) {pf:PFr},zmS P c pre l K pf→zmS P c pre l K2 pf:=by
 intro l;induction l with
 |nil=>intro K K2 hk pf h;exact hk _ h
 |cons x l ih=>
  obtain⟨e,o⟩:=x;intro K K2 hk pf h;refine⟨h.1,?_⟩;have h2:=h.2;unfold zoG at h2⊢;split at h2
  ·exact zp8 (fun _ hh=>ih hk hh) h2
  ·exact zrb (fun _ hh=>ih hk hh) (zp8 fun _ hh=>ih hk hh) h2
theorem znn:∀(x:Code) {Q Q2:Exit→PFr→Prop},(∀e pf,Q e pf→Q2 e pf)→∀{pf},pwp P c x Q pf→pwp P c x Q2 pf:=by
 intro x;induction x with
 |skip=>intro Q Q2 hq pf h;exact hq _ _ h
 |region id ops draw=>
  intro Q Q2 hq pf h;simp only[pwp]at h⊢;split at h
  ·rename_i hd;rw[if_pos hd];obtain⟨a,n,h⟩:=h;exact⟨a,n,zj8 (fun _=>zuh (hq .normal)) h⟩
  ·rename_i hd;rw[if_neg hd];exact zv7 (hq .normal) h
 |seq x y ihx ihy=>
  intro Q Q2 hq pf h;refine ihx (fun e pf h=>?_) h;cases e<;>try exact hq _ _ h
  obtain⟨pf2,hw,h⟩:=h;exact⟨pf2,hw,ihy hq h⟩
 |cond b x y ihx ihy=>
  intro Q Q2 hq pf h;obtain⟨pf2,hw,h⟩:=h;refine⟨pf2,hw,?_⟩;unfold zxd at h⊢;split at h
  ·split at h
   ·rename_i e;rw[if_pos e];exact ihx hq h
   ·rename_i e;rw[if_neg e];exact ihy hq h
  ·exact h
 |block id b ih=>
  intro Q Q2 hq pf h;refine ih (fun e pf h=>?_) h;cases e<;>try exact hq _ _ h
  simp only[zmr]at h⊢;split at h
  ·rename_i e;rw[if_pos e];exact hq _ _ h
  ·rename_i e;rw[if_neg e];exact hq _ _ h
 |loop b ih=>
  intro Q Q2 hq pf h;obtain⟨n,hn⟩:=h;refine⟨n,?_⟩;induction n generalizing pf with
  |zero=>exact hn
  |succ n ihn=>
   obtain⟨pf2,hw,hn⟩:=hn;refine⟨pf2,hw,ih (fun e pf h=>?_) hn⟩;cases e<;>first|exact ihn h|exact hq _ _ h
 |exit id=>intro Q Q2 hq pf h;exact hq _ _ h
 |ret=>intro Q Q2 hq pf h;exact hq _ _ h
 |_=>intros;rename_i h;exact absurd h (by simp[pwp])
end
section
variable {P:Program}{c:Cfg}{k:List PIt}{Q:Exit→PFr→Prop}{pf:PFr}
variable{b:Operand}{id n:Nat}{x y:Code}
theorem zxB{pf':PFr}(h:pf=pf'):pw P c k Q pf=pw P c k Q pf':=by rw[h]
@[go_sem ↓] theorem zRA:pw P c [] Q pf=Q .normal pf:=rfl
@[go_sem ↓] theorem zSF{i:Nat}:pw P c (.blk i::k) Q pf=pw P c k Q pf:=rfl
@[go_sem ↓] theorem zMj:pw P c (.code .skip::k) Q pf=pw P c k Q pf:=rfl
@[go_sem ↓] theorem zsh :pw P c (.code (.seq x y)::k) Q pf=pw P c (.code x::.wk y::k) Q pf:=by
 show pwp P c x (zyx (fun pf=>∃pf2,PWeak pf2 pf∧pwp P c y (zbV P c k Q) pf2) (zbV P c k Q)) pf=pwp P c x (zbV P c (.wk y::k) Q) pf;congr 1;funext e;cases e<;>rfl
@[go_sem ↓] theorem pw_block{b:Code}:pw P c (.code (.block id b)::k) Q pf=pw P c (.code b::.blk id::k) Q pf:=by
 show pwp P c b (zmr id (zbV P c k Q)) pf=pwp P c b (zbV P c (.blk id::k) Q) pf;congr 1;funext e;cases e<;>try rfl
 funext pf;simp only[zmr,zbV];split<;>rfl
theorem zlR:zbV P c k Q .ret=Q .ret:=by
 induction k with
 |nil=>rfl
 |cons it k ih=>exact ih
@[go_sem ↓] theorem zQy:pw P c (.code .ret::k) Q pf=Q .ret pf:=by
 show zbV P c k Q .ret pf=_;rw[zlR]
def pwx(P:Program)(c:Cfg)(id:Nat)(k:List PIt)(Q:Exit→PFr→Prop)(pf:PFr):Prop:=zbV P c k Q (.exit id) pf
@[go_sem ↓] theorem zMJ :pw P c (.code (.exit id)::k) Q pf=pwx P c id k Q pf:=rfl
@[go_sem ↓] theorem zNe :pwx P c id [] Q pf=Q (.exit id) pf:=rfl
@[go_sem ↓] theorem zKh :pwx P c id (.code x::k) Q pf=pwx P c id k Q pf:=rfl
@[go_sem ↓] theorem zQC :pwx P c id (.wk x::k) Q pf=pwx P c id k Q pf:=rfl
@[go_sem ↓] theorem zOf{pre:List (Option Tmp)}{l:List Oper}:pwx P c id (.ops pre l::k) Q pf=pwx P c id k Q pf:=rfl
@[go_sem ↓] theorem zIk{pre:List (Option Tmp)}{l:List (DE×Oper)}:pwx P c id (.dops pre l::k) Q pf=pwx P c id k Q pf:=rfl
@[go_sem ↓] theorem zQf{i:Nat}:pwx P c id (.blk i::k) Q pf=if id=i then pw P c k Q pf else pwx P c id k Q pf:=by
 show(zbV P c (.blk i::k) Q (.exit id)) pf=_;simp only[zbV];split<;>rfl
def PFr.ofL:List (Nat×PF)→PFr
 |[],_=>jP
 |(s,x)::l,t=>if t=s then x else PFr.ofL l t
def zbJ:List (Nat×PF)→PFr→Prop
 |[],_=>True
 |(s,x)::l,pf=>pf s=x∧zbJ l pf
@[go_sem] theorem zDY{pf:PFr}:zbJ [] pf=True:=rfl
@[go_sem] theorem zCi{s:Nat}{x:PF}{l:List (Nat×PF)}{pf:PFr}:zbJ ((s,x)::l) pf=(pf s=x∧zbJ l pf):=rfl
theorem zsj:∀{l:List (Nat×PF)}{pf:PFr},zbJ l pf→∀t,PFr.ofL l t=pf t∨PFr.ofL l t=jP:=by
 intro l;induction l with
 |nil=>intro pf _ t;exact .inr rfl
 |cons p l ih=>
  intro pf h t;obtain⟨s,x⟩:=p;obtain⟨h1,h2⟩:=h;by_cases e:t=s
  ·subst e;left;simp[PFr.ofL,h1]
  ·rcases ih h2 t with e2|e2
   ·left;simpa[PFr.ofL,e]using e2
   ·right;simpa[PFr.ofL,e]using e2
theorem ziA{l:List (Nat×PF)}{pf:PFr}(h:zbJ l pf):PWeak (PFr.ofL l) pf:=.w (zsj h)
theorem zod:PWeak pf pf:=.w fun _=>.inl rfl
theorem zap(h:pw P c (.code x::k) Q pf):pw P c (.wk x::k) Q pf:=⟨pf,zod,h⟩
theorem zl6(l:List (Nat×PF))(ha:zbJ l pf)(h:pw P c (.code x::k) Q (PFr.ofL l)):pw P c (.wk x::k) Q pf:=⟨PFr.ofL l,ziA ha,h⟩
theorem znQ{v:Bool}(hb:rdS pf b=some (.bool v))(ht:v=true→pw P c (.code x::k) Q pf)(he:v=false→pw P c (.code y::k) Q pf):
 pw P c (.code (.cond b x y)::k) Q pf:=by
 refine⟨pf,zod,?_⟩;rw[hb];cases v
 ·exact he rfl
 ·exact ht rfl
theorem zjY(hb:rdS pf b=some (.bool true))(ht:pw P c (.code x::k) Q pf):pw P c (.code (.cond b x y)::k) Q pf:=znQ hb (fun _=>ht) (fun h=>by cases h)
theorem zlY(hb:rdS pf b=some (.bool false))(ht:pw P c (.code y::k) Q pf):pw P c (.code (.cond b x y)::k) Q pf:=znQ hb (fun h=>by cases h) (fun _=>ht)
def zvF{σ:Type}(shape:σ→List (Nat×PF))(I:σ→Prop)(meas:σ→Nat)(n:Nat)(pf:PFr):Prop:=∃s,zbJ (shape s) pf∧I s∧meas s<n
def zrt{σ:Type}(P:Program)(c:Cfg)(shape:σ→List (Nat×PF))(I:σ→Prop)(meas:σ→Nat)(n:Nat)(k:List PIt)(Q:Exit→PFr→Prop):Exit→PFr→Prop
 | .normal,pf=>zvF shape I meas n pf
 |e,pf=>zbV P c k Q e pf
@[go_sem ↓] theorem zz4{σ:Type}{shape:σ→List (Nat×PF)}{I:σ→Prop}{meas:σ→Nat}:zrt P c shape I meas n k Q .normal pf=zvF shape I meas n pf:=rfl
@[go_sem ↓] theorem zCg{σ:Type}{shape:σ→List (Nat×PF)}{I:σ→Prop}{meas:σ→Nat}:zrt P c shape I meas n k Q (.exit id) pf=pwx P c id k Q pf:=rfl
@[go_sem ↓] theorem zES{σ:Type}{shape:σ→List (Nat×PF)}{I:σ→Prop}{meas:σ→Nat}:zrt P c shape I meas n k Q .ret pf=Q .ret pf:=by
 show zbV P c k Q .ret pf=_;rw[zlR]
end
end Go.Pm
