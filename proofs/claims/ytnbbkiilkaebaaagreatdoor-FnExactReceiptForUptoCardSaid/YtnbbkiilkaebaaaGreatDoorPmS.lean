import Derived.Test.YtnbbkiilkaebaaaGreatDoorPmR
namespace Go.Pm
open Go.Am
inductive PIt where
 |code (c:Code)
 |wk (c:Code)
 |ops (pre:List (Option Tmp)) (l:List Oper)
 |dops (pre:List (Option Tmp)) (l:List (DE×Oper))
 |blk (id:Nat)
def zbG (P:Program) (c:Cfg):List PIt→(Exit→PFr→Prop)→Exit→PFr→Prop
 |[],Q,e=>Q e
 |it::k,Q,e=>match e with
  | .normal=>match it with
   | .code x=>pwp P c x (zbG P c k Q)
   | .wk x=>fun pf=>∃pf2,PWeak pf2 pf∧pwp P c x (zbG P c k Q) pf2
   | .ops pre l=>zl7 P c pre l (zbG P c k Q .normal)
   | .dops pre l=>zly P c pre l (zbG P c k Q .normal)
   | .blk _=>zbG P c k Q .normal
  | .exit id=>match it with
   | .blk i=>if id=i then zbG P c k Q .normal else zbG P c k Q (.exit id)
   |_=>zbG P c k Q (.exit id)
  |e=>zbG P c k Q e
def pw (P:Program) (c:Cfg) (k:List PIt) (Q:Exit→PFr→Prop) (pf:PFr):Prop:=zbG P c k Q .normal pf
section
variable {P:Program}{c:Cfg}{K K2:PFr→Prop}
theorem zvP (hk:∀pf,K pf→K2 pf) {d:Nat}{x:Option (PF×PFr)}(h:pfz K d x):pfz K2 d x:=by
 cases x with
 |none=>exact h
 |some x=>exact hk _ h
theorem zay (hk:∀pf,K pf→K2 pf) {d:Option Tmp}{y:PF}{pf:PFr}(h:zbp c K d y pf):zbp c K2 d y pf:=by
 cases d with
 |none=>exact hk _ h
 |some d=>
  refine⟨h.1,?_⟩
  have h2:=h.2
  split at h2
  ·rename_i hh;rw[if_pos hh];exact zvP hk h2
  ·rename_i hh;rw[if_neg hh];exact hk _ h2
theorem zqd (hk:∀pf,K pf→K2 pf) {d:Option Tmp}{pf:PFr}{x:Option AD}(h:pad c K d pf x):pad c K2 d pf x:=by
 cases x with
 |none=>exact h
 |some x=>exact zay hk h
theorem zgV (hk:∀pf,K pf→K2 pf) {o:Oper}{pf:PFr}(h:zdX P c o K pf):zdX P c o K2 pf:=by
 unfold zdX at h⊢
 split at h
 ·split at h
  ·exact zay hk h
  ·exact h
 ·exact h
theorem zoj (hk:∀pf,K pf→K2 pf) {d:Option Tmp}{r:PV}{x:Option PFr}(h:zsC c d K r x):zsC c d K2 r x:=by
 cases x with
 |none=>exact h
 |some x=>exact zay hk h
theorem zlR (hk:∀pf,K pf→K2 pf) {f:Operand}{args:List Operand}{ts:List TypeId}{d:Option Tmp}{pf:PFr}{ms:List Md}(h:zkC P c f args ts d K pf ms):zkC P c f args ts d K2 pf ms:=by
 refine⟨h.1,?_⟩
 have h2:=h.2
 unfold zpD at h2⊢
 split at h2
 ·unfold zhB at h2⊢
  split at h2
  ·exact h2.mono fun r outs hh=>⟨hh.1,zoj hk hh.2⟩
  ·exact h2
 ·exact h2
theorem zrc (hk:∀pf,K pf→K2 pf) {f:Operand}{d:Option Tmp}{l:List (Md×Nat×Operand)}{x:Nat×FuncId×List PV}{y:Option (List PV×PFr)}(h:zkF P c f d K l x y):zkF P c f d K2 l x y:=by
 unfold zkF at h⊢
 split at h
 ·refine⟨h.1,?_⟩
  have h2:=h.2
  unfold zhB at h2⊢
  split at h2
  ·exact h2.mono fun r outs hh=>⟨hh.1,zoj hk hh.2⟩
  ·exact h2
 ·exact h
theorem zsu (hk:∀pf,K pf→K2 pf) {op:BinOp}{t:TypeId}{x:Operand}{d:Option Tmp}{pf:PFr}(h:zjN P c op t x d K pf):zjN P c op t x d K2 pf:=by
 unfold zjN at h⊢
 split at h
 ·exact⟨h.1,fun b hb=>zay hk (h.2 b hb)⟩
 ·exact h
theorem zsS (hk:∀pf,K pf→K2 pf) {s t:TypeId}{x:Operand}{d:Option Tmp}{pf:PFr}(h:zhX P c s t x d K pf):zhX P c s t x d K2 pf:=by
 unfold zhX at h⊢
 split at h
 ·exact⟨h.1,zay hk h.2⟩
 ·exact h
theorem zj2 (hk:∀pf,K pf→K2 pf) {o:Oper}{pf:PFr}(h:pop P c o K pf):pop P c o K2 pf:=by
 unfold pop at h⊢
 split at h
 ·unfold zlu at h⊢
  split at h
  ·unfold zlk at h⊢
   split at h
   ·exact zay hk h
   ·exact h
  ·split at h
   ·exact zay hk h
   ·exact h
 ·unfold zji at h⊢
  split at h
  ·refine⟨h.1,h.2.1,?_⟩
   have h3:=h.2.2
   unfold zib at h3⊢
   split at h3
   ·split at h3
    ·exact hk _ h3
    ·exact h3
   ·exact h3
  ·exact h
 ·exact zqd hk h
 ·unfold zjp at h⊢
  split at h
  ·exact zay hk h
  ·split at h
   ·exact zay hk h
   ·exact h
 ·exact zqd hk h
 ·unfold zjr at h⊢
  split at h
  ·refine⟨h.1,?_⟩
   have h3:=h.2
   split at h3
   ·rename_i hh;rw[if_pos hh];exact hk _ h3
   ·rename_i hh;rw[if_neg hh];exact hk _ h3
  ·exact h
 ·unfold znV at h⊢
  split at h
  ·refine⟨h.1,h.2.1,h.2.2.1,?_⟩
   have h3:=h.2.2.2
   split at h3
   ·rename_i hh;rw[if_pos hh]
    split at h3
    ·rename_i hh;rw[if_pos hh];exact hk _ h3
    ·rename_i hh;rw[if_neg hh];exact hk _ h3
   ·rename_i hh;rw[if_neg hh];exact hk _ h3
  ·exact h
 ·unfold znF at h⊢
  split at h
  ·rename_i hm
   rw[if_pos hm]
   unfold zmK at h⊢
   split at h
   ·exact zay hk h
   ·exact h
  rename_i hm
  rw[if_neg hm]
  split at h
  ·refine⟨h.1,?_⟩
   have h3:=h.2
   unfold zoR at h3⊢
   split at h3
   ·exact⟨h3.1,hk _ h3.2⟩
   ·exact h3
  ·exact h
 ·unfold zjx at h⊢
  split at h
  ·unfold zs7 at h⊢
   split at h
   ·exact zay hk h
   ·exact h
  ·exact h
 ·unfold zlg zsl at h⊢
  split at h
  ·split at h
   ·exact zay hk h
   ·exact h
  ·split at h
   ·exact zay hk h
   ·exact h
  ·exact h
 ·unfold zlo at h⊢
  split at h
  ·unfold zsX at h⊢
   split at h
   ·exact⟨h.1,zay hk h.2⟩
   ·exact h
  ·exact h
 ·unfold zlw at h⊢
  split at h
  ·rename_i hb
   rw[if_pos hb]
   split at h
   ·exact zay hk h
   ·exact h
  ·rename_i hb
   rw[if_neg hb]
   split at h
   ·exact zay hk h
   ·exact h
 ·unfold zgS at h⊢
  split at h
  ·unfold zfM at h⊢
   split at h
   ·refine⟨h.1,?_⟩
    have h3:=h.2
    split at h3
    ·rename_i hh;rw[if_pos hh];exact zay hk h3
    ·rename_i hh;rw[if_neg hh];exact zay hk h3
   ·exact⟨h.1,zay hk h.2⟩
   ·exact zay hk h
   ·exact h
   ·exact h
   ·split at h
    ·rename_i hh
     rw[if_pos hh]
     split at h
     ·exact zay hk h
     ·exact h
    ·rename_i hh
     rw[if_neg hh]
     exact zay hk h
   ·exact zay hk h
  ·split at h
   ·exact zay hk h
   ·exact h
 ·unfold zie at h⊢
  split at h
  ·exact zay hk h
  ·split at h
   ·exact zay hk h
   ·exact h
 ·unfold zhh at h⊢
  split at h
  ·refine⟨h.1,?_⟩
   have h2:=h.2
   unfold pex at h2⊢
   split at h2
   ·refine⟨h2.1,?_⟩
    have h3:=h2.2
    split at h3
    ·rename_i hh;rw[if_pos hh];exact zay hk h3
    ·rename_i hh;rw[if_neg hh];exact zay hk h3
   ·exact h2
  ·exact h
 ·split at h
  ·rename_i hh;rw[if_pos hh];exact zgV hk h
  ·rename_i hh;rw[if_neg hh]
   unfold zjA at h⊢
   split at h
   ·unfold znT at h⊢
    split at h
    ·split at h
     ·exact zay hk h
     ·exact h
    ·split at h
     ·exact⟨h.1,h.2.1,zay hk h.2.2⟩
     ·exact h
    ·exact h
   ·exact h
 ·unfold zsy at h⊢
  split at h
  ·split at h
   ·rename_i hh;rw[if_pos hh];exact zgV hk h
   ·rename_i hh;rw[if_neg hh]
    unfold zmm at h⊢
    split at h
    ·split at h
     ·exact fun hl=>zay hk (h hl)
     ·exact h
    ·exact h
  ·exact h
 ·unfold zrX at h⊢
  split at h
  ·split at h
   ·rename_i htt
    rw[if_pos htt]
    unfold znz at h⊢
    split at h
    ·unfold zoM at h⊢
     split at h
     ·split at h
      ·unfold zoX at h⊢
       split at h
       ·exact⟨h.1,h.2.1,zay hk h.2.2⟩
       ·exact h
      ·exact h
     ·exact h
    ·exact h
   ·rename_i htt
    rw[if_neg htt]
    unfold zmE at h⊢
    split at h
    ·refine⟨h.1,?_⟩
     have h:=h.2
     unfold zrV at h⊢
     split at h
     ·split at h
      ·exact⟨h.1,zay hk h.2⟩
      ·exact h
     ·exact h
    ·exact h
  ·exact h
 ·rcases h with⟨ms,h⟩|⟨g,x,t,n,z,a1,a2,a3,a4,a5,a6,h⟩|⟨ms,x,a1,a2,h⟩
  ·exact .inl ⟨ms,zlR hk h⟩
  ·exact .inr (.inl ⟨g,x,t,n,z,a1,a2,a3,a4,a5,a6,zay hk h⟩)
  ·exact .inr (.inr ⟨ms,x,a1,a2,zrc hk h⟩)
 all_goals first
  |exact zgV hk h
  | (split at h
     ·rename_i hh;rw[if_pos hh];exact⟨h.1,zsu hk h.2⟩
     ·rename_i hh;rw[if_neg hh];exact zgV hk h)
  | (split at h
     ·rename_i hh;rw[if_pos hh];exact⟨h.1,zsS hk h.2⟩
     ·rename_i hh;rw[if_neg hh];exact zgV hk h)
  |exact h
theorem zs4 (hk:∀pf,K pf→K2 pf) {d:Option Tmp}{pf:PFr}(h:zht c d K pf):zht c d K2 pf:=by
 cases d with
 |none=>exact hk _ h
 |some d=>exact⟨h.1,hk _ h.2⟩
theorem zpY (hk:∀pf,K pf→K2 pf) {b:Bool}{d:Option Tmp}{r r2:Prop}(hr:r→r2) {pf:PFr}{y:Option (Option Bool)}(h:pgo c b d r K pf y):pgo c b d r2 K2 pf y:=by
 unfold pgo at h⊢
 split at h
 ·split at h
  ·rename_i hh;rw[if_pos hh];exact hr h
  ·rename_i hh;rw[if_neg hh];exact zs4 hk h
 ·exact h
theorem zur {pre:List (Option Tmp)}:∀{l:List Oper}{K K2:PFr→Prop}(_:∀pf,K pf→K2 pf) {pf:PFr},zl7 P c pre l K pf→zl7 P c pre l K2 pf:=by
 intro l
 induction l with
 |nil=>intro K K2 hk pf h;exact hk _ h
 |cons o l ih=>
  intro K K2 hk pf h
  simp only[zl7,zla]at h⊢
  split at h
  ·exact zj2 (fun _ hh=>ih hk hh) h
  ·exact zpY (fun _ hh=>ih hk hh) (zj2 fun _ hh=>ih hk hh) h
theorem zor (hk:∀pf,K pf→K2 pf) {ext:Bool}{o:Oper}{pf:PFr}(h:zhQ P c ext o K pf):zhQ P c ext o K2 pf:=by
 unfold zhQ at h⊢
 split at h
 ·split at h
  ·rename_i hx;rw[if_pos hx];exact zlR hk h
  ·rename_i hx;rw[if_neg hx];exact zj2 hk h
 ·exact⟨h.1,zj2 hk h.2⟩
theorem zsn {pre:List (Option Tmp)}:∀{l:List (DE×Oper)}{K K2:PFr→Prop}(_:∀pf,K pf→K2 pf) {pf:PFr},zly P c pre l K pf→zly P c pre l K2 pf:=by
 intro l
 induction l with
 |nil=>intro K K2 hk pf h;exact hk _ h
 |cons x l ih=>
  obtain⟨e,o⟩:=x
  intro K K2 hk pf h
  refine⟨h.1,?_⟩
  have h2:=h.2
  unfold znr at h2⊢
  split at h2
  ·exact zor (fun _ hh=>ih hk hh) h2
  ·exact zpY (fun _ hh=>ih hk hh) (zor fun _ hh=>ih hk hh) h2
theorem zl6:∀(x:Code) {Q Q2:Exit→PFr→Prop},(∀e pf,Q e pf→Q2 e pf)→∀{pf},pwp P c x Q pf→pwp P c x Q2 pf:=by
 intro x
 induction x with
 |skip=>intro Q Q2 hq pf h;exact hq _ _ h
 |region id ops draw=>
  intro Q Q2 hq pf h
  simp only[pwp]at h⊢
  split at h
  ·rename_i hd
   rw[if_pos hd]
   obtain⟨a,n,h⟩:=h
   exact⟨a,n,zjd (fun _=>zsn (hq .normal)) h⟩
  ·rename_i hd;rw[if_neg hd];exact zur (hq .normal) h
 |seq x y ihx ihy=>
  intro Q Q2 hq pf h
  refine ihx (fun e pf h=>?_) h
  cases e<;>try exact hq _ _ h
  obtain⟨pf2,hw,h⟩:=h
  exact⟨pf2,hw,ihy hq h⟩
 |cond b x y ihx ihy=>
  intro Q Q2 hq pf h
  obtain⟨pf2,hw,h⟩:=h
  refine⟨pf2,hw,?_⟩
  unfold zvE at h⊢
  split at h
  ·split at h
   ·rename_i e;rw[if_pos e];exact ihx hq h
   ·rename_i e;rw[if_neg e];exact ihy hq h
  ·exact h
 |block id b ih=>
  intro Q Q2 hq pf h
  refine ih (fun e pf h=>?_) h
  cases e<;>try exact hq _ _ h
  simp only[zkG]at h⊢
  split at h
  ·rename_i e;rw[if_pos e];exact hq _ _ h
  ·rename_i e;rw[if_neg e];exact hq _ _ h
 |loop b ih=>
  intro Q Q2 hq pf h
  obtain⟨n,hn⟩:=h
  refine⟨n,?_⟩
  induction n generalizing pf with
  |zero=>exact hn
  |succ n ihn=>
   obtain⟨pf2,hw,hn⟩:=hn
   refine⟨pf2,hw,ih (fun e pf h=>?_) hn⟩
   cases e<;>first|exact ihn h|exact hq _ _ h
 |exit id=>intro Q Q2 hq pf h;exact hq _ _ h
 |ret=>intro Q Q2 hq pf h;exact hq _ _ h
 |_=>intros;rename_i h;exact absurd h (by simp[pwp])
end
section
variable {P:Program}{c:Cfg}{k:List PIt}{Q:Exit→PFr→Prop}{pf:PFr}
theorem zv1 {pf':PFr}(h:pf=pf'):pw P c k Q pf=pw P c k Q pf':=by rw[h]
@[go_sem ↓] theorem zM4:pw P c [] Q pf=Q .normal pf:=rfl
@[go_sem ↓] theorem zLX {i:Nat}:pw P c (.blk i::k) Q pf=pw P c k Q pf:=rfl
@[go_sem ↓] theorem zLn:pw P c (.code .skip::k) Q pf=pw P c k Q pf:=rfl
@[go_sem ↓] theorem zqv {x y:Code}:pw P c (.code (.seq x y)::k) Q pf=pw P c (.code x::.wk y::k) Q pf:=by
 show pwp P c x (zwa (fun pf=>∃pf2,PWeak pf2 pf∧pwp P c y (zbG P c k Q) pf2) (zbG P c k Q)) pf=pwp P c x (zbG P c (.wk y::k) Q) pf
 congr 1
 funext e
 cases e<;>rfl
@[go_sem ↓] theorem pw_block {id:Nat}{b:Code}:pw P c (.code (.block id b)::k) Q pf=pw P c (.code b::.blk id::k) Q pf:=by
 show pwp P c b (zkG id (zbG P c k Q)) pf=pwp P c b (zbG P c (.blk id::k) Q) pf
 congr 1
 funext e
 cases e<;>try rfl
 funext pf
 simp only[zkG,zbG]
 split<;>rfl
theorem zkX:zbG P c k Q .ret=Q .ret:=by
 induction k with
 |nil=>rfl
 |cons it k ih=>exact ih
@[go_sem ↓] theorem zN3:pw P c (.code .ret::k) Q pf=Q .ret pf:=by
 show zbG P c k Q .ret pf=_
 rw[zkX]
def pwx (P:Program) (c:Cfg) (id:Nat) (k:List PIt) (Q:Exit→PFr→Prop) (pf:PFr):Prop:=zbG P c k Q (.exit id) pf
@[go_sem ↓] theorem zLA {id:Nat}:pw P c (.code (.exit id)::k) Q pf=pwx P c id k Q pf:=rfl
@[go_sem ↓] theorem zI6 {id:Nat}:pwx P c id [] Q pf=Q (.exit id) pf:=rfl
@[go_sem ↓] theorem zEj {id:Nat}{x:Code}:pwx P c id (.code x::k) Q pf=pwx P c id k Q pf:=rfl
@[go_sem ↓] theorem zNX {id:Nat}{x:Code}:pwx P c id (.wk x::k) Q pf=pwx P c id k Q pf:=rfl
@[go_sem ↓] theorem zIC {id:Nat}{pre:List (Option Tmp)}{l:List Oper}:pwx P c id (.ops pre l::k) Q pf=pwx P c id k Q pf:=rfl
@[go_sem ↓] theorem zEy {id:Nat}{pre:List (Option Tmp)}{l:List (DE×Oper)}:pwx P c id (.dops pre l::k) Q pf=pwx P c id k Q pf:=rfl
@[go_sem ↓] theorem zIY {id i:Nat}:pwx P c id (.blk i::k) Q pf=if id=i then pw P c k Q pf else pwx P c id k Q pf:=by
 show(zbG P c (.blk i::k) Q (.exit id)) pf=_
 simp only[zbG]
 split<;>rfl
def PFr.ofL:List (Nat×PF)→PFr
 |[],_=>jP
 |(s,x)::l,t=>if t=s then x else PFr.ofL l t
def zcm:List (Nat×PF)→PFr→Prop
 |[],_=>True
 |(s,x)::l,pf=>pf s=x∧zcm l pf
@[go_sem] theorem zCA {pf:PFr}:zcm [] pf=True:=rfl
@[go_sem] theorem zzH {s:Nat}{x:PF}{l:List (Nat×PF)}{pf:PFr}:zcm ((s,x)::l) pf=(pf s=x∧zcm l pf):=rfl
theorem zqc:∀{l:List (Nat×PF)}{pf:PFr},zcm l pf→∀t,PFr.ofL l t=pf t∨PFr.ofL l t=jP:=by
 intro l
 induction l with
 |nil=>intro pf _ t;exact .inr rfl
 |cons p l ih=>
  intro pf h t
  obtain⟨s,x⟩:=p
  obtain⟨h1,h2⟩:=h
  by_cases e:t=s
  ·subst e;left;simp[PFr.ofL,h1]
  ·rcases ih h2 t with e2|e2
   ·left;simpa[PFr.ofL,e]using e2
   ·right;simpa[PFr.ofL,e]using e2
theorem zhr {l:List (Nat×PF)}{pf:PFr}(h:zcm l pf):PWeak (PFr.ofL l) pf:=.w (zqc h)
theorem znq:PWeak pf pf:=.w fun _=>.inl rfl
theorem zar {x:Code}(h:pw P c (.code x::k) Q pf):pw P c (.wk x::k) Q pf:=⟨pf,znq,h⟩
theorem zkI {x:Code}(l:List (Nat×PF)) (ha:zcm l pf) (h:pw P c (.code x::k) Q (PFr.ofL l)):pw P c (.wk x::k) Q pf:=⟨PFr.ofL l,zhr ha,h⟩
theorem zl2 {b:Operand}{x y:Code}{v:Bool}(hb:rdS pf b=some (.bool v)) (ht:v=true→pw P c (.code x::k) Q pf) (he:v=false→pw P c (.code y::k) Q pf):
 pw P c (.code (.cond b x y)::k) Q pf:=by
 refine⟨pf,znq,?_⟩
 rw[hb]
 cases v
 ·exact he rfl
 ·exact ht rfl
theorem zk1 {b:Operand}{x y:Code}(hb:rdS pf b=some (.bool true)) (ht:pw P c (.code x::k) Q pf):pw P c (.code (.cond b x y)::k) Q pf:=zl2 hb (fun _=>ht) (fun h=>by cases h)
theorem zkR {b:Operand}{x y:Code}(hb:rdS pf b=some (.bool false)) (ht:pw P c (.code y::k) Q pf):pw P c (.code (.cond b x y)::k) Q pf:=zl2 hb (fun h=>by cases h) (fun _=>ht)
def zt9 {σ:Type}(shape:σ→List (Nat×PF)) (I:σ→Prop) (meas:σ→Nat) (n:Nat) (pf:PFr):Prop:=∃s,zcm (shape s) pf∧I s∧meas s<n
def zpK {σ:Type}(P:Program) (c:Cfg) (shape:σ→List (Nat×PF)) (I:σ→Prop) (meas:σ→Nat) (n:Nat) (k:List PIt) (Q:Exit→PFr→Prop):Exit→PFr→Prop
 | .normal,pf=>zt9 shape I meas n pf
 |e,pf=>zbG P c k Q e pf
@[go_sem ↓] theorem zxS {σ:Type}{shape:σ→List (Nat×PF)}{I:σ→Prop}{meas:σ→Nat}{n:Nat}:zpK P c shape I meas n k Q .normal pf=zt9 shape I meas n pf:=rfl
@[go_sem ↓] theorem zzy {σ:Type}{shape:σ→List (Nat×PF)}{I:σ→Prop}{meas:σ→Nat}{n id:Nat}:zpK P c shape I meas n k Q (.exit id) pf=pwx P c id k Q pf:=rfl
@[go_sem ↓] theorem zBY {σ:Type}{shape:σ→List (Nat×PF)}{I:σ→Prop}{meas:σ→Nat}{n:Nat}:zpK P c shape I meas n k Q .ret pf=Q .ret pf:=by
 show zbG P c k Q .ret pf=_
 rw[zkX]
end
end Go.Pm
