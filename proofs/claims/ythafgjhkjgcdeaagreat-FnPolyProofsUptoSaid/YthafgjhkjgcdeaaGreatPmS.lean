import Derived.Test.YthafgjhkjgcdeaaGreatPmR
namespace Go.Pm
open Go.Am
inductive PIt where
 |code (c:Code)
 |wk (c:Code)
 |ops (pre:List (Option Tmp)) (l:List Oper)
 |dops (pre:List (Option Tmp)) (l:List (DE×Oper))
 |blk (id:Nat)
def zcb (P:Program) (c:Cfg):List PIt→(Exit→PFr→Prop)→Exit→PFr→Prop
 |[],Q,e=>Q e
 |it::k,Q,e=>match e with
  | .normal=>match it with
   | .code x=>pwp P c x (zcb P c k Q)
   | .wk x=>fun pf=>∃pf2,PWeak pf2 pf∧pwp P c x (zcb P c k Q) pf2
   | .ops pre l=>zmO P c pre l (zcb P c k Q .normal)
   | .dops pre l=>zl0 P c pre l (zcb P c k Q .normal)
   | .blk _=>zcb P c k Q .normal
  | .exit id=>match it with
   | .blk i=>if id=i then zcb P c k Q .normal else zcb P c k Q (.exit id)
   |_=>zcb P c k Q (.exit id)
  |e=>zcb P c k Q e
def pw (P:Program) (c:Cfg) (k:List PIt) (Q:Exit→PFr→Prop) (pf:PFr):Prop:=zcb P c k Q .normal pf
section
variable {P:Program}{c:Cfg}{K K2:PFr→Prop}
theorem zvY (hk:∀pf,K pf→K2 pf) {d:Nat}{x:Option (PF×PFr)}(h:pfz K d x):pfz K2 d x:=by
 cases x with
 |none=>exact h
 |some x=>exact hk _ h
theorem zaO (hk:∀pf,K pf→K2 pf) {d:Option Tmp}{y:PF}{pf:PFr}(h:zbR c K d y pf):zbR c K2 d y pf:=by
 cases d with
 |none=>exact hk _ h
 |some d=>
  refine⟨h.1,?_⟩
  have h2:=h.2
  split at h2
  ·rename_i hh;rw[if_pos hh];exact zvY hk h2
  ·rename_i hh;rw[if_neg hh];exact hk _ h2
theorem zpA (hk:∀pf,K pf→K2 pf) {d:Option Tmp}{pf:PFr}{x:Option AD}(h:pad c K d pf x):pad c K2 d pf x:=by
 cases x with
 |none=>exact h
 |some x=>exact zaO hk h
theorem zhw (hk:∀pf,K pf→K2 pf) {o:Oper}{pf:PFr}(h:zeG P c o K pf):zeG P c o K2 pf:=by
 unfold zeG at h⊢
 split at h
 ·split at h
  ·exact zaO hk h
  ·exact h
 ·exact h
theorem zoM (hk:∀pf,K pf→K2 pf) {d:Option Tmp}{r:PV}{x:Option PFr}(h:zpB c d K r x):zpB c d K2 r x:=by
 cases x with
 |none=>exact h
 |some x=>exact zaO hk h
theorem zmp (hk:∀pf,K pf→K2 pf) {f:Operand}{args:List Operand}{ts:List TypeId}{d:Option Tmp}{pf:PFr}{ms:List Md}(h:zll P c f args ts d K pf ms):zll P c f args ts d K2 pf ms:=by
 refine⟨h.1,?_⟩
 have h2:=h.2
 unfold zqo at h2⊢
 split at h2
 ·unfold zh9 at h2⊢
  split at h2
  ·exact h2.mono fun r outs hh=>⟨hh.1,zoM hk hh.2⟩
  ·exact h2
 ·exact h2
theorem zrt (hk:∀pf,K pf→K2 pf) {f:Operand}{d:Option Tmp}{l:List (Md×Nat×Operand)}{x:Nat×FuncId×List PV}{y:Option (List PV×PFr)}(h:zk2 P c f d K l x y):zk2 P c f d K2 l x y:=by
 unfold zk2 at h⊢
 split at h
 ·refine⟨h.1,?_⟩
  have h2:=h.2
  unfold zh9 at h2⊢
  split at h2
  ·exact h2.mono fun r outs hh=>⟨hh.1,zoM hk hh.2⟩
  ·exact h2
 ·exact h
theorem zsL (hk:∀pf,K pf→K2 pf) {op:BinOp}{t:TypeId}{x:Operand}{d:Option Tmp}{pf:PFr}(h:zkl P c op t x d K pf):zkl P c op t x d K2 pf:=by
 unfold zkl at h⊢
 split at h
 ·exact⟨h.1,fun b hb=>zaO hk (h.2 b hb)⟩
 ·exact h
theorem zsT (hk:∀pf,K pf→K2 pf) {s t:TypeId}{x:Operand}{d:Option Tmp}{pf:PFr}(h:zio P c s t x d K pf):zio P c s t x d K2 pf:=by
 unfold zio at h⊢
 split at h
 ·exact⟨h.1,zaO hk h.2⟩
 ·exact h
theorem zkI (hk:∀pf,K pf→K2 pf) {o:Oper}{pf:PFr}(h:pop P c o K pf):pop P c o K2 pf:=by
 unfold pop at h⊢
 split at h
 ·unfold zlP at h⊢
  split at h
  ·exact zaO hk h
  ·split at h
   ·exact zaO hk h
   ·exact h
 ·unfold zj4 at h⊢
  split at h
  ·refine⟨h.1,h.2.1,?_⟩
   have h3:=h.2.2
   unfold ziN at h3⊢
   split at h3
   ·split at h3
    ·exact hk _ h3
    ·exact h3
   ·exact h3
  ·exact h
 ·exact zpA hk h
 ·unfold zj5 at h⊢
  split at h
  ·exact zaO hk h
  ·split at h
   ·exact zaO hk h
   ·exact h
 ·exact zpA hk h
 ·unfold zjT at h⊢
  split at h
  ·refine⟨h.1,?_⟩
   have h3:=h.2
   split at h3
   ·rename_i hh;rw[if_pos hh];exact hk _ h3
   ·rename_i hh;rw[if_neg hh];exact hk _ h3
  ·exact h
 ·unfold zn8 at h⊢
  split at h
  ·refine⟨h.1,h.2.1,h.2.2.1,?_⟩
   have h3:=h.2.2.2
   split at h3
   ·rename_i hh;rw[if_pos hh]
    split at h3
    ·rename_i hh;rw[if_pos hh];exact hk _ h3
    ·rename_i hh;rw[if_neg hh];exact hk _ h3
   ·rename_i hh;rw[if_neg hh];exact hk _ h3
  ·exact h
 ·unfold zoy at h⊢
  split at h
  ·rename_i hm
   rw[if_pos hm]
   unfold znW at h⊢
   split at h
   ·exact zaO hk h
   ·exact h
  rename_i hm
  rw[if_neg hm]
  split at h
  ·refine⟨h.1,?_⟩
   have h3:=h.2
   unfold zps at h3⊢
   split at h3
   ·exact⟨h3.1,hk _ h3.2⟩
   ·exact h3
  ·exact h
 ·unfold zjU at h⊢
  split at h
  ·unfold zsX at h⊢
   split at h
   ·exact zaO hk h
   ·exact h
  ·exact h
 ·unfold zl1 zst at h⊢
  split at h
  ·split at h
   ·exact zaO hk h
   ·exact h
  ·split at h
   ·exact zaO hk h
   ·exact h
  ·exact h
 ·unfold zlR at h⊢
  split at h
  ·unfold zs4 at h⊢
   split at h
   ·exact⟨h.1,zaO hk h.2⟩
   ·exact h
  ·exact h
 ·unfold zlN at h⊢
  split at h
  ·rename_i hb
   rw[if_pos hb]
   split at h
   ·exact zaO hk h
   ·exact h
  ·rename_i hb
   rw[if_neg hb]
   split at h
   ·exact zaO hk h
   ·exact h
 ·unfold zhx at h⊢
  split at h
  ·unfold zgk at h⊢
   split at h
   ·refine⟨h.1,?_⟩
    have h3:=h.2
    split at h3
    ·rename_i hh;rw[if_pos hh];exact zaO hk h3
    ·rename_i hh;rw[if_neg hh];exact zaO hk h3
   ·exact⟨h.1,zaO hk h.2⟩
   ·exact zaO hk h
   ·exact h
   ·exact h
   ·split at h
    ·rename_i hh
     rw[if_pos hh]
     split at h
     ·exact zaO hk h
     ·exact h
    ·rename_i hh
     rw[if_neg hh]
     exact zaO hk h
   ·exact zaO hk h
  ·split at h
   ·exact zaO hk h
   ·exact h
 ·unfold ziM at h⊢
  split at h
  ·exact zaO hk h
  ·split at h
   ·exact zaO hk h
   ·exact h
 ·unfold zhY at h⊢
  split at h
  ·refine⟨h.1,?_⟩
   have h2:=h.2
   unfold pex at h2⊢
   split at h2
   ·refine⟨h2.1,?_⟩
    have h3:=h2.2
    split at h3
    ·rename_i hh;rw[if_pos hh];exact zaO hk h3
    ·rename_i hh;rw[if_neg hh];exact zaO hk h3
   ·exact h2
  ·exact h
 ·split at h
  ·rename_i hh;rw[if_pos hh];exact zhw hk h
  ·rename_i hh;rw[if_neg hh]
   unfold zjP at h⊢
   split at h
   ·unfold zob at h⊢
    split at h
    ·split at h
     ·exact zaO hk h
     ·exact h
    ·split at h
     ·exact⟨h.1,h.2.1,zaO hk h.2.2⟩
     ·exact h
    ·exact h
   ·exact h
 ·unfold zsx at h⊢
  split at h
  ·split at h
   ·rename_i hh;rw[if_pos hh];exact zhw hk h
   ·rename_i hh;rw[if_neg hh]
    unfold zmH at h⊢
    split at h
    ·split at h
     ·exact fun hl=>zaO hk (h hl)
     ·exact h
    ·exact h
  ·exact h
 ·unfold ztr at h⊢
  split at h
  ·split at h
   ·rename_i htt
    rw[if_pos htt]
    unfold zn2 at h⊢
    split at h
    ·unfold zpt at h⊢
     split at h
     ·split at h
      ·unfold zpr at h⊢
       split at h
       ·exact⟨h.1,h.2.1,zaO hk h.2.2⟩
       ·exact h
      ·exact h
     ·exact h
    ·exact h
   ·rename_i htt
    rw[if_neg htt]
    unfold znc at h⊢
    split at h
    ·refine⟨h.1,?_⟩
     have h:=h.2
     unfold ztz at h⊢
     split at h
     ·split at h
      ·exact⟨h.1,zaO hk h.2⟩
      ·exact h
     ·exact h
    ·exact h
  ·exact h
 ·rcases h with⟨ms,h⟩|⟨g,x,t,n,z,a1,a2,a3,a4,a5,a6,h⟩|⟨ms,x,a1,a2,h⟩
  ·exact .inl ⟨ms,zmp hk h⟩
  ·exact .inr (.inl ⟨g,x,t,n,z,a1,a2,a3,a4,a5,a6,zaO hk h⟩)
  ·exact .inr (.inr ⟨ms,x,a1,a2,zrt hk h⟩)
 all_goals first
  |exact zhw hk h
  | (split at h
     ·rename_i hh;rw[if_pos hh];exact⟨h.1,zsL hk h.2⟩
     ·rename_i hh;rw[if_neg hh];exact zhw hk h)
  | (split at h
     ·rename_i hh;rw[if_pos hh];exact⟨h.1,zsT hk h.2⟩
     ·rename_i hh;rw[if_neg hh];exact zhw hk h)
  |exact h
theorem ztd (hk:∀pf,K pf→K2 pf) {d:Option Tmp}{pf:PFr}(h:zh7 c d K pf):zh7 c d K2 pf:=by
 cases d with
 |none=>exact hk _ h
 |some d=>exact⟨h.1,hk _ h.2⟩
theorem zqH (hk:∀pf,K pf→K2 pf) {b:Bool}{d:Option Tmp}{r r2:Prop}(hr:r→r2) {pf:PFr}{y:Option (Option Bool)}(h:pgo c b d r K pf y):pgo c b d r2 K2 pf y:=by
 unfold pgo at h⊢
 split at h
 ·split at h
  ·rename_i hh;rw[if_pos hh];exact hr h
  ·rename_i hh;rw[if_neg hh];exact ztd hk h
 ·exact h
theorem ztX {pre:List (Option Tmp)}:∀{l:List Oper}{K K2:PFr→Prop}(_:∀pf,K pf→K2 pf) {pf:PFr},zmO P c pre l K pf→zmO P c pre l K2 pf:=by
 intro l
 induction l with
 |nil=>intro K K2 hk pf h;exact hk _ h
 |cons o l ih=>
  intro K K2 hk pf h
  simp only[zmO,zk9]at h⊢
  split at h
  ·exact zkI (fun _ hh=>ih hk hh) h
  ·exact zqH (fun _ hh=>ih hk hh) (zkI fun _ hh=>ih hk hh) h
theorem zoN (hk:∀pf,K pf→K2 pf) {ext:Bool}{o:Oper}{pf:PFr}(h:zih P c ext o K pf):zih P c ext o K2 pf:=by
 unfold zih at h⊢
 split at h
 ·split at h
  ·rename_i hx;rw[if_pos hx];exact zmp hk h
  ·rename_i hx;rw[if_neg hx];exact zkI hk h
 ·exact⟨h.1,zkI hk h.2⟩
theorem zsu {pre:List (Option Tmp)}:∀{l:List (DE×Oper)}{K K2:PFr→Prop}(_:∀pf,K pf→K2 pf) {pf:PFr},zl0 P c pre l K pf→zl0 P c pre l K2 pf:=by
 intro l
 induction l with
 |nil=>intro K K2 hk pf h;exact hk _ h
 |cons x l ih=>
  obtain⟨e,o⟩:=x
  intro K K2 hk pf h
  refine⟨h.1,?_⟩
  have h2:=h.2
  unfold znP at h2⊢
  split at h2
  ·exact zoN (fun _ hh=>ih hk hh) h2
  ·exact zqH (fun _ hh=>ih hk hh) (zoN fun _ hh=>ih hk hh) h2
theorem zmC:∀(x:Code) {Q Q2:Exit→PFr→Prop},(∀e pf,Q e pf→Q2 e pf)→∀{pf},pwp P c x Q pf→pwp P c x Q2 pf:=by
 intro x
 induction x with
 |skip=>intro Q Q2 hq pf h;exact hq _ _ h
 |region id ops draw=>
  intro Q Q2 hq pf h
  simp only[pwp]at h⊢
  split at h
  ·rename_i hd
   rw[if_pos hd]
   obtain⟨a,n,h⟩:=h
   exact⟨a,n,zjJ (fun _=>zsu (hq .normal)) h⟩
  ·rename_i hd;rw[if_neg hd];exact ztX (hq .normal) h
 |seq x y ihx ihy=>
  intro Q Q2 hq pf h
  refine ihx (fun e pf h=>?_) h
  cases e<;>try exact hq _ _ h
  obtain⟨pf2,hw,h⟩:=h
  exact⟨pf2,hw,ihy hq h⟩
 |cond b x y ihx ihy=>
  intro Q Q2 hq pf h
  obtain⟨pf2,hw,h⟩:=h
  refine⟨pf2,hw,?_⟩
  unfold zvR at h⊢
  split at h
  ·split at h
   ·rename_i e;rw[if_pos e];exact ihx hq h
   ·rename_i e;rw[if_neg e];exact ihy hq h
  ·exact h
 |block id b ih=>
  intro Q Q2 hq pf h
  refine ih (fun e pf h=>?_) h
  cases e<;>try exact hq _ _ h
  simp only[zkU]at h⊢
  split at h
  ·rename_i e;rw[if_pos e];exact hq _ _ h
  ·rename_i e;rw[if_neg e];exact hq _ _ h
 |loop b ih=>
  intro Q Q2 hq pf h
  obtain⟨n,hn⟩:=h
  refine⟨n,?_⟩
  induction n generalizing pf with
  |zero=>exact hn
  |succ n ihn=>
   obtain⟨pf2,hw,hn⟩:=hn
   refine⟨pf2,hw,ih (fun e pf h=>?_) hn⟩
   cases e<;>first|exact ihn h|exact hq _ _ h
 |exit id=>intro Q Q2 hq pf h;exact hq _ _ h
 |ret=>intro Q Q2 hq pf h;exact hq _ _ h
 |_=>intros;rename_i h;exact absurd h (by simp[pwp])
end
section
variable {P:Program}{c:Cfg}{k:List PIt}{Q:Exit→PFr→Prop}{pf:PFr}
theorem zvH {pf':PFr}(h:pf=pf'):pw P c k Q pf=pw P c k Q pf':=by rw[h]
@[go_sem ↓] theorem zOf:pw P c [] Q pf=Q .normal pf:=rfl
@[go_sem ↓] theorem zNK {i:Nat}:pw P c (.blk i::k) Q pf=pw P c k Q pf:=rfl
@[go_sem ↓] theorem zJy:pw P c (.code .skip::k) Q pf=pw P c k Q pf:=rfl
@[go_sem ↓] theorem zpL {x y:Code}:pw P c (.code (.seq x y)::k) Q pf=pw P c (.code x::.wk y::k) Q pf:=by
 show pwp P c x (zwe (fun pf=>∃pf2,PWeak pf2 pf∧pwp P c y (zcb P c k Q) pf2) (zcb P c k Q)) pf=pwp P c x (zcb P c (.wk y::k) Q) pf
 congr 1
 funext e
 cases e<;>rfl
@[go_sem ↓] theorem pw_block {id:Nat}{b:Code}:pw P c (.code (.block id b)::k) Q pf=pw P c (.code b::.blk id::k) Q pf:=by
 show pwp P c b (zkU id (zcb P c k Q)) pf=pwp P c b (zcb P c (.blk id::k) Q) pf
 congr 1
 funext e
 cases e<;>try rfl
 funext pf
 simp only[zkU,zcb]
 split<;>rfl
theorem zld:zcb P c k Q .ret=Q .ret:=by
 induction k with
 |nil=>rfl
 |cons it k ih=>exact ih
@[go_sem ↓] theorem zND:pw P c (.code .ret::k) Q pf=Q .ret pf:=by
 show zcb P c k Q .ret pf=_
 rw[zld]
def pwx (P:Program) (c:Cfg) (id:Nat) (k:List PIt) (Q:Exit→PFr→Prop) (pf:PFr):Prop:=zcb P c k Q (.exit id) pf
@[go_sem ↓] theorem zK8 {id:Nat}:pw P c (.code (.exit id)::k) Q pf=pwx P c id k Q pf:=rfl
@[go_sem ↓] theorem zKn {id:Nat}:pwx P c id [] Q pf=Q (.exit id) pf:=rfl
@[go_sem ↓] theorem zIl {id:Nat}{x:Code}:pwx P c id (.code x::k) Q pf=pwx P c id k Q pf:=rfl
@[go_sem ↓] theorem zMY {id:Nat}{x:Code}:pwx P c id (.wk x::k) Q pf=pwx P c id k Q pf:=rfl
@[go_sem ↓] theorem zJv {id:Nat}{pre:List (Option Tmp)}{l:List Oper}:pwx P c id (.ops pre l::k) Q pf=pwx P c id k Q pf:=rfl
@[go_sem ↓] theorem zFB {id:Nat}{pre:List (Option Tmp)}{l:List (DE×Oper)}:pwx P c id (.dops pre l::k) Q pf=pwx P c id k Q pf:=rfl
@[go_sem ↓] theorem zJN {id i:Nat}:pwx P c id (.blk i::k) Q pf=if id=i then pw P c k Q pf else pwx P c id k Q pf:=by
 show(zcb P c (.blk i::k) Q (.exit id)) pf=_
 simp only[zcb]
 split<;>rfl
def PFr.ofL:List (Nat×PF)→PFr
 |[],_=>jP
 |(s,x)::l,t=>if t=s then x else PFr.ofL l t
def zcP:List (Nat×PF)→PFr→Prop
 |[],_=>True
 |(s,x)::l,pf=>pf s=x∧zcP l pf
@[go_sem] theorem zCA {pf:PFr}:zcP [] pf=True:=rfl
@[go_sem] theorem zAf {s:Nat}{x:PF}{l:List (Nat×PF)}{pf:PFr}:zcP ((s,x)::l) pf=(pf s=x∧zcP l pf):=rfl
theorem zqN:∀{l:List (Nat×PF)}{pf:PFr},zcP l pf→∀t,PFr.ofL l t=pf t∨PFr.ofL l t=jP:=by
 intro l
 induction l with
 |nil=>intro pf _ t;exact .inr rfl
 |cons p l ih=>
  intro pf h t
  obtain⟨s,x⟩:=p
  obtain⟨h1,h2⟩:=h
  by_cases e:t=s
  ·subst e;left;simp[PFr.ofL,h1]
  ·rcases ih h2 t with e2|e2
   ·left;simpa[PFr.ofL,e]using e2
   ·right;simpa[PFr.ofL,e]using e2
theorem zh2 {l:List (Nat×PF)}{pf:PFr}(h:zcP l pf):PWeak (PFr.ofL l) pf:=.w (zqN h)
theorem znn:PWeak pf pf:=.w fun _=>.inl rfl
theorem zaD {x:Code}(h:pw P c (.code x::k) Q pf):pw P c (.wk x::k) Q pf:=⟨pf,znn,h⟩
theorem zlt {x:Code}(l:List (Nat×PF)) (ha:zcP l pf) (h:pw P c (.code x::k) Q (PFr.ofL l)):pw P c (.wk x::k) Q pf:=⟨PFr.ofL l,zh2 ha,h⟩
theorem zmR {b:Operand}{x y:Code}{v:Bool}(hb:rdS pf b=some (.bool v)) (ht:v=true→pw P c (.code x::k) Q pf) (he:v=false→pw P c (.code y::k) Q pf):
 pw P c (.code (.cond b x y)::k) Q pf:=by
 refine⟨pf,znn,?_⟩
 rw[hb]
 cases v
 ·exact he rfl
 ·exact ht rfl
theorem zjj {b:Operand}{x y:Code}(hb:rdS pf b=some (.bool true)) (ht:pw P c (.code x::k) Q pf):pw P c (.code (.cond b x y)::k) Q pf:=zmR hb (fun _=>ht) (fun h=>by cases h)
theorem zlm {b:Operand}{x y:Code}(hb:rdS pf b=some (.bool false)) (ht:pw P c (.code y::k) Q pf):pw P c (.code (.cond b x y)::k) Q pf:=zmR hb (fun h=>by cases h) (fun _=>ht)
def ztO {σ:Type}(shape:σ→List (Nat×PF)) (I:σ→Prop) (meas:σ→Nat) (n:Nat) (pf:PFr):Prop:=∃s,zcP (shape s) pf∧I s∧meas s<n
def zpC {σ:Type}(P:Program) (c:Cfg) (shape:σ→List (Nat×PF)) (I:σ→Prop) (meas:σ→Nat) (n:Nat) (k:List PIt) (Q:Exit→PFr→Prop):Exit→PFr→Prop
 | .normal,pf=>ztO shape I meas n pf
 |e,pf=>zcb P c k Q e pf
@[go_sem ↓] theorem zxG {σ:Type}{shape:σ→List (Nat×PF)}{I:σ→Prop}{meas:σ→Nat}{n:Nat}:zpC P c shape I meas n k Q .normal pf=ztO shape I meas n pf:=rfl
@[go_sem ↓] theorem zAq {σ:Type}{shape:σ→List (Nat×PF)}{I:σ→Prop}{meas:σ→Nat}{n id:Nat}:zpC P c shape I meas n k Q (.exit id) pf=pwx P c id k Q pf:=rfl
@[go_sem ↓] theorem zC3 {σ:Type}{shape:σ→List (Nat×PF)}{I:σ→Prop}{meas:σ→Nat}{n:Nat}:zpC P c shape I meas n k Q .ret pf=Q .ret pf:=by
 show zcb P c k Q .ret pf=_
 rw[zld]
end
end Go.Pm
