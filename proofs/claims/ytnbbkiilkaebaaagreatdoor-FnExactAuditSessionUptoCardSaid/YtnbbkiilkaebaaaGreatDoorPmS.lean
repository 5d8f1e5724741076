import Derived.Test.YtnbbkiilkaebaaaGreatDoorPmR
namespace Go.Pm
open Go.Am
inductive PIt where
 |code (c:Code)
 |wk (c:Code)
 |ops (pre:List (Option Tmp)) (l:List Oper)
 |dops (pre:List (Option Tmp)) (l:List (DE×Oper))
 |blk (id:Nat)
def zbH (P:Program) (c:Cfg):List PIt→(Exit→PFr→Prop)→Exit→PFr→Prop
 |[],Q,e=>Q e
 |it::k,Q,e=>match e with
  | .normal=>match it with
   | .code x=>pwp P c x (zbH P c k Q)
   | .wk x=>fun pf=>∃pf2,PWeak pf2 pf∧pwp P c x (zbH P c k Q) pf2
   | .ops pre l=>zmH P c pre l (zbH P c k Q .normal)
   | .dops pre l=>zlE P c pre l (zbH P c k Q .normal)
   | .blk _=>zbH P c k Q .normal
  | .exit id=>match it with
   | .blk i=>if id=i then zbH P c k Q .normal else zbH P c k Q (.exit id)
   |_=>zbH P c k Q (.exit id)
  |e=>zbH P c k Q e
def pw (P:Program) (c:Cfg) (k:List PIt) (Q:Exit→PFr→Prop) (pf:PFr):Prop:=zbH P c k Q .normal pf
section
variable {P:Program}{c:Cfg}{K K2:PFr→Prop}
theorem zvn (hk:∀pf,K pf→K2 pf) {d:Nat}{x:Option (PF×PFr)}(h:pfz K d x):pfz K2 d x:=by
 cases x with
 |none=>exact h
 |some x=>exact hk _ h
theorem zay (hk:∀pf,K pf→K2 pf) {d:Option Tmp}{y:PF}{pf:PFr}(h:zbn c K d y pf):zbn c K2 d y pf:=by
 cases d with
 |none=>exact hk _ h
 |some d=>
  refine⟨h.1,?_⟩
  have h2:=h.2
  split at h2
  ·rename_i hh;rw[if_pos hh];exact zvn hk h2
  ·rename_i hh;rw[if_neg hh];exact hk _ h2
theorem zph (hk:∀pf,K pf→K2 pf) {d:Option Tmp}{pf:PFr}{x:Option AD}(h:pad c K d pf x):pad c K2 d pf x:=by
 cases x with
 |none=>exact h
 |some x=>exact zay hk h
theorem zgU (hk:∀pf,K pf→K2 pf) {o:Oper}{pf:PFr}(h:zd5 P c o K pf):zd5 P c o K2 pf:=by
 unfold zd5 at h⊢
 split at h
 ·split at h
  ·exact zay hk h
  ·exact h
 ·exact h
theorem zop (hk:∀pf,K pf→K2 pf) {d:Option Tmp}{r:PV}{x:Option PFr}(h:zti c d K r x):zti c d K2 r x:=by
 cases x with
 |none=>exact h
 |some x=>exact zay hk h
theorem zma (hk:∀pf,K pf→K2 pf) {f:Operand}{args:List Operand}{ts:List TypeId}{d:Option Tmp}{pf:PFr}{ms:List Md}(h:zk6 P c f args ts d K pf ms):zk6 P c f args ts d K2 pf ms:=by
 refine⟨h.1,?_⟩
 have h2:=h.2
 unfold zp7 at h2⊢
 split at h2
 ·unfold zhI at h2⊢
  split at h2
  ·exact h2.mono fun r outs hh=>⟨hh.1,zop hk hh.2⟩
  ·exact h2
 ·exact h2
theorem zro (hk:∀pf,K pf→K2 pf) {f:Operand}{d:Option Tmp}{l:List (Md×Nat×Operand)}{x:Nat×FuncId×List PV}{y:Option (List PV×PFr)}(h:zk0 P c f d K l x y):zk0 P c f d K2 l x y:=by
 unfold zk0 at h⊢
 split at h
 ·refine⟨h.1,?_⟩
  have h2:=h.2
  unfold zhI at h2⊢
  split at h2
  ·exact h2.mono fun r outs hh=>⟨hh.1,zop hk hh.2⟩
  ·exact h2
 ·exact h
theorem ztD (hk:∀pf,K pf→K2 pf) {op:BinOp}{t:TypeId}{x:Operand}{d:Option Tmp}{pf:PFr}(h:zkl P c op t x d K pf):zkl P c op t x d K2 pf:=by
 unfold zkl at h⊢
 split at h
 ·exact⟨h.1,fun b hb=>zay hk (h.2 b hb)⟩
 ·exact h
theorem zsY (hk:∀pf,K pf→K2 pf) {s t:TypeId}{x:Operand}{d:Option Tmp}{pf:PFr}(h:zib P c s t x d K pf):zib P c s t x d K2 pf:=by
 unfold zib at h⊢
 split at h
 ·exact⟨h.1,zay hk h.2⟩
 ·exact h
theorem zj5 (hk:∀pf,K pf→K2 pf) {o:Oper}{pf:PFr}(h:pop P c o K pf):pop P c o K2 pf:=by
 unfold pop at h⊢
 split at h
 ·unfold zlH at h⊢
  split at h
  ·unfold zlG at h⊢
   split at h
   ·exact zay hk h
   ·exact h
  ·split at h
   ·exact zay hk h
   ·exact h
 ·unfold zjy at h⊢
  split at h
  ·refine⟨h.1,h.2.1,?_⟩
   have h3:=h.2.2
   unfold zid at h3⊢
   split at h3
   ·split at h3
    ·exact hk _ h3
    ·exact h3
   ·exact h3
  ·exact h
 ·exact zph hk h
 ·unfold zjz at h⊢
  split at h
  ·exact zay hk h
  ·split at h
   ·exact zay hk h
   ·exact h
 ·exact zph hk h
 ·unfold zjL at h⊢
  split at h
  ·refine⟨h.1,?_⟩
   have h3:=h.2
   split at h3
   ·rename_i hh;rw[if_pos hh];exact hk _ h3
   ·rename_i hh;rw[if_neg hh];exact hk _ h3
  ·exact h
 ·unfold znI at h⊢
  split at h
  ·refine⟨h.1,h.2.1,h.2.2.1,?_⟩
   have h3:=h.2.2.2
   split at h3
   ·rename_i hh;rw[if_pos hh]
    split at h3
    ·rename_i hh;rw[if_pos hh];exact hk _ h3
    ·rename_i hh;rw[if_neg hh];exact hk _ h3
   ·rename_i hh;rw[if_neg hh];exact hk _ h3
  ·exact h
 ·unfold zoh at h⊢
  split at h
  ·rename_i hm
   rw[if_pos hm]
   unfold znG at h⊢
   split at h
   ·exact zay hk h
   ·exact h
  rename_i hm
  rw[if_neg hm]
  split at h
  ·refine⟨h.1,?_⟩
   have h3:=h.2
   unfold zo6 at h3⊢
   split at h3
   ·exact⟨h3.1,hk _ h3.2⟩
   ·exact h3
  ·exact h
 ·unfold zjH at h⊢
  split at h
  ·unfold zs3 at h⊢
   split at h
   ·exact zay hk h
   ·exact h
  ·exact h
 ·unfold zlI zth at h⊢
  split at h
  ·split at h
   ·exact zay hk h
   ·exact h
  ·split at h
   ·exact zay hk h
   ·exact h
  ·exact h
 ·unfold zlx at h⊢
  split at h
  ·unfold zsN at h⊢
   split at h
   ·exact⟨h.1,zay hk h.2⟩
   ·exact h
  ·exact h
 ·unfold zlN at h⊢
  split at h
  ·rename_i hb
   rw[if_pos hb]
   split at h
   ·exact zay hk h
   ·exact h
  ·rename_i hb
   rw[if_neg hb]
   split at h
   ·exact zay hk h
   ·exact h
 ·unfold zg8 at h⊢
  split at h
  ·unfold zf2 at h⊢
   split at h
   ·refine⟨h.1,?_⟩
    have h3:=h.2
    split at h3
    ·rename_i hh;rw[if_pos hh];exact zay hk h3
    ·rename_i hh;rw[if_neg hh];exact zay hk h3
   ·exact⟨h.1,zay hk h.2⟩
   ·exact zay hk h
   ·exact h
   ·exact h
   ·split at h
    ·rename_i hh
     rw[if_pos hh]
     split at h
     ·exact zay hk h
     ·exact h
    ·rename_i hh
     rw[if_neg hh]
     exact zay hk h
   ·exact zay hk h
  ·split at h
   ·exact zay hk h
   ·exact h
 ·unfold zim at h⊢
  split at h
  ·exact zay hk h
  ·split at h
   ·exact zay hk h
   ·exact h
 ·unfold zhx at h⊢
  split at h
  ·refine⟨h.1,?_⟩
   have h2:=h.2
   unfold pex at h2⊢
   split at h2
   ·refine⟨h2.1,?_⟩
    have h3:=h2.2
    split at h3
    ·rename_i hh;rw[if_pos hh];exact zay hk h3
    ·rename_i hh;rw[if_neg hh];exact zay hk h3
   ·exact h2
  ·exact h
 ·split at h
  ·rename_i hh;rw[if_pos hh];exact zgU hk h
  ·rename_i hh;rw[if_neg hh]
   unfold zjv at h⊢
   split at h
   ·unfold znV at h⊢
    split at h
    ·split at h
     ·exact zay hk h
     ·exact h
    ·split at h
     ·exact⟨h.1,h.2.1,zay hk h.2.2⟩
     ·exact h
    ·exact h
   ·exact h
 ·unfold zsB at h⊢
  split at h
  ·split at h
   ·rename_i hh;rw[if_pos hh];exact zgU hk h
   ·rename_i hh;rw[if_neg hh]
    unfold zme at h⊢
    split at h
    ·split at h
     ·exact fun hl=>zay hk (h hl)
     ·exact h
    ·exact h
  ·exact h
 ·unfold zsk at h⊢
  split at h
  ·split at h
   ·rename_i htt
    rw[if_pos htt]
    unfold znT at h⊢
    split at h
    ·unfold zpe at h⊢
     split at h
     ·split at h
      ·unfold zpa at h⊢
       split at h
       ·exact⟨h.1,h.2.1,zay hk h.2.2⟩
       ·exact h
      ·exact h
     ·exact h
    ·exact h
   ·rename_i htt
    rw[if_neg htt]
    unfold znB at h⊢
    split at h
    ·refine⟨h.1,?_⟩
     have h:=h.2
     unfold zs6 at h⊢
     split at h
     ·split at h
      ·exact⟨h.1,zay hk h.2⟩
      ·exact h
     ·exact h
    ·exact h
  ·exact h
 ·rcases h with⟨ms,h⟩|⟨g,x,t,n,z,a1,a2,a3,a4,a5,a6,h⟩|⟨ms,x,a1,a2,h⟩
  ·exact .inl ⟨ms,zma hk h⟩
  ·exact .inr (.inl ⟨g,x,t,n,z,a1,a2,a3,a4,a5,a6,zay hk h⟩)
  ·exact .inr (.inr ⟨ms,x,a1,a2,zro hk h⟩)
 all_goals first
  |exact zgU hk h
  | (split at h
     ·rename_i hh;rw[if_pos hh];exact⟨h.1,ztD hk h.2⟩
     ·rename_i hh;rw[if_neg hh];exact zgU hk h)
  | (split at h
     ·rename_i hh;rw[if_pos hh];exact⟨h.1,zsY hk h.2⟩
     ·rename_i hh;rw[if_neg hh];exact zgU hk h)
  |exact h
theorem zsE (hk:∀pf,K pf→K2 pf) {d:Option Tmp}{pf:PFr}(h:zhy c d K pf):zhy c d K2 pf:=by
 cases d with
 |none=>exact hk _ h
 |some d=>exact⟨h.1,hk _ h.2⟩
theorem zqb (hk:∀pf,K pf→K2 pf) {b:Bool}{d:Option Tmp}{r r2:Prop}(hr:r→r2) {pf:PFr}{y:Option (Option Bool)}(h:pgo c b d r K pf y):pgo c b d r2 K2 pf y:=by
 unfold pgo at h⊢
 split at h
 ·split at h
  ·rename_i hh;rw[if_pos hh];exact hr h
  ·rename_i hh;rw[if_neg hh];exact zsE hk h
 ·exact h
theorem ztI {pre:List (Option Tmp)}:∀{l:List Oper}{K K2:PFr→Prop}(_:∀pf,K pf→K2 pf) {pf:PFr},zmH P c pre l K pf→zmH P c pre l K2 pf:=by
 intro l
 induction l with
 |nil=>intro K K2 hk pf h;exact hk _ h
 |cons o l ih=>
  intro K K2 hk pf h
  simp only[zmH,zk5]at h⊢
  split at h
  ·exact zj5 (fun _ hh=>ih hk hh) h
  ·exact zqb (fun _ hh=>ih hk hh) (zj5 fun _ hh=>ih hk hh) h
theorem zot (hk:∀pf,K pf→K2 pf) {ext:Bool}{o:Oper}{pf:PFr}(h:zhV P c ext o K pf):zhV P c ext o K2 pf:=by
 unfold zhV at h⊢
 split at h
 ·split at h
  ·rename_i hx;rw[if_pos hx];exact zma hk h
  ·rename_i hx;rw[if_neg hx];exact zj5 hk h
 ·exact⟨h.1,zj5 hk h.2⟩
theorem ztw {pre:List (Option Tmp)}:∀{l:List (DE×Oper)}{K K2:PFr→Prop}(_:∀pf,K pf→K2 pf) {pf:PFr},zlE P c pre l K pf→zlE P c pre l K2 pf:=by
 intro l
 induction l with
 |nil=>intro K K2 hk pf h;exact hk _ h
 |cons x l ih=>
  obtain⟨e,o⟩:=x
  intro K K2 hk pf h
  refine⟨h.1,?_⟩
  have h2:=h.2
  unfold znm at h2⊢
  split at h2
  ·exact zot (fun _ hh=>ih hk hh) h2
  ·exact zqb (fun _ hh=>ih hk hh) (zot fun _ hh=>ih hk hh) h2
theorem zmB:∀(x:Code) {Q Q2:Exit→PFr→Prop},(∀e pf,Q e pf→Q2 e pf)→∀{pf},pwp P c x Q pf→pwp P c x Q2 pf:=by
 intro x
 induction x with
 |skip=>intro Q Q2 hq pf h;exact hq _ _ h
 |region id ops draw=>
  intro Q Q2 hq pf h
  simp only[pwp]at h⊢
  split at h
  ·rename_i hd
   rw[if_pos hd]
   obtain⟨a,n,h⟩:=h
   exact⟨a,n,zjg (fun _=>ztw (hq .normal)) h⟩
  ·rename_i hd;rw[if_neg hd];exact ztI (hq .normal) h
 |seq x y ihx ihy=>
  intro Q Q2 hq pf h
  refine ihx (fun e pf h=>?_) h
  cases e<;>try exact hq _ _ h
  obtain⟨pf2,hw,h⟩:=h
  exact⟨pf2,hw,ihy hq h⟩
 |cond b x y ihx ihy=>
  intro Q Q2 hq pf h
  obtain⟨pf2,hw,h⟩:=h
  refine⟨pf2,hw,?_⟩
  unfold zvZ at h⊢
  split at h
  ·split at h
   ·rename_i e;rw[if_pos e];exact ihx hq h
   ·rename_i e;rw[if_neg e];exact ihy hq h
  ·exact h
 |block id b ih=>
  intro Q Q2 hq pf h
  refine ih (fun e pf h=>?_) h
  cases e<;>try exact hq _ _ h
  simp only[zk7]at h⊢
  split at h
  ·rename_i e;rw[if_pos e];exact hq _ _ h
  ·rename_i e;rw[if_neg e];exact hq _ _ h
 |loop b ih=>
  intro Q Q2 hq pf h
  obtain⟨n,hn⟩:=h
  refine⟨n,?_⟩
  induction n generalizing pf with
  |zero=>exact hn
  |succ n ihn=>
   obtain⟨pf2,hw,hn⟩:=hn
   refine⟨pf2,hw,ih (fun e pf h=>?_) hn⟩
   cases e<;>first|exact ihn h|exact hq _ _ h
 |exit id=>intro Q Q2 hq pf h;exact hq _ _ h
 |ret=>intro Q Q2 hq pf h;exact hq _ _ h
 |_=>intros;rename_i h;exact absurd h (by simp[pwp])
end
section
variable {P:Program}{c:Cfg}{k:List PIt}{Q:Exit→PFr→Prop}{pf:PFr}
theorem zv3 {pf':PFr}(h:pf=pf'):pw P c k Q pf=pw P c k Q pf':=by rw[h]
@[go_sem ↓] theorem zMf:pw P c [] Q pf=Q .normal pf:=rfl
@[go_sem ↓] theorem zNn {i:Nat}:pw P c (.blk i::k) Q pf=pw P c k Q pf:=rfl
@[go_sem ↓] theorem zKu:pw P c (.code .skip::k) Q pf=pw P c k Q pf:=rfl
@[go_sem ↓] theorem zqm {x y:Code}:pw P c (.code (.seq x y)::k) Q pf=pw P c (.code x::.wk y::k) Q pf:=by
 show pwp P c x (zww (fun pf=>∃pf2,PWeak pf2 pf∧pwp P c y (zbH P c k Q) pf2) (zbH P c k Q)) pf=pwp P c x (zbH P c (.wk y::k) Q) pf
 congr 1
 funext e
 cases e<;>rfl
@[go_sem ↓] theorem pw_block {id:Nat}{b:Code}:pw P c (.code (.block id b)::k) Q pf=pw P c (.code b::.blk id::k) Q pf:=by
 show pwp P c b (zk7 id (zbH P c k Q)) pf=pwp P c b (zbH P c (.blk id::k) Q) pf
 congr 1
 funext e
 cases e<;>try rfl
 funext pf
 simp only[zk7,zbH]
 split<;>rfl
theorem zlh:zbH P c k Q .ret=Q .ret:=by
 induction k with
 |nil=>rfl
 |cons it k ih=>exact ih
@[go_sem ↓] theorem zMx:pw P c (.code .ret::k) Q pf=Q .ret pf:=by
 show zbH P c k Q .ret pf=_
 rw[zlh]
def pwx (P:Program) (c:Cfg) (id:Nat) (k:List PIt) (Q:Exit→PFr→Prop) (pf:PFr):Prop:=zbH P c k Q (.exit id) pf
@[go_sem ↓] theorem zJf {id:Nat}:pw P c (.code (.exit id)::k) Q pf=pwx P c id k Q pf:=rfl
@[go_sem ↓] theorem zLK {id:Nat}:pwx P c id [] Q pf=Q (.exit id) pf:=rfl
@[go_sem ↓] theorem zHk {id:Nat}{x:Code}:pwx P c id (.code x::k) Q pf=pwx P c id k Q pf:=rfl
@[go_sem ↓] theorem zMl {id:Nat}{x:Code}:pwx P c id (.wk x::k) Q pf=pwx P c id k Q pf:=rfl
@[go_sem ↓] theorem zJ6 {id:Nat}{pre:List (Option Tmp)}{l:List Oper}:pwx P c id (.ops pre l::k) Q pf=pwx P c id k Q pf:=rfl
@[go_sem ↓] theorem zE5 {id:Nat}{pre:List (Option Tmp)}{l:List (DE×Oper)}:pwx P c id (.dops pre l::k) Q pf=pwx P c id k Q pf:=rfl
@[go_sem ↓] theorem zIC {id i:Nat}:pwx P c id (.blk i::k) Q pf=if id=i then pw P c k Q pf else pwx P c id k Q pf:=by
 show(zbH P c (.blk i::k) Q (.exit id)) pf=_
 simp only[zbH]
 split<;>rfl
def PFr.ofL:List (Nat×PF)→PFr
 |[],_=>jP
 |(s,x)::l,t=>if t=s then x else PFr.ofL l t
def zcl:List (Nat×PF)→PFr→Prop
 |[],_=>True
 |(s,x)::l,pf=>pf s=x∧zcl l pf
@[go_sem] theorem zCK {pf:PFr}:zcl [] pf=True:=rfl
@[go_sem] theorem zz3 {s:Nat}{x:PF}{l:List (Nat×PF)}{pf:PFr}:zcl ((s,x)::l) pf=(pf s=x∧zcl l pf):=rfl
theorem zpP:∀{l:List (Nat×PF)}{pf:PFr},zcl l pf→∀t,PFr.ofL l t=pf t∨PFr.ofL l t=jP:=by
 intro l
 induction l with
 |nil=>intro pf _ t;exact .inr rfl
 |cons p l ih=>
  intro pf h t
  obtain⟨s,x⟩:=p
  obtain⟨h1,h2⟩:=h
  by_cases e:t=s
  ·subst e;left;simp[PFr.ofL,h1]
  ·rcases ih h2 t with e2|e2
   ·left;simpa[PFr.ofL,e]using e2
   ·right;simpa[PFr.ofL,e]using e2
theorem zhB {l:List (Nat×PF)}{pf:PFr}(h:zcl l pf):PWeak (PFr.ofL l) pf:=.w (zpP h)
theorem znD:PWeak pf pf:=.w fun _=>.inl rfl
theorem zat {x:Code}(h:pw P c (.code x::k) Q pf):pw P c (.wk x::k) Q pf:=⟨pf,znD,h⟩
theorem zkK {x:Code}(l:List (Nat×PF)) (ha:zcl l pf) (h:pw P c (.code x::k) Q (PFr.ofL l)):pw P c (.wk x::k) Q pf:=⟨PFr.ofL l,zhB ha,h⟩
theorem zmj {b:Operand}{x y:Code}{v:Bool}(hb:rdS pf b=some (.bool v)) (ht:v=true→pw P c (.code x::k) Q pf) (he:v=false→pw P c (.code y::k) Q pf):
 pw P c (.code (.cond b x y)::k) Q pf:=by
 refine⟨pf,znD,?_⟩
 rw[hb]
 cases v
 ·exact he rfl
 ·exact ht rfl
theorem zkP {b:Operand}{x y:Code}(hb:rdS pf b=some (.bool true)) (ht:pw P c (.code x::k) Q pf):pw P c (.code (.cond b x y)::k) Q pf:=zmj hb (fun _=>ht) (fun h=>by cases h)
theorem zkZ {b:Operand}{x y:Code}(hb:rdS pf b=some (.bool false)) (ht:pw P c (.code y::k) Q pf):pw P c (.code (.cond b x y)::k) Q pf:=zmj hb (fun h=>by cases h) (fun _=>ht)
def zuF {σ:Type}(shape:σ→List (Nat×PF)) (I:σ→Prop) (meas:σ→Nat) (n:Nat) (pf:PFr):Prop:=∃s,zcl (shape s) pf∧I s∧meas s<n
def zp1 {σ:Type}(P:Program) (c:Cfg) (shape:σ→List (Nat×PF)) (I:σ→Prop) (meas:σ→Nat) (n:Nat) (k:List PIt) (Q:Exit→PFr→Prop):Exit→PFr→Prop
 | .normal,pf=>zuF shape I meas n pf
 |e,pf=>zbH P c k Q e pf
@[go_sem ↓] theorem zx3 {σ:Type}{shape:σ→List (Nat×PF)}{I:σ→Prop}{meas:σ→Nat}{n:Nat}:zp1 P c shape I meas n k Q .normal pf=zuF shape I meas n pf:=rfl
@[go_sem ↓] theorem zzT {σ:Type}{shape:σ→List (Nat×PF)}{I:σ→Prop}{meas:σ→Nat}{n id:Nat}:zp1 P c shape I meas n k Q (.exit id) pf=pwx P c id k Q pf:=rfl
@[go_sem ↓] theorem zAw {σ:Type}{shape:σ→List (Nat×PF)}{I:σ→Prop}{meas:σ→Nat}{n:Nat}:zp1 P c shape I meas n k Q .ret pf=Q .ret pf:=by
 show zbH P c k Q .ret pf=_
 rw[zlh]
end
end Go.Pm
