import Derived.Test.YtnbbkiilkaebaaaGreatDoorPmR
namespace Go.Pm
open Go.Am
inductive PIt where
 |code (c:Code)
 |wk (c:Code)
 |ops (pre:List (Option Tmp)) (l:List Oper)
 |dops (pre:List (Option Tmp)) (l:List (DE×Oper))
 |blk (id:Nat)
def zbJ (P:Program) (c:Cfg):List PIt→(Exit→PFr→Prop)→Exit→PFr→Prop
 |[],Q,e=>Q e
 |it::k,Q,e=>match e with
  | .normal=>match it with
   | .code x=>pwp P c x (zbJ P c k Q)
   | .wk x=>fun pf=>∃pf2,PWeak pf2 pf∧pwp P c x (zbJ P c k Q) pf2
   | .ops pre l=>zmC P c pre l (zbJ P c k Q .normal)
   | .dops pre l=>zlZ P c pre l (zbJ P c k Q .normal)
   | .blk _=>zbJ P c k Q .normal
  | .exit id=>match it with
   | .blk i=>if id=i then zbJ P c k Q .normal else zbJ P c k Q (.exit id)
   |_=>zbJ P c k Q (.exit id)
  |e=>zbJ P c k Q e
def pw (P:Program) (c:Cfg) (k:List PIt) (Q:Exit→PFr→Prop) (pf:PFr):Prop:=zbJ P c k Q .normal pf
section
variable {P:Program}{c:Cfg}{K K2:PFr→Prop}
theorem zwK (hk:∀pf,K pf→K2 pf) {d:Nat}{x:Option (PF×PFr)}(h:pfz K d x):pfz K2 d x:=by
 cases x with
 |none=>exact h
 |some x=>exact hk _ h
theorem zaz (hk:∀pf,K pf→K2 pf) {d:Option Tmp}{y:PF}{pf:PFr}(h:zbs c K d y pf):zbs c K2 d y pf:=by
 cases d with
 |none=>exact hk _ h
 |some d=>
  refine⟨h.1,?_⟩
  have h2:=h.2
  split at h2
  ·rename_i hh;rw[if_pos hh];exact zwK hk h2
  ·rename_i hh;rw[if_neg hh];exact hk _ h2
theorem zqn (hk:∀pf,K pf→K2 pf) {d:Option Tmp}{pf:PFr}{x:Option AD}(h:pad c K d pf x):pad c K2 d pf x:=by
 cases x with
 |none=>exact h
 |some x=>exact zaz hk h
theorem zhh (hk:∀pf,K pf→K2 pf) {o:Oper}{pf:PFr}(h:zei P c o K pf):zei P c o K2 pf:=by
 unfold zei at h⊢
 split at h
 ·split at h
  ·exact zaz hk h
  ·exact h
 ·exact h
theorem zoP (hk:∀pf,K pf→K2 pf) {d:Option Tmp}{r:PV}{x:Option PFr}(h:ztc c d K r x):ztc c d K2 r x:=by
 cases x with
 |none=>exact h
 |some x=>exact zaz hk h
theorem zmx (hk:∀pf,K pf→K2 pf) {f:Operand}{args:List Operand}{ts:List TypeId}{d:Option Tmp}{pf:PFr}{ms:List Md}(h:zle P c f args ts d K pf ms):zle P c f args ts d K2 pf ms:=by
 refine⟨h.1,?_⟩
 have h2:=h.2
 unfold zpX at h2⊢
 split at h2
 ·unfold zh6 at h2⊢
  split at h2
  ·exact h2.mono fun r outs hh=>⟨hh.1,zoP hk hh.2⟩
  ·exact h2
 ·exact h2
theorem zrj (hk:∀pf,K pf→K2 pf) {f:Operand}{d:Option Tmp}{l:List (Md×Nat×Operand)}{x:Nat×FuncId×List PV}{y:Option (List PV×PFr)}(h:zlx P c f d K l x y):zlx P c f d K2 l x y:=by
 unfold zlx at h⊢
 split at h
 ·refine⟨h.1,?_⟩
  have h2:=h.2
  unfold zh6 at h2⊢
  split at h2
  ·exact h2.mono fun r outs hh=>⟨hh.1,zoP hk hh.2⟩
  ·exact h2
 ·exact h
theorem ztF (hk:∀pf,K pf→K2 pf) {op:BinOp}{t:TypeId}{x:Operand}{d:Option Tmp}{pf:PFr}(h:zkF P c op t x d K pf):zkF P c op t x d K2 pf:=by
 unfold zkF at h⊢
 split at h
 ·exact⟨h.1,fun b hb=>zaz hk (h.2 b hb)⟩
 ·exact h
theorem ztN (hk:∀pf,K pf→K2 pf) {s t:TypeId}{x:Operand}{d:Option Tmp}{pf:PFr}(h:ziq P c s t x d K pf):ziq P c s t x d K2 pf:=by
 unfold ziq at h⊢
 split at h
 ·exact⟨h.1,zaz hk h.2⟩
 ·exact h
theorem zkw (hk:∀pf,K pf→K2 pf) {o:Oper}{pf:PFr}(h:pop P c o K pf):pop P c o K2 pf:=by
 unfold pop at h⊢
 split at h
 ·unfold zl0 at h⊢
  split at h
  ·unfold zlY at h⊢
   split at h
   ·exact zaz hk h
   ·exact h
  ·split at h
   ·exact zaz hk h
   ·exact h
 ·unfold zjK at h⊢
  split at h
  ·refine⟨h.1,h.2.1,?_⟩
   have h3:=h.2.2
   unfold ziE at h3⊢
   split at h3
   ·split at h3
    ·exact hk _ h3
    ·exact h3
   ·exact h3
  ·exact h
 ·exact zqn hk h
 ·unfold zjI at h⊢
  split at h
  ·exact zaz hk h
  ·split at h
   ·exact zaz hk h
   ·exact h
 ·exact zqn hk h
 ·unfold zj0 at h⊢
  split at h
  ·refine⟨h.1,?_⟩
   have h3:=h.2
   split at h3
   ·rename_i hh;rw[if_pos hh];exact hk _ h3
   ·rename_i hh;rw[if_neg hh];exact hk _ h3
  ·exact h
 ·unfold zot at h⊢
  split at h
  ·refine⟨h.1,h.2.1,h.2.2.1,?_⟩
   have h3:=h.2.2.2
   split at h3
   ·rename_i hh;rw[if_pos hh]
    split at h3
    ·rename_i hh;rw[if_pos hh];exact hk _ h3
    ·rename_i hh;rw[if_neg hh];exact hk _ h3
   ·rename_i hh;rw[if_neg hh];exact hk _ h3
  ·exact h
 ·unfold zoA at h⊢
  split at h
  ·rename_i hm
   rw[if_pos hm]
   unfold znF at h⊢
   split at h
   ·exact zaz hk h
   ·exact h
  rename_i hm
  rw[if_neg hm]
  split at h
  ·refine⟨h.1,?_⟩
   have h3:=h.2
   unfold zpE at h3⊢
   split at h3
   ·exact⟨h3.1,hk _ h3.2⟩
   ·exact h3
  ·exact h
 ·unfold zj3 at h⊢
  split at h
  ·unfold ztG at h⊢
   split at h
   ·exact zaz hk h
   ·exact h
  ·exact h
 ·unfold zlP zsV at h⊢
  split at h
  ·split at h
   ·exact zaz hk h
   ·exact h
  ·split at h
   ·exact zaz hk h
   ·exact h
  ·exact h
 ·unfold zl6 at h⊢
  split at h
  ·unfold zt1 at h⊢
   split at h
   ·exact⟨h.1,zaz hk h.2⟩
   ·exact h
  ·exact h
 ·unfold zl4 at h⊢
  split at h
  ·rename_i hb
   rw[if_pos hb]
   split at h
   ·exact zaz hk h
   ·exact h
  ·rename_i hb
   rw[if_neg hb]
   split at h
   ·exact zaz hk h
   ·exact h
 ·unfold zhc at h⊢
  split at h
  ·unfold zgg at h⊢
   split at h
   ·refine⟨h.1,?_⟩
    have h3:=h.2
    split at h3
    ·rename_i hh;rw[if_pos hh];exact zaz hk h3
    ·rename_i hh;rw[if_neg hh];exact zaz hk h3
   ·exact⟨h.1,zaz hk h.2⟩
   ·exact zaz hk h
   ·exact h
   ·exact h
   ·split at h
    ·rename_i hh
     rw[if_pos hh]
     split at h
     ·exact zaz hk h
     ·exact h
    ·rename_i hh
     rw[if_neg hh]
     exact zaz hk h
   ·exact zaz hk h
  ·split at h
   ·exact zaz hk h
   ·exact h
 ·unfold ziD at h⊢
  split at h
  ·exact zaz hk h
  ·split at h
   ·exact zaz hk h
   ·exact h
 ·unfold zhC at h⊢
  split at h
  ·refine⟨h.1,?_⟩
   have h2:=h.2
   unfold pex at h2⊢
   split at h2
   ·refine⟨h2.1,?_⟩
    have h3:=h2.2
    split at h3
    ·rename_i hh;rw[if_pos hh];exact zaz hk h3
    ·rename_i hh;rw[if_neg hh];exact zaz hk h3
   ·exact h2
  ·exact h
 ·split at h
  ·rename_i hh;rw[if_pos hh];exact zhh hk h
  ·rename_i hh;rw[if_neg hh]
   unfold zjY at h⊢
   split at h
   ·unfold zoz at h⊢
    split at h
    ·split at h
     ·exact zaz hk h
     ·exact h
    ·split at h
     ·exact⟨h.1,h.2.1,zaz hk h.2.2⟩
     ·exact h
    ·exact h
   ·exact h
 ·unfold zsX at h⊢
  split at h
  ·split at h
   ·rename_i hh;rw[if_pos hh];exact zhh hk h
   ·rename_i hh;rw[if_neg hh]
    unfold zm0 at h⊢
    split at h
    ·split at h
     ·exact fun hl=>zaz hk (h hl)
     ·exact h
    ·exact h
  ·exact h
 ·unfold ztT at h⊢
  split at h
  ·split at h
   ·rename_i htt
    rw[if_pos htt]
    unfold zom at h⊢
    split at h
    ·unfold zpq at h⊢
     split at h
     ·split at h
      ·unfold zpx at h⊢
       split at h
       ·exact⟨h.1,h.2.1,zaz hk h.2.2⟩
       ·exact h
      ·exact h
     ·exact h
    ·exact h
   ·rename_i htt
    rw[if_neg htt]
    unfold znE at h⊢
    split at h
    ·refine⟨h.1,?_⟩
     have h:=h.2
     unfold zt3 at h⊢
     split at h
     ·split at h
      ·exact⟨h.1,zaz hk h.2⟩
      ·exact h
     ·exact h
    ·exact h
  ·exact h
 ·rcases h with⟨ms,h⟩|⟨g,x,t,n,z,a1,a2,a3,a4,a5,a6,h⟩|⟨ms,x,a1,a2,h⟩
  ·exact .inl ⟨ms,zmx hk h⟩
  ·exact .inr (.inl ⟨g,x,t,n,z,a1,a2,a3,a4,a5,a6,zaz hk h⟩)
  ·exact .inr (.inr ⟨ms,x,a1,a2,zrj hk h⟩)
 all_goals first
  |exact zhh hk h
  | (split at h
     ·rename_i hh;rw[if_pos hh];exact⟨h.1,ztF hk h.2⟩
     ·rename_i hh;rw[if_neg hh];exact zhh hk h)
  | (split at h
     ·rename_i hh;rw[if_pos hh];exact⟨h.1,ztN hk h.2⟩
     ·rename_i hh;rw[if_neg hh];exact zhh hk h)
  |exact h
theorem zs8 (hk:∀pf,K pf→K2 pf) {d:Option Tmp}{pf:PFr}(h:zhQ c d K pf):zhQ c d K2 pf:=by
 cases d with
 |none=>exact hk _ h
 |some d=>exact⟨h.1,hk _ h.2⟩
theorem zqQ (hk:∀pf,K pf→K2 pf) {b:Bool}{d:Option Tmp}{r r2:Prop}(hr:r→r2) {pf:PFr}{y:Option (Option Bool)}(h:pgo c b d r K pf y):pgo c b d r2 K2 pf y:=by
 unfold pgo at h⊢
 split at h
 ·split at h
  ·rename_i hh;rw[if_pos hh];exact hr h
  ·rename_i hh;rw[if_neg hh];exact zs8 hk h
 ·exact h
theorem zu3 {pre:List (Option Tmp)}:∀{l:List Oper}{K K2:PFr→Prop}(_:∀pf,K pf→K2 pf) {pf:PFr},zmC P c pre l K pf→zmC P c pre l K2 pf:=by
 intro l
 induction l with
 |nil=>intro K K2 hk pf h;exact hk _ h
 |cons o l ih=>
  intro K K2 hk pf h
  simp only[zmC,zln]at h⊢
  split at h
  ·exact zkw (fun _ hh=>ih hk hh) h
  ·exact zqQ (fun _ hh=>ih hk hh) (zkw fun _ hh=>ih hk hh) h
theorem zo7 (hk:∀pf,K pf→K2 pf) {ext:Bool}{o:Oper}{pf:PFr}(h:zih P c ext o K pf):zih P c ext o K2 pf:=by
 unfold zih at h⊢
 split at h
 ·split at h
  ·rename_i hx;rw[if_pos hx];exact zmx hk h
  ·rename_i hx;rw[if_neg hx];exact zkw hk h
 ·exact⟨h.1,zkw hk h.2⟩
theorem zto {pre:List (Option Tmp)}:∀{l:List (DE×Oper)}{K K2:PFr→Prop}(_:∀pf,K pf→K2 pf) {pf:PFr},zlZ P c pre l K pf→zlZ P c pre l K2 pf:=by
 intro l
 induction l with
 |nil=>intro K K2 hk pf h;exact hk _ h
 |cons x l ih=>
  obtain⟨e,o⟩:=x
  intro K K2 hk pf h
  refine⟨h.1,?_⟩
  have h2:=h.2
  unfold znb at h2⊢
  split at h2
  ·exact zo7 (fun _ hh=>ih hk hh) h2
  ·exact zqQ (fun _ hh=>ih hk hh) (zo7 fun _ hh=>ih hk hh) h2
theorem zm9:∀(x:Code) {Q Q2:Exit→PFr→Prop},(∀e pf,Q e pf→Q2 e pf)→∀{pf},pwp P c x Q pf→pwp P c x Q2 pf:=by
 intro x
 induction x with
 |skip=>intro Q Q2 hq pf h;exact hq _ _ h
 |region id ops draw=>
  intro Q Q2 hq pf h
  simp only[pwp]at h⊢
  split at h
  ·rename_i hd
   rw[if_pos hd]
   obtain⟨a,n,h⟩:=h
   exact⟨a,n,zjE (fun _=>zto (hq .normal)) h⟩
  ·rename_i hd;rw[if_neg hd];exact zu3 (hq .normal) h
 |seq x y ihx ihy=>
  intro Q Q2 hq pf h
  refine ihx (fun e pf h=>?_) h
  cases e<;>try exact hq _ _ h
  obtain⟨pf2,hw,h⟩:=h
  exact⟨pf2,hw,ihy hq h⟩
 |cond b x y ihx ihy=>
  intro Q Q2 hq pf h
  obtain⟨pf2,hw,h⟩:=h
  refine⟨pf2,hw,?_⟩
  unfold zwa at h⊢
  split at h
  ·split at h
   ·rename_i e;rw[if_pos e];exact ihx hq h
   ·rename_i e;rw[if_neg e];exact ihy hq h
  ·exact h
 |block id b ih=>
  intro Q Q2 hq pf h
  refine ih (fun e pf h=>?_) h
  cases e<;>try exact hq _ _ h
  simp only[zlw]at h⊢
  split at h
  ·rename_i e;rw[if_pos e];exact hq _ _ h
  ·rename_i e;rw[if_neg e];exact hq _ _ h
 |loop b ih=>
  intro Q Q2 hq pf h
  obtain⟨n,hn⟩:=h
  refine⟨n,?_⟩
  induction n generalizing pf with
  |zero=>exact hn
  |succ n ihn=>
   obtain⟨pf2,hw,hn⟩:=hn
   refine⟨pf2,hw,ih (fun e pf h=>?_) hn⟩
   cases e<;>first|exact ihn h|exact hq _ _ h
 |exit id=>intro Q Q2 hq pf h;exact hq _ _ h
 |ret=>intro Q Q2 hq pf h;exact hq _ _ h
 |_=>intros;rename_i h;exact absurd h (by simp[pwp])
end
section
variable {P:Program}{c:Cfg}{k:List PIt}{Q:Exit→PFr→Prop}{pf:PFr}
theorem zvR {pf':PFr}(h:pf=pf'):pw P c k Q pf=pw P c k Q pf':=by rw[h]
@[go_sem ↓] theorem zOj:pw P c [] Q pf=Q .normal pf:=rfl
@[go_sem ↓] theorem zNL {i:Nat}:pw P c (.blk i::k) Q pf=pw P c k Q pf:=rfl
@[go_sem ↓] theorem zJw:pw P c (.code .skip::k) Q pf=pw P c k Q pf:=rfl
@[go_sem ↓] theorem zp5 {x y:Code}:pw P c (.code (.seq x y)::k) Q pf=pw P c (.code x::.wk y::k) Q pf:=by
 show pwp P c x (zw6 (fun pf=>∃pf2,PWeak pf2 pf∧pwp P c y (zbJ P c k Q) pf2) (zbJ P c k Q)) pf=pwp P c x (zbJ P c (.wk y::k) Q) pf
 congr 1
 funext e
 cases e<;>rfl
@[go_sem ↓] theorem pw_block {id:Nat}{b:Code}:pw P c (.code (.block id b)::k) Q pf=pw P c (.code b::.blk id::k) Q pf:=by
 show pwp P c b (zlw id (zbJ P c k Q)) pf=pwp P c b (zbJ P c (.blk id::k) Q) pf
 congr 1
 funext e
 cases e<;>try rfl
 funext pf
 simp only[zlw,zbJ]
 split<;>rfl
theorem zk4:zbJ P c k Q .ret=Q .ret:=by
 induction k with
 |nil=>rfl
 |cons it k ih=>exact ih
@[go_sem ↓] theorem zNC:pw P c (.code .ret::k) Q pf=Q .ret pf:=by
 show zbJ P c k Q .ret pf=_
 rw[zk4]
def pwx (P:Program) (c:Cfg) (id:Nat) (k:List PIt) (Q:Exit→PFr→Prop) (pf:PFr):Prop:=zbJ P c k Q (.exit id) pf
@[go_sem ↓] theorem zMv {id:Nat}:pw P c (.code (.exit id)::k) Q pf=pwx P c id k Q pf:=rfl
@[go_sem ↓] theorem zK7 {id:Nat}:pwx P c id [] Q pf=Q (.exit id) pf:=rfl
@[go_sem ↓] theorem zHU {id:Nat}{x:Code}:pwx P c id (.code x::k) Q pf=pwx P c id k Q pf:=rfl
@[go_sem ↓] theorem zOM {id:Nat}{x:Code}:pwx P c id (.wk x::k) Q pf=pwx P c id k Q pf:=rfl
@[go_sem ↓] theorem zKE {id:Nat}{pre:List (Option Tmp)}{l:List Oper}:pwx P c id (.ops pre l::k) Q pf=pwx P c id k Q pf:=rfl
@[go_sem ↓] theorem zGR {id:Nat}{pre:List (Option Tmp)}{l:List (DE×Oper)}:pwx P c id (.dops pre l::k) Q pf=pwx P c id k Q pf:=rfl
@[go_sem ↓] theorem zK4 {id i:Nat}:pwx P c id (.blk i::k) Q pf=if id=i then pw P c k Q pf else pwx P c id k Q pf:=by
 show(zbJ P c (.blk i::k) Q (.exit id)) pf=_
 simp only[zbJ]
 split<;>rfl
def PFr.ofL:List (Nat×PF)→PFr
 |[],_=>jP
 |(s,x)::l,t=>if t=s then x else PFr.ofL l t
def zcl:List (Nat×PF)→PFr→Prop
 |[],_=>True
 |(s,x)::l,pf=>pf s=x∧zcl l pf
@[go_sem] theorem zBS {pf:PFr}:zcl [] pf=True:=rfl
@[go_sem] theorem zAI {s:Nat}{x:PF}{l:List (Nat×PF)}{pf:PFr}:zcl ((s,x)::l) pf=(pf s=x∧zcl l pf):=rfl
theorem zpN:∀{l:List (Nat×PF)}{pf:PFr},zcl l pf→∀t,PFr.ofL l t=pf t∨PFr.ofL l t=jP:=by
 intro l
 induction l with
 |nil=>intro pf _ t;exact .inr rfl
 |cons p l ih=>
  intro pf h t
  obtain⟨s,x⟩:=p
  obtain⟨h1,h2⟩:=h
  by_cases e:t=s
  ·subst e;left;simp[PFr.ofL,h1]
  ·rcases ih h2 t with e2|e2
   ·left;simpa[PFr.ofL,e]using e2
   ·right;simpa[PFr.ofL,e]using e2
theorem zhS {l:List (Nat×PF)}{pf:PFr}(h:zcl l pf):PWeak (PFr.ofL l) pf:=.w (zpN h)
theorem znH:PWeak pf pf:=.w fun _=>.inl rfl
theorem zal {x:Code}(h:pw P c (.code x::k) Q pf):pw P c (.wk x::k) Q pf:=⟨pf,znH,h⟩
theorem zlF {x:Code}(l:List (Nat×PF)) (ha:zcl l pf) (h:pw P c (.code x::k) Q (PFr.ofL l)):pw P c (.wk x::k) Q pf:=⟨PFr.ofL l,zhS ha,h⟩
theorem zm3 {b:Operand}{x y:Code}{v:Bool}(hb:rdS pf b=some (.bool v)) (ht:v=true→pw P c (.code x::k) Q pf) (he:v=false→pw P c (.code y::k) Q pf):
 pw P c (.code (.cond b x y)::k) Q pf:=by
 refine⟨pf,znH,?_⟩
 rw[hb]
 cases v
 ·exact he rfl
 ·exact ht rfl
theorem zlo {b:Operand}{x y:Code}(hb:rdS pf b=some (.bool true)) (ht:pw P c (.code x::k) Q pf):pw P c (.code (.cond b x y)::k) Q pf:=zm3 hb (fun _=>ht) (fun h=>by cases h)
theorem zlI {b:Operand}{x y:Code}(hb:rdS pf b=some (.bool false)) (ht:pw P c (.code y::k) Q pf):pw P c (.code (.cond b x y)::k) Q pf:=zm3 hb (fun h=>by cases h) (fun _=>ht)
def zuR {σ:Type}(shape:σ→List (Nat×PF)) (I:σ→Prop) (meas:σ→Nat) (n:Nat) (pf:PFr):Prop:=∃s,zcl (shape s) pf∧I s∧meas s<n
def zpW {σ:Type}(P:Program) (c:Cfg) (shape:σ→List (Nat×PF)) (I:σ→Prop) (meas:σ→Nat) (n:Nat) (k:List PIt) (Q:Exit→PFr→Prop):Exit→PFr→Prop
 | .normal,pf=>zuR shape I meas n pf
 |e,pf=>zbJ P c k Q e pf
@[go_sem ↓] theorem zyM {σ:Type}{shape:σ→List (Nat×PF)}{I:σ→Prop}{meas:σ→Nat}{n:Nat}:zpW P c shape I meas n k Q .normal pf=zuR shape I meas n pf:=rfl
@[go_sem ↓] theorem zAK {σ:Type}{shape:σ→List (Nat×PF)}{I:σ→Prop}{meas:σ→Nat}{n id:Nat}:zpW P c shape I meas n k Q (.exit id) pf=pwx P c id k Q pf:=rfl
@[go_sem ↓] theorem zA3 {σ:Type}{shape:σ→List (Nat×PF)}{I:σ→Prop}{meas:σ→Nat}{n:Nat}:zpW P c shape I meas n k Q .ret pf=Q .ret pf:=by
 show zbJ P c k Q .ret pf=_
 rw[zk4]
end
end Go.Pm
