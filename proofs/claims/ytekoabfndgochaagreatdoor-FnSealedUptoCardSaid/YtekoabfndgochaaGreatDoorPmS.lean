import Derived.Test.YtekoabfndgochaaGreatDoorPmR
namespace Go.Pm
open Go.Am
inductive PIt where
 |code (c:Code)
 |wk (c:Code)
 |ops (pre:List (Option Tmp)) (l:List Oper)
 |dops (pre:List (Option Tmp)) (l:List (DE×Oper))
 |blk (id:Nat)
def zcs(P:Program)(c:Cfg):List PIt→(Exit→PFr→Prop)→Exit→PFr→Prop
 |[],Q,e=>Q e
 |it::k,Q,e=>match e with
  | .normal=>match it with
   | .code x=>pwp P c x (zcs P c k Q)
   | .wk x=>fun pf=>∃pf2,PWeak pf2 pf∧pwp P c x (zcs P c k Q) pf2
   | .ops pre l=>zo0 P c pre l (zcs P c k Q .normal)
   | .dops pre l=>znZ P c pre l (zcs P c k Q .normal)
   | .blk _=>zcs P c k Q .normal
  | .exit id=>match it with
   | .blk i=>if id=i then zcs P c k Q .normal else zcs P c k Q (.exit id)
   |_=>zcs P c k Q (.exit id)
  |e=>zcs P c k Q e
def pw(P:Program)(c:Cfg)(k:List PIt)(Q:Exit→PFr→Prop)(pf:PFr):Prop:=zcs P c k Q .normal pf
section
variable {P:Program}{c:Cfg}{K K2:PFr→Prop}
variable{d:Option Tmp}{o:Oper}{pf:PFr}
theorem zy3(hk:∀pf,K pf→K2 pf){d:Nat}{x:Option (PF×PFr)}(h:pfz K d x):pfz K2 d x:=by
 cases x with
 |none=>exact h
 |some x=>exact hk _ h
theorem zaJ(hk:∀pf,K pf→K2 pf){y:PF}(h:zbT c K d y pf):zbT c K2 d y pf:=by
 cases d with
 |none=>exact hk _ h
 |some d=>
  refine⟨h.1,?_⟩;have h2:=h.2;split at h2
  ·rename_i hh;rw[if_pos hh];exact zy3 hk h2
  ·rename_i hh;rw[if_neg hh];exact hk _ h2
theorem zrP(hk:∀pf,K pf→K2 pf){x:Option AD}(h:pad c K d pf x):pad c K2 d pf x:=by
 cases x with
 |none=>exact h
 |some x=>exact zaJ hk h
theorem ziQ(hk:∀pf,K pf→K2 pf)(h:zfz P c o K pf):zfz P c o K2 pf:=by
 unfold zfz at h⊢;split at h
 ·split at h
  ·exact zaJ hk h
  ·exact h
 ·exact h
theorem zq5(hk:∀pf,K pf→K2 pf){r:PV}{x:Option PFr}(h:zwh c d K r x):zwh c d K2 r x:=by
 cases x with
 |none=>exact h
 |some x=>exact zaJ hk h
theorem zon(hk:∀pf,K pf→K2 pf){f:Operand}{args:List Operand}{ts:List TypeId}{ms:List Md}(h:zno P c f args ts d K pf ms):zno P c f args ts d K2 pf ms:=by
 refine⟨h.1,?_⟩;have h2:=h.2;unfold ztg at h2⊢;split at h2
 ·unfold zjC at h2⊢;split at h2
  ·exact h2.mono fun r outs hh=>⟨hh.1,zq5 hk hh.2⟩
  ·exact h2
 ·exact h2
theorem ztJ(hk:∀pf,K pf→K2 pf){f:Operand}{l:List (Md×Nat×Operand)}{x:Nat×FuncId×List PV}{y:Option (List PV×PFr)}(h:zmT P c f d K l x y):zmT P c f d K2 l x y:=by
 unfold zmT at h⊢;split at h
 ·refine⟨h.1,?_⟩;have h2:=h.2;unfold zjC at h2⊢;split at h2
  ·exact h2.mono fun r outs hh=>⟨hh.1,zq5 hk hh.2⟩
  ·exact h2
 ·exact h
theorem zu5(hk:∀pf,K pf→K2 pf){op:BinOp}{t:TypeId}{x:Operand}(h:zl0 P c op t x d K pf):zl0 P c op t x d K2 pf:=by
 unfold zl0 at h⊢;split at h
 ·exact⟨h.1,fun b hb=>zaJ hk (h.2 b hb)⟩
 ·exact h
theorem zvr(hk:∀pf,K pf→K2 pf){s t:TypeId}{x:Operand}(h:zkc P c s t x d K pf):zkc P c s t x d K2 pf:=by
 unfold zkc at h⊢;split at h
 ·exact⟨h.1,zaJ hk h.2⟩
 ·exact h
theorem zmx(hk:∀pf,K pf→K2 pf)(h:pop P c o K pf):pop P c o K2 pf:=by
 unfold pop at h⊢;split at h
 ·unfold znT at h⊢;split at h
  ·unfold zn1 at h⊢;split at h
   ·exact zaJ hk h
   ·exact h
  ·split at h
   ·exact zaJ hk h
   ·exact h
 ·unfold zlP at h⊢;split at h
  ·refine⟨h.1,h.2.1,?_⟩;have h3:=h.2.2;unfold zke at h3⊢;split at h3
   ·split at h3
    ·exact hk _ h3
    ·exact h3
   ·exact h3
  ·exact h
 ·exact zrP hk h
 ·unfold zlC at h⊢;split at h
  ·exact zaJ hk h
  ·split at h
   ·exact zaJ hk h
   ·exact h
 ·exact zrP hk h
 ·unfold zlJ at h⊢;split at h
  ·refine⟨h.1,?_⟩;have h3:=h.2;split at h3
   ·rename_i hh;rw[if_pos hh];exact hk _ h3
   ·rename_i hh;rw[if_neg hh];exact hk _ h3
  ·exact h
 ·unfold zqg at h⊢;split at h
  ·refine⟨h.1,h.2.1,h.2.2.1,?_⟩;have h3:=h.2.2.2;split at h3
   ·rename_i hh;rw[if_pos hh];split at h3
    ·rename_i hh;rw[if_pos hh];exact hk _ h3
    ·rename_i hh;rw[if_neg hh];exact hk _ h3
   ·rename_i hh;rw[if_neg hh];exact hk _ h3
  ·exact h
 ·unfold zqr at h⊢;split at h
  ·rename_i hm;rw[if_pos hm];unfold zpQ at h⊢;split at h
   ·exact zaJ hk h
   ·exact h
  rename_i hm;rw[if_neg hm];split at h
  ·refine⟨h.1,?_⟩;have h3:=h.2;unfold zru at h3⊢;split at h3
   ·exact⟨h3.1,hk _ h3.2⟩
   ·exact h3
  ·exact h
 ·unfold zlW at h⊢;split at h
  ·unfold zvW at h⊢;split at h
   ·exact zaJ hk h
   ·exact h
  ·exact h
 ·unfold znS zu7 at h⊢;split at h
  ·split at h
   ·exact zaJ hk h
   ·exact h
  ·split at h
   ·exact zaJ hk h
   ·exact h
  ·exact h
 ·unfold zn3 at h⊢;split at h
  ·unfold zvn at h⊢;split at h
   ·exact⟨h.1,zaJ hk h.2⟩
   ·exact h
  ·exact h
 ·unfold znR at h⊢;split at h
  ·rename_i hb;rw[if_pos hb];split at h
   ·exact zaJ hk h
   ·exact h
  ·rename_i hb;rw[if_neg hb];split at h
   ·exact zaJ hk h
   ·exact h
 ·unfold zj9 at h⊢;split at h
  ·unfold zhB at h⊢;split at h
   ·refine⟨h.1,?_⟩;have h3:=h.2;split at h3
    ·rename_i hh;rw[if_pos hh];exact zaJ hk h3
    ·rename_i hh;rw[if_neg hh];exact zaJ hk h3
   ·exact⟨h.1,zaJ hk h.2⟩
   ·exact zaJ hk h
   ·exact h
   ·exact h
   ·split at h
    ·rename_i hh;rw[if_pos hh];split at h
     ·exact zaJ hk h
     ·exact h
    ·rename_i hh;rw[if_neg hh];exact zaJ hk h
   ·exact zaJ hk h
  ·split at h
   ·exact zaJ hk h
   ·exact h
 ·unfold zko at h⊢;split at h
  ·exact zaJ hk h
  ·split at h
   ·exact zaJ hk h
   ·exact h
 ·unfold zi8 at h⊢;split at h
  ·refine⟨h.1,?_⟩;have h2:=h.2;unfold pex at h2⊢;split at h2
   ·refine⟨h2.1,?_⟩;have h3:=h2.2;split at h3
    ·rename_i hh;rw[if_pos hh];exact zaJ hk h3
    ·rename_i hh;rw[if_neg hh];exact zaJ hk h3
   ·exact h2
  ·exact h
 ·split at h
  ·rename_i hh;rw[if_pos hh];exact ziQ hk h
  ·rename_i hh;rw[if_neg hh];unfold zlE at h⊢;split at h
   ·unfold zqz at h⊢;split at h
    ·split at h
     ·exact zaJ hk h
     ·exact h
    ·split at h
     ·exact⟨h.1,h.2.1,zaJ hk h.2.2⟩
     ·exact h
    ·exact h
   ·exact h
 ·unfold zwj at h⊢;split at h
  ·split at h
   ·rename_i hh;rw[if_pos hh];exact ziQ hk h
   ·rename_i hh;rw[if_neg hh];unfold zo4 at h⊢;split at h
    ·split at h
     ·exact fun hl=>zaJ hk (h hl)
     ·exact h
    ·exact h
  ·exact h
 ·unfold zuW at h⊢;split at h
  ·split at h
   ·rename_i htt;rw[if_pos htt];unfold zqt at h⊢;split at h
    ·unfold zrw at h⊢;split at h
     ·split at h
      ·unfold zrs at h⊢;split at h
       ·exact⟨h.1,h.2.1,zaJ hk h.2.2⟩
       ·exact h
      ·exact h
     ·exact h
    ·exact h
   ·rename_i htt;rw[if_neg htt];unfold zpa at h⊢;split at h
    ·refine⟨h.1,?_⟩;have h:=h.2;unfold zvK at h⊢;split at h
     ·split at h
      ·exact⟨h.1,zaJ hk h.2⟩
      ·exact h
     ·exact h
    ·exact h
  ·exact h
 ·rcases h with⟨ms,h⟩|⟨g,x,t,n,z,a1,a2,a3,a4,a5,a6,h⟩|⟨ms,x,a1,a2,h⟩
  ·exact .inl ⟨ms,zon hk h⟩
  ·exact .inr (.inl ⟨g,x,t,n,z,a1,a2,a3,a4,a5,a6,zaJ hk h⟩)
  ·exact .inr (.inr ⟨ms,x,a1,a2,ztJ hk h⟩)
 all_goals first
  |exact ziQ hk h
  | (split at h
     ·rename_i hh;rw[if_pos hh];exact⟨h.1,zu5 hk h.2⟩
     ·rename_i hh;rw[if_neg hh];exact ziQ hk h)
  | (split at h
     ·rename_i hh;rw[if_pos hh];exact⟨h.1,zvr hk h.2⟩
     ·rename_i hh;rw[if_neg hh];exact ziQ hk h)
  |exact h
theorem zvz(hk:∀pf,K pf→K2 pf)(h:zj0 c d K pf):zj0 c d K2 pf:=by
 cases d with
 |none=>exact hk _ h
 |some d=>exact⟨h.1,hk _ h.2⟩
theorem zsE(hk:∀pf,K pf→K2 pf){b:Bool}{r r2:Prop}(hr:r→r2){y:Option (Option Bool)}(h:pgo c b d r K pf y):pgo c b d r2 K2 pf y:=by
 unfold pgo at h⊢;split at h
 ·split at h
  ·rename_i hh;rw[if_pos hh];exact hr h
  ·rename_i hh;rw[if_neg hh];exact zvz hk h
 ·exact h
theorem zww{pre:List (Option Tmp)}:∀{l:List Oper}{K K2:PFr→Prop}(_:∀pf,K pf→K2 pf) {pf:PFr},zo0 P c pre l K pf→zo0 P c pre l K2 pf:=by
 intro l;induction l with
 |nil=>intro K K2 hk pf h;exact hk _ h
 |cons o l ih=>
  intro K K2 hk pf h;simp only[zo0,znl]at h⊢;split at h
  ·exact zmx (fun _ hh=>ih hk hh) h
  ·exact zsE (fun _ hh=>ih hk hh) (zmx fun _ hh=>ih hk hh) h
theorem zqU(hk:∀pf,K pf→K2 pf){ext:Bool}(h:zjH P c ext o K pf):zjH P c ext o K2 pf:=by
 unfold zjH at h⊢;split at h
 ·split at h
  ·rename_i hx;rw[if_pos hx];exact zon hk h
  ·rename_i hx;rw[if_neg hx];exact zmx hk h
 ·exact⟨h.1,zmx hk h.2⟩
theorem zv4{pre:List (Option Tmp)}:∀{l:List (DE×Oper)}{K K2:PFr→Prop}(_:∀pf,K pf→K2 pf) {pf:PFr},znZ P c pre l K pf→znZ P c pre l K2 pf:=by
 intro l;induction l with
 |nil=>intro K K2 hk pf h;exact hk _ h
 |cons x l ih=>
  obtain⟨e,o⟩:=x;intro K K2 hk pf h;refine⟨h.1,?_⟩;have h2:=h.2;unfold zpS at h2⊢;split at h2
  ·exact zqU (fun _ hh=>ih hk hh) h2
  ·exact zsE (fun _ hh=>ih hk hh) (zqU fun _ hh=>ih hk hh) h2
theorem zox:∀(x:Code) {Q Q2:Exit→PFr→Prop},(∀e pf,Q e pf→Q2 e pf)→∀{pf},pwp P c x Q pf→pwp P c x Q2 pf:=by
 intro x;induction x with
 |skip=>intro Q Q2 hq pf h;exact hq _ _ h
 |region id ops draw=>
  intro Q Q2 hq pf h;simp only[pwp]at h⊢;split at h
  ·rename_i hd;rw[if_pos hd];obtain⟨a,n,h⟩:=h;exact⟨a,n,zln (fun _=>zv4 (hq .normal)) h⟩
  ·rename_i hd;rw[if_neg hd];exact zww (hq .normal) h
 |seq x y ihx ihy=>
  intro Q Q2 hq pf h;refine ihx (fun e pf h=>?_) h;cases e<;>try exact hq _ _ h
  obtain⟨pf2,hw,h⟩:=h;exact⟨pf2,hw,ihy hq h⟩
 |cond b x y ihx ihy=>
  intro Q Q2 hq pf h;obtain⟨pf2,hw,h⟩:=h;refine⟨pf2,hw,?_⟩;unfold zzl at h⊢;split at h
  ·split at h
   ·rename_i e;rw[if_pos e];exact ihx hq h
   ·rename_i e;rw[if_neg e];exact ihy hq h
  ·exact h
 |block id b ih=>
  intro Q Q2 hq pf h;refine ih (fun e pf h=>?_) h;cases e<;>try exact hq _ _ h
  simp only[znp]at h⊢;split at h
  ·rename_i e;rw[if_pos e];exact hq _ _ h
  ·rename_i e;rw[if_neg e];exact hq _ _ h
 |loop b ih=>
  intro Q Q2 hq pf h;obtain⟨n,hn⟩:=h;refine⟨n,?_⟩;induction n generalizing pf with
  |zero=>exact hn
  |succ n ihn=>
   obtain⟨pf2,hw,hn⟩:=hn;refine⟨pf2,hw,ih (fun e pf h=>?_) hn⟩;cases e<;>first|exact ihn h|exact hq _ _ h
 |exit id=>intro Q Q2 hq pf h;exact hq _ _ h
 |ret=>intro Q Q2 hq pf h;exact hq _ _ h
 |_=>intros;rename_i h;exact absurd h (by simp[pwp])
end
section
variable {P:Program}{c:Cfg}{k:List PIt}{Q:Exit→PFr→Prop}{pf:PFr}
variable{b:Operand}{id:Nat}{x y:Code}
theorem zyH{pf':PFr}(h:pf=pf'):pw P c k Q pf=pw P c k Q pf':=by rw[h]
@[go_sem ↓] theorem zOS:pw P c [] Q pf=Q .normal pf:=rfl
@[go_sem ↓] theorem zO0{i:Nat}:pw P c (.blk i::k) Q pf=pw P c k Q pf:=rfl
@[go_sem ↓] theorem zOh:pw P c (.code .skip::k) Q pf=pw P c k Q pf:=rfl
@[go_sem ↓] theorem zte :pw P c (.code (.seq x y)::k) Q pf=pw P c (.code x::.wk y::k) Q pf:=by
 show pwp P c x (zzz (fun pf=>∃pf2,PWeak pf2 pf∧pwp P c y (zcs P c k Q) pf2) (zcs P c k Q)) pf=pwp P c x (zcs P c (.wk y::k) Q) pf;congr 1;funext e;cases e<;>rfl
@[go_sem ↓] theorem pw_block{b:Code}:pw P c (.code (.block id b)::k) Q pf=pw P c (.code b::.blk id::k) Q pf:=by
 show pwp P c b (znp id (zcs P c k Q)) pf=pwp P c b (zcs P c (.blk id::k) Q) pf;congr 1;funext e;cases e<;>try rfl
 funext pf;simp only[znp,zcs];split<;>rfl
theorem zqW:zcs P c k Q .ret=Q .ret:=by
 induction k with
 |nil=>rfl
 |cons it k ih=>exact ih
@[go_sem ↓] theorem zPz:pw P c (.code .ret::k) Q pf=Q .ret pf:=by
 show zcs P c k Q .ret pf=_;rw[zqW]
def pwx(P:Program)(c:Cfg)(id:Nat)(k:List PIt)(Q:Exit→PFr→Prop)(pf:PFr):Prop:=zcs P c k Q (.exit id) pf
@[go_sem ↓] theorem zOF :pw P c (.code (.exit id)::k) Q pf=pwx P c id k Q pf:=rfl
@[go_sem ↓] theorem zMu :pwx P c id [] Q pf=Q (.exit id) pf:=rfl
@[go_sem ↓] theorem zLq :pwx P c id (.code x::k) Q pf=pwx P c id k Q pf:=rfl
@[go_sem ↓] theorem zOX :pwx P c id (.wk x::k) Q pf=pwx P c id k Q pf:=rfl
@[go_sem ↓] theorem zMC{pre:List (Option Tmp)}{l:List Oper}:pwx P c id (.ops pre l::k) Q pf=pwx P c id k Q pf:=rfl
@[go_sem ↓] theorem zKQ{pre:List (Option Tmp)}{l:List (DE×Oper)}:pwx P c id (.dops pre l::k) Q pf=pwx P c id k Q pf:=rfl
@[go_sem ↓] theorem zMk{i:Nat}:pwx P c id (.blk i::k) Q pf=if id=i then pw P c k Q pf else pwx P c id k Q pf:=by
 show(zcs P c (.blk i::k) Q (.exit id)) pf=_;simp only[zcs];split<;>rfl
def PFr.ofL:List (Nat×PF)→PFr
 |[],_=>jP
 |(s,x)::l,t=>if t=s then x else PFr.ofL l t
def zdc:List (Nat×PF)→PFr→Prop
 |[],_=>True
 |(s,x)::l,pf=>pf s=x∧zdc l pf
@[go_sem] theorem zGJ{pf:PFr}:zdc [] pf=True:=rfl
@[go_sem] theorem zDA{s:Nat}{x:PF}{l:List (Nat×PF)}{pf:PFr}:zdc ((s,x)::l) pf=(pf s=x∧zdc l pf):=rfl
theorem zr2:∀{l:List (Nat×PF)}{pf:PFr},zdc l pf→∀t,PFr.ofL l t=pf t∨PFr.ofL l t=jP:=by
 intro l;induction l with
 |nil=>intro pf _ t;exact .inr rfl
 |cons p l ih=>
  intro pf h t;obtain⟨s,x⟩:=p;obtain⟨h1,h2⟩:=h;by_cases e:t=s
  ·subst e;left;simp[PFr.ofL,h1]
  ·rcases ih h2 t with e2|e2
   ·left;simpa[PFr.ofL,e]using e2
   ·right;simpa[PFr.ofL,e]using e2
theorem zjo{l:List (Nat×PF)}{pf:PFr}(h:zdc l pf):PWeak (PFr.ofL l) pf:=.w (zr2 h)
theorem zpi:PWeak pf pf:=.w fun _=>.inl rfl
theorem znx(s:Nat){y:PV}(hs:pf s=.v y)(hy:isJ y=false)(h:pw P c (.wk x::k) Q ((pf.upd s (.v (drop y))).kill s 0)):pw P c (.wk x::k) Q pf:=
 let⟨pf2,h1,h2⟩:=h;⟨pf2,.f s y hs hy h1,h2⟩
theorem zsD:∀(row:List PV) (j:Nat) (y:PV),j<row.length→zfW row j [y]=some (row.set j y)
 |[],_,_,h=>by simp at h
 |c::cs,0,y,_=>by cases cs<;>rfl
 |c::cs,j+1,y,h=>by
  show(zfW cs j [y]).map (c:: ·)=some (c::cs.set j y);rw[zsD cs j y (by simpa using h)];rfl
theorem zy6{pf2 pf:PFr}(s j:Nat){row:List PV}{y:PV}(hs:pf s=.bl row)(hy:row[j]? =some y)(hj:isJ y=false)(h:PWeak pf2 ((pf.upd s (.bl (row.set j (drop y)))).kill s 1)):PWeak pf2 pf:=by
 have hl:j<row.length:=(List.getElem?_eq_some_iff.1 hy).1;refine .g s [(0,j)] y (by simp) ?_ hj ?_ h
 ·simp[zaG,hs,zbH,zfn,zdz,hy]
 ·simp[zda,zho,zfr,hs,zbH,zfL,zfh,zsD _ _ _ hl,zgZ]
theorem zfC(s j:Nat){row:List PV}{y:PV}(hs:pf s=.bl row)(hy:row[j]? =some y)(hj:isJ y=false)(h:pw P c (.wk x::k) Q ((pf.upd s (.bl (row.set j (drop y)))).kill s 1)):pw P c (.wk x::k) Q pf:=
 let⟨pf2,h1,h2⟩:=h;⟨pf2,zy6 s j hs hy hj h1,h2⟩
theorem zap(h:pw P c (.code x::k) Q pf):pw P c (.wk x::k) Q pf:=⟨pf,zpi,h⟩
theorem zne(l:List (Nat×PF))(ha:zdc l pf)(h:pw P c (.code x::k) Q (PFr.ofL l)):pw P c (.wk x::k) Q pf:=⟨PFr.ofL l,zjo ha,h⟩
theorem zoI{v:Bool}(hb:rdS pf b=some (.bool v))(ht:v=true→pw P c (.code x::k) Q pf)(he:v=false→pw P c (.code y::k) Q pf):
 pw P c (.code (.cond b x y)::k) Q pf:=by
 refine⟨pf,zpi,?_⟩;rw[hb];cases v
 ·exact he rfl
 ·exact ht rfl
theorem zk4(hb:rdS pf b=some (.bool true))(ht:pw P c (.code x::k) Q pf):pw P c (.code (.cond b x y)::k) Q pf:=zoI hb (fun _=>ht) (fun h=>by cases h)
theorem zng(hb:rdS pf b=some (.bool false))(ht:pw P c (.code y::k) Q pf):pw P c (.code (.cond b x y)::k) Q pf:=zoI hb (fun h=>by cases h) (fun _=>ht)
def zwT{σ:Type}(shape:σ→List (Nat×PF))(I:σ→Prop)(meas:σ→Nat)(n:Nat)(pf:PFr):Prop:=∃s,zdc (shape s) pf∧I s∧meas s<n
def zwS{σ:Type}(P:Program)(c:Cfg)(shape:σ→List (Nat×PF))(I:σ→Prop)(meas:σ→Nat)(n:Nat)(k:List PIt)(Q:Exit→PFr→Prop):Exit→PFr→Prop
 | .normal,pf=>zwT shape I meas n pf
 |e,pf=>zcs P c k Q e pf
@[go_sem ↓] theorem zA8{σ:Type}{shape:σ→List (Nat×PF)}{I:σ→Prop}{meas:σ→Nat}{n:Nat}:zwS P c shape I meas n k Q .normal pf=zwT shape I meas n pf:=rfl
@[go_sem ↓] theorem zDV{σ:Type}{shape:σ→List (Nat×PF)}{I:σ→Prop}{meas:σ→Nat}{n:Nat}:zwS P c shape I meas n k Q (.exit id) pf=pwx P c id k Q pf:=rfl
end
end Go.Pm
