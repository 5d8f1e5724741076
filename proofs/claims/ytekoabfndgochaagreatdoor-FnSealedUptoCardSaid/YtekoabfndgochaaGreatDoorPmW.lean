import Derived.Test.YtekoabfndgochaaGreatDoorPmV
namespace Go.Pm
open Go.Am
def d0(i:Nat)(s:List Nat):DE:=⟨i,s,[],none,false,false,false⟩
def d1(i:Nat)(s:List Nat)(r:Nat):DE:=⟨i,s,[r],none,false,false,false⟩
def d2(i:Nat)(s:List Nat)(r m:Nat):DE:=⟨i,s,[r],some m,false,false,false⟩
def d3(i:Nat)(s:List Nat):DE:=⟨i,s,[],none,false,true,true⟩
variable{i:Nat}{s:List Nat}
@[go_sem] theorem zQH :d0 i s=⟨i,s,[],none,false,false,false⟩:=(rfl)
@[go_sem] theorem zRc{r:Nat}:d1 i s r=⟨i,s,[r],none,false,false,false⟩:=(rfl)
@[go_sem] theorem zP4{r m:Nat}:d2 i s r m=⟨i,s,[r],some m,false,false,false⟩:=(rfl)
@[go_sem] theorem zQr :d3 i s=⟨i,s,[],none,false,true,true⟩:=(rfl)
def Rn{α:Type}(e:Option α)(φ:α→Prop):Prop:=∃a,e=some a∧φ a
theorem zfB{α β:Type}{e:Option α}{f:α→Option β}{φ:β→Prop}(h:Rn (e.bind f) φ):∃a,e=some a∧Rn (f a) φ:=by
 obtain⟨b,h1,h2⟩:=h;rw[Option.bind_eq_some_iff]at h1;obtain⟨a,h3,h4⟩:=h1;exact⟨a,h3,b,h4,h2⟩
theorem zaa{α:Type}{a:α}{φ:α→Prop}(h:Rn (some a) φ):φ a:=by
 obtain⟨b,h1,h2⟩:=h;cases h1;exact h2
theorem zud{α:Type}{φ:α→Prop}(h:Rn none φ):False:=by
 obtain⟨b,h1,_⟩:=h;cases h1
def gd{α:Type}(p:Prop)[Decidable p](e:Option α):Option α:=if p then e else none
theorem zhG{α:Type}{p:Prop}[Decidable p]{e:Option α}{φ:α→Prop}(h:Rn (gd p e) φ):p∧Rn e φ:=by
 unfold gd at h;by_cases hp:p
 ·rw[if_pos hp]at h;exact⟨hp,h⟩
 ·rw[if_neg hp]at h;exact(zud h).elim
theorem zyt{α:Type}{v:Bool}{e e':Option α}{φ:α→Prop}(h:Rn (if v=true then e else e') φ)(hv:v=true):Rn e φ:=by rwa [if_pos hv]at h
theorem zy7{α:Type}{v:Bool}{e e':Option α}{φ:α→Prop}(h:Rn (if v=true then e else e') φ)(hv:v=false):Rn e' φ:=by rwa [if_neg (by simp[hv])]at h
theorem zAa{α:Type}{e:Option α}{φ ψ:α→Prop}(h:Rn e φ)(hm:∀a,φ a→ψ a):Rn e ψ:=by
 obtain⟨a,h1,h2⟩:=h;exact⟨a,h1,hm a h2⟩
def ix{α:Type}(l:List α)(i:Int):Option α:=if 0≤i then l[i.toNat]? else none
theorem zn7{α:Type}{l:List α}{i:Int}{x:α}(h:ix l i=some x):0≤i∧i<l.length∧l[i.toNat]? =some x:=by
 unfold ix at h;by_cases hi:0≤i
 ·rw[if_pos hi]at h;have:=(List.getElem?_eq_some_iff.1 h).1;exact⟨hi,by omega,h⟩
 ·rw[if_neg hi]at h;cases h
theorem zBq{α:Type}{l:List α}{i:Int}{x:α}(h:ix l i=some x):∀h:i.toNat<l.length,l[i.toNat]'h=x:=fun h'=>by
 have:=(zn7 h).2.2;rw[List.getElem?_eq_getElem h']at this;exact Option.some.inj this
theorem zBj{α:Type}{l:List α}:ix l (i:Int)=l[i]? :=by simp[ix]
theorem wrI{n:Int}(h: -9223372036854775808≤n∧n≤9223372036854775807):IntKind.i64.wrap n=n:=by rw[IntKind.wrap_i64];omega
inductive Stp (σ β:Type) where
 |go (s:σ)
 |out (b:β)
def zhT{σ β:Type}(step:σ→Option (Stp σ β)):Nat→σ→Option β
 |0,_=>none
 |n+1,s=>(step s).bind fun
  | .go s'=>zhT step n s'
  | .out b=>some b
open Classical in
noncomputable def zaH{σ β:Type}(step:σ→Option (Stp σ β))(s:σ):Option β:=if h:∃b n,zhT step n s=some b then some h.choose else none
theorem zq1{σ β:Type}{step:σ→Option (Stp σ β)}:∀{n m:Nat}{s:σ}{b:β},zhT step n s=some b→n≤m→zhT step m s=some b:=by
 intro n;induction n with
 |zero=>intro m s b h;simp[zhT]at h
 |succ n ih=>
  intro m s b h hm;cases m with
  |zero=>omega
  |succ m=>
   simp only[zhT]at h⊢;cases hs:step s with
   |none=>rw[hs]at h;exact h
   |some x=>
    rw[hs]at h;cases x with
    |go s'=>exact ih h (by omega)
    |out b=>exact h
theorem zkZ{σ β:Type}{step:σ→Option (Stp σ β)}{s:σ}{b:β}:zaH step s=some b↔∃n,zhT step n s=some b:=by
 constructor
 ·intro h;unfold zaH at h;split at h
  ·rename_i hx;cases h;exact hx.choose_spec
  ·cases h
 ·rintro⟨n,h⟩;have hx:∃b n,zhT step n s=some b:=⟨b,n,h⟩
  unfold zaH;rw[dif_pos hx];obtain⟨m,hm⟩:=hx.choose_spec;have a1:=zq1 hm (Nat.le_max_right n m);have a2:=zq1 h (Nat.le_max_left n m);rw[a1]at a2;exact a2
theorem zms{σ β:Type}{step:σ→Option (Stp σ β)}{s:σ}:zaH step s=(step s).bind fun
 | .go s'=>zaH step s'
 | .out b=>some b:=by
 apply Option.ext;intro b;rw[zkZ];constructor
 ·rintro⟨n,h⟩;cases n with
  |zero=>simp[zhT]at h
  |succ n=>
   simp only[zhT]at h;cases hs:step s with
   |none=>rw[hs]at h;exact h
   |some x=>
    rw[hs]at h;cases x with
    |go s'=>exact zkZ.2 ⟨n,h⟩
    |out b=>exact h
 ·intro h;cases hs:step s with
  |none=>rw[hs]at h;cases h
  |some x=>
   rw[hs]at h;cases x with
   |go s'=>
    obtain⟨n,hn⟩:=zkZ.1 (show zaH step s'=some b from h);exact⟨n+1,by simp only[zhT,hs];exact hn⟩
   |out b'=>exact⟨1,by simp only[zhT,hs];exact h⟩
open Classical in
noncomputable def zqd{β:Type}(f:Nat→Option β):Option β:=if h:∃b n,f n=some b then some h.choose else none
theorem zxF{β:Type}{f:Nat→Option β}{b:β}(h:zqd f=some b):∃n,f n=some b:=by
 unfold zqd at h;split at h
 ·rename_i hx;cases h;exact hx.choose_spec
 ·cases h
theorem zAQ{β:Type}{f:Nat→Option β}{n:Nat}{b:β}(h:f n=some b):∃b n,zqd f=some b∧f n=some b:=by
 have hx:∃b n,f n=some b:=⟨b,n,h⟩
 obtain⟨m,hm⟩:=hx.choose_spec;exact⟨hx.choose,m,by unfold zqd;rw[dif_pos hx],hm⟩
def zar{σ β:Type}(body:Int→σ→Option (Stp σ β))(stop:σ→β):Nat→Int→σ→Option β
 |0,_,s=>some (stop s)
 |k+1,i,s=>(body i s).bind fun
  | .go s'=>zar body stop k (i+1) s'
  | .out b=>some b
section
variable {P:Program}{c:Cfg}{k:List PIt}{Q:Exit→PFr→Prop}{pf:PFr}
def lp1(P:Program)(c:Cfg)(N:PFr→Prop)(k:List PIt)(Q:Exit→PFr→Prop):Exit→PFr→Prop
 | .normal,pf=>N pf
 |e,pf=>zcs P c k Q e pf
variable{A C N:PFr→Prop}{B G a a0:Prop}{R:PV→List PV→Prop}{args:Array Operand}{as as':List (Md×PV)}{b f:Operand}{bd code x y:Code}{co:Cfg}{d:Option Tmp}{fn:Func}{g:FuncId}{i:Int}{id n:Nat}{l:List (Md×Nat×Operand)}{op:Op}{ow:Bool}{pf1:PFr}{s:ByteArray}{ts:Array TypeId}{ty:TypeId}
@[go_sem] theorem zGX :lp1 P c N k Q .normal pf=N pf:=rfl
@[go_sem] theorem zLh :lp1 P c N k Q (.exit id) pf=pwx P c id k Q pf:=rfl
@[go_sem] theorem zMd :lp1 P c N k Q .ret pf=Q .ret pf:=by
 show zcs P c k Q .ret pf=_;rw[zqW]
theorem zyu{σ β:Type}(shape:σ→List (Nat×PF)){step:σ→Option (Stp σ β)}{b:β}{s0:σ}(hb:zaH step s0=some b)(ha:zdc (shape s0) pf)
(round:∀s (φ:Stp σ β→Prop) (N:PFr→Prop),(∀b',φ (.out b')→b'=b)→(∀s' pf,zdc (shape s') pf→φ (.go s')→N pf)→Rn (step s) φ→pw P c [.code bd] (lp1 P c N k Q) (PFr.ofL (shape s))):pw P c (.code (.loop bd)::k) Q pf:=by
 obtain⟨n,hn⟩:=zkZ.1 hb;refine⟨n,?_⟩
 have key:∀n s pf,zhT step n s=some b→zdc (shape s) pf→zi7 (pwp P c bd) (zcs P c k Q) n pf:=by
  intro n;induction n with
  |zero=>intro s pf h;simp[zhT]at h
  |succ n ih=>
   intro s pf h hA;refine⟨PFr.ofL (shape s),zjo hA,?_⟩
   have hr:=round s (fun x=>match x with| .go s'=>zhT step n s'=some b| .out b'=>b'=b) (fun pf=>zi7 (pwp P c bd) (zcs P c k Q) n pf) (fun b' h=>h) (fun s' pf hp h=>ih s' pf h hp) (by
    simp only[zhT]at h;rw[Option.bind_eq_some_iff]at h;obtain⟨x,h1,h2⟩:=h;refine⟨x,h1,?_⟩;cases x with
    |go s'=>exact h2
    |out b'=>exact Option.some.inj h2)
   refine zox bd ?_ hr;intro e pf' hq;cases e<;>exact hq
 exact key n s0 pf hn ha
theorem zyP{σ β:Type}(shape:Int→σ→List (Nat×PF)){body:Int→σ→Option (Stp σ β)}{stop:σ→β}{m:Nat}{i0:Int}{b:β}{s0:σ}(hb:zar body stop m i0 s0=some b)(ha:zdc (shape i0 s0) pf)
(last:∀s (N:PFr→Prop),stop s=b→pw P c [.code bd] (lp1 P c N k Q) (PFr.ofL (shape (i0+m) s)))
(round:∀i s (φ:Stp σ β→Prop) (N:PFr→Prop),i0≤i→i<i0+m→(∀b',φ (.out b')→b'=b)→(∀s' pf,zdc (shape (i+1) s') pf→φ (.go s')→N pf)→Rn (body i s) φ→pw P c [.code bd] (lp1 P c N k Q) (PFr.ofL (shape i s))):pw P c (.code (.loop bd)::k) Q pf:=by
 refine⟨m+1,?_⟩
 have key:∀n i s pf,zar body stop n i s=some b→i0≤i→i+n=i0+m→zdc (shape i s) pf→zi7 (pwp P c bd) (zcs P c k Q) (n+1) pf:=by
  intro n;induction n with
  |zero=>
   intro i s pf h h0 hi hA;refine⟨PFr.ofL (shape i s),zjo hA,?_⟩;have e:i=i0+m:=by omega
   subst e;have hr:=last s (fun pf=>zi7 (pwp P c bd) (zcs P c k Q) 0 pf) (by simpa[zar]using h);refine zox bd ?_ hr;intro e pf' hq;cases e<;>exact hq
  |succ n ih=>
   intro i s pf h h0 hi hA;refine⟨PFr.ofL (shape i s),zjo hA,?_⟩
   have hr:=round i s (fun x=>match x with| .go s'=>zar body stop n (i+1) s'=some b| .out b'=>b'=b) (fun pf=>zi7 (pwp P c bd) (zcs P c k Q) (n+1) pf) h0 (by omega) (fun b' h=>h)
    (fun s' pf hp h=>ih (i+1) s' pf h (by omega) (by omega) hp) (by
    simp only[zar]at h;rw[Option.bind_eq_some_iff]at h;obtain⟨x,h1,h2⟩:=h;refine⟨x,h1,?_⟩;cases x with
    |go s'=>exact h2
    |out b'=>exact Option.some.inj h2)
   refine zox bd ?_ hr;intro e pf' hq;cases e<;>exact hq
 exact key m i0 s0 pf hb (by omega) (by omega) ha
def clE(_ms:List Md)(l:List (Md×Nat×Operand))(f:Operand)(pf:PFr):Option (FuncId×List (Md×PV)×Bool×PFr×Nat):=
 (zjj pf l).bind fun y=>(fnO y.2 f).bind fun g=>(cargs y.2 l y.1).map fun as=>(g.1,g.2.1.map (fun x=>(Md.sh,x))++as++g.2.2.map (fun x=>(Md.sh,x)),l.any (zjn y.2),y.2,g.2.1.length)
theorem zyY(ms:List Md){x:Option (FuncId×List (Md×PV)×Bool×PFr×Nat)}
(hm:ms.length=args.toList.length)(hl:ms.zip (zeu P args.toList ts.toList)=l)(hx:clE ms l f pf=x)(hx':x=some (g,as,ow,pf1,n))(h:PCalls P g as' R)(has:as=as')
(hk:∀r outs,R r outs→(ow=false∨(zbo r&&outs.all zbo)=true)∧qv P c co ((back co.nt pf1 l (outs.drop n)).map fun p=>(.v r,p)) d k Q):pw1 P c co ty (.call ⟨.value f,args,ts⟩) d k Q pf:=by
 subst has;rw[hx']at hx;simp only[clE,Option.bind_eq_some_iff,Option.map_eq_some_iff]at hx;obtain⟨y,h1,g',h2,as0,h3,h4⟩:=hx;cases h4;exact zAs ms hm hl h1 (show fnO y.2 f=some (g'.1,g'.2.1,g'.2.2)from h2) h3 rfl h hk
theorem zwB{x:Option (FuncId×List (Md×PV)×Bool×PFr×Nat)}
(hl:(List.replicate args.toList.length Md.sh).zip (zeu P args.toList ts.toList)=l)(hx:clE (List.replicate args.toList.length Md.sh) l f pf=x)(hx':x=some (g,as,ow,pf1,n))(h:PCalls P g as' R)(has:as=as')
(hk:∀r outs,R r outs→(ow=false∨(zbo r&&outs.all zbo)=true)∧qv P c c ((back c.nt pf1 l (outs.drop n)).map fun p=>(.v r,p)) d k Q):pwd P c true ty (.call ⟨.value f,args,ts⟩) d k Q pf:=by
 subst has;rw[hx']at hx;simp only[clE,Option.bind_eq_some_iff,Option.map_eq_some_iff]at hx;obtain⟨y,h1,g',h2,as0,h3,h4⟩:=hx;cases h4;exact zyI hl h1 (show fnO y.2 f=some (g'.1,g'.2.1,g'.2.2)from h2) h3 rfl h hk
theorem zzh{α β:Type}{e:Option α}{f:α→Option β}{φ:β→Prop}{i:PIt}(l:α→List (Nat×PF))(hF:Rn (e.bind f) φ)(hr:∀x,Rn (f x) φ→pw P c (.code y::k) Q (PFr.ofL (l x)))
(hc:∀ψ:α→Prop,(∀x pf,zdc (l x) pf→ψ x→pw P c (.wk y::k) Q pf)→Rn e ψ→pw P c (i::.wk y::k) Q pf):pw P c (i::.wk y::k) Q pf:=by
 obtain⟨a,h1,h2⟩:=zfB hF;exact hc (fun a=>Rn (f a) φ) (fun x _ ha hj=>zne (l x) ha (hr x hj)) ⟨a,h1,h2⟩
theorem zyJ{α β:Type}{e:Option (α ⊕ β)}{f:α→Option β}{φ:β→Prop}{i:PIt}(l:α→List (Nat×PF))(hF:Rn (e.bind (Sum.elim f some)) φ)(hr:∀x,Rn (f x) φ→pw P c (.code y::k) Q (PFr.ofL (l x)))
(hc:∀ψ:α ⊕ β→Prop,(∀x pf,zdc (l x) pf→ψ (.inl x)→pw P c (.wk y::k) Q pf)→(∀r,ψ (.inr r)→φ r)→Rn e ψ→pw P c (i::.wk y::k) Q pf):pw P c (i::.wk y::k) Q pf:=by
 obtain⟨a,h1,h2⟩:=zfB hF;exact hc (fun a=>Rn (Sum.elim f some a) φ) (fun x _ ha hj=>zne (l x) ha (hr x hj)) (fun r h=>zaa h) ⟨a,h1,h2⟩
theorem zog{α:Type}{f:FuncId}{F:Option α}{r:α}{R:α→PV→List PV→Prop}(fz hp:List Nat)(hF:F=some r)(hc:zad P f)(hf:P.funcs[f]? =some fn)(hb:fn.body=some code)(hlen:as.length≤fn.ntmps)
(h:∀φ:α→Prop,(∀r',φ r'→r'=r)→Rn F φ→pw P ⟨fn.ntmps,ioL 0 as,fz,hp⟩ [.code code] (zkq P fn.results.toList as (R r)) (zh7 as)):PCalls P f as (R r):=
 ztI fz hp hc hf hb hlen (h (fun r'=>r'=r) (fun _ h=>h) ⟨r,hF,rfl⟩)
def Eo(x:PV)(l:List PV):PV→List PV→Prop:=fun o os=>o=x∧os=l
def Ef(x:PV)(l:List PV):PV→List PV→Prop:=fun o os=>drop o=x∧os=l
@[go_sem] theorem zQG{x o:PV}{l os:List PV}:Ef x l o os=(drop o=x∧os=l):=rfl
@[go_sem] theorem zQq{x o:PV}{l os:List PV}:Eo x l o os=(o=x∧os=l):=rfl
@[go_sem ↓] theorem zOM{rows:List (List PV)}:qln P c co (some rows) d k Q pf=(rows.length≤zdp→qv P c co (some (.v (.int .i64 rows.length),pf)) d k Q):=rfl
theorem zwq(ks:List Nat):zdc (ks.map fun s=>(s,pf s)) pf:=by
 induction ks with
 |nil=>trivial
 |cons s ks ih=>exact⟨rfl,ih⟩
theorem zB9(ks:List Nat){l:List (Nat×PF)}(h:(ks.map fun s=>(s,pf s))=l)(h2:pw P c (.code x::k) Q (PFr.ofL l)):pw P c (.wk x::k) Q pf:=by
 subst h;exact zne _ (zwq ks) h2
theorem zGN{α:Type}{v:Bool}{e e':Option α}{φ:α→Prop}(hF:Rn (if v=true then e else e') φ)(hb:rdS pf b=some (.bool v))(ht:v=true→Rn e φ→pw P c (.code x::k) Q pf)(he:v=false→Rn e' φ→pw P c (.code y::k) Q pf):
 pw P c (.code (.cond b x y)::k) Q pf:=zoI hb (fun h=>ht h (zyt hF h)) fun h=>he h (zy7 hF h)
theorem zHs{α:Type}{y b:Bool}{e e':Option α}{φ:α→Prop}(hF:Rn (if y=true then e else e') φ)(h1:y=true→Rn e φ→pwg P c (some (some true)) b ty op d k Q pf)(h2:y=false→Rn e' φ→pwg P c (some (some false)) b ty op d k Q pf):pwg P c (some (some y)) b ty op d k Q pf:=
 zx6 (fun h=>h1 h (zyt hF h)) fun h=>h2 h (zy7 hF h)
theorem zBD{α:Type}{y b ext:Bool}{e e':Option α}{φ:α→Prop}(hF:Rn (if y=true then e else e') φ)(h1:y=true→Rn e φ→zgr P c (some (some true)) b ext ty op d k Q pf)(h2:y=false→Rn e' φ→zgr P c (some (some false)) b ext ty op d k Q pf):zgr P c (some (some y)) b ext ty op d k Q pf:=
 zwm (fun h=>h1 h (zyt hF h)) fun h=>h2 h (zy7 hF h)
theorem zFi{α β:Type}{e:Option α}{F:α→Option β}{φ:β→Prop}(hF:Rn (e.bind F) φ)(ms:List Md){x:Option (FuncId×List (Md×PV)×Bool×PFr×Nat)}{ro:α→PV}{ol:α→List PV}
(h:∀{r},e=some r→PCalls P g as' (Eo (ro r) (ol r)))(hm:ms.length=args.toList.length)(hl:ms.zip (zeu P args.toList ts.toList)=l)(hx:clE ms l f pf=x)(hx':x=some (g,as,ow,pf1,n))(has:as=as')
(hk:∀z,Rn (F z) φ→(ow=false∨(zbo (ro z)&&(ol z).all zbo)=true)∧qv P c co ((back co.nt pf1 l ((ol z).drop n)).map fun p=>(.v (ro z),p)) d k Q):pw1 P c co ty (.call ⟨.value f,args,ts⟩) d k Q pf:=by
 obtain⟨a,ha,hr⟩:=zfB hF;refine zyY ms hm hl hx hx' (h ha) has fun r outs ho=>?_
 obtain⟨rfl,rfl⟩:=ho;exact hk a hr
theorem zBI{α β:Type}{e:Option α}{F:α→Option β}{φ:β→Prop}(hF:Rn (e.bind F) φ){x:Option (FuncId×List (Md×PV)×Bool×PFr×Nat)}{ro:α→PV}{ol:α→List PV}
(h:∀{r},e=some r→PCalls P g as' (Eo (ro r) (ol r)))(hl:(List.replicate args.toList.length Md.sh).zip (zeu P args.toList ts.toList)=l)(hx:clE (List.replicate args.toList.length Md.sh) l f pf=x)(hx':x=some (g,as,ow,pf1,n))(has:as=as')
(hk:∀z,Rn (F z) φ→(ow=false∨(zbo (ro z)&&(ol z).all zbo)=true)∧qv P c c ((back c.nt pf1 l ((ol z).drop n)).map fun p=>(.v (ro z),p)) d k Q):pwd P c true ty (.call ⟨.value f,args,ts⟩) d k Q pf:=by
 obtain⟨a,ha,hr⟩:=zfB hF;refine zwB hl hx hx' (h ha) has fun r outs ho=>?_
 obtain⟨rfl,rfl⟩:=ho;exact hk a hr
theorem zwd{α β:Type}{l:List α}{f:α→Option β}{φ:β→Prop}(hF:Rn ((ix l i).bind f) φ):∃x,(0≤i∧i<l.length∧l[i.toNat]? =some x∧∀h:i.toNat<l.length,l[i.toNat]'h=x)∧Rn (f x) φ:=by
 obtain⟨x,h1,h2⟩:=zfB hF;exact⟨x,⟨(zn7 h1).1,(zn7 h1).2.1,(zn7 h1).2.2,zBq h1⟩,h2⟩
theorem zxZ{α β:Type}{l:List α}(n:Nat)(hn:i=n){f:α→Option β}{φ:β→Prop}(hF:Rn ((ix l i).bind f) φ):∃x,(0≤i∧i<l.length∧n<l.length∧l[n]? =some x∧∀h:n<l.length,l[n]'h=x)∧Rn (f x) φ:=by
 subst hn;obtain⟨x,⟨h1,h2,h3,h4⟩,h5⟩:=zwd hF;rw[Int.toNat_natCast]at h3;exact⟨x,⟨h1,h2,by omega,h3,fun h=>by have:=h4 (by simpa using h);simpa using this⟩,h5⟩
def ixs(s:ByteArray)(i:Int):Option Int:=if 0≤i then(s[i.toNat]?).map fun b=>(b.toNat:Int)else none
theorem zoB{x:Int}(h:ixs s i=some x):0≤i∧i<s.size∧((s[i.toNat]?).map fun b=>(b.toNat:Int))=some x:=by
 unfold ixs at h;by_cases hi:0≤i
 ·rw[if_pos hi]at h;cases hb:s[i.toNat]? with
  |none=>rw[hb]at h;cases h
  |some b=>
   have:i.toNat<s.size:=by
    rcases Nat.lt_or_ge i.toNat s.size with h'|h'
    ·exact h'
    ·rw[getElem?_neg s i.toNat (by simpa using h')]at hb;cases hb
   rw[hb]at h;exact⟨hi,by omega,h⟩
 ·rw[if_neg hi]at h;cases h
theorem zAR{P:Program}{t:TypeId}{j:IntKind}{x:Int}(ht:zaS P t=true)(h:ixs s i=some x):ziG P t (.string s) (.int j i)=some (.int .u8 x):=by
 obtain⟨h0,_,h2⟩:=zoB h;simp only[ziG,ht,h0,and_self,if_true];cases hb:s[i.toNat]? with
 |none=>rw[hb]at h2;cases h2
 |some b=>rw[hb]at h2;simpa using h2
theorem zCs{β:Type}{f:Int→Option β}{φ:β→Prop}(hF:Rn ((ixs s i).bind f) φ):∃x,(0≤i∧i<s.size∧∀(P:Program) (t:TypeId) (j:IntKind),zaS P t=true→ziG P t (.string s) (.int j i)=some (.int .u8 x))∧Rn (f x) φ:=by
 obtain⟨x,h1,h2⟩:=zfB hF;exact⟨x,⟨(zoB h1).1,(zoB h1).2.1,fun _ _ _ ht=>zAR ht h1⟩,h2⟩
theorem zzx{α:Type}{b:Int}{e:Option α}{φ:α→Prop}(hF:Rn (gd (b≠0) e) φ):(b≠0∧∀x,zmq b x=some x)∧Rn e φ:=⟨⟨(zhG hF).1,fun _=>ztZ (zhG hF).1⟩,(zhG hF).2⟩
theorem zm5{α:Type}{f:FuncId}{F:Option α}{r:α}{ro:α→PV}{ol:α→List PV}(nt:Nat)(io fz hp:List Nat)(rs:List ResultVar)(hF:F=some r)(hc:zad P f)(hf:P.funcs[f]? =some fn)(hb:fn.body=some code)(hnt:fn.ntmps=nt)(hrs:fn.results.toList=rs)(hl:as.length≤nt∧ioL 0 as=io)
(h:∀φ:α→Prop,(∀r',φ r'→r'=r)→Rn F φ→pw P ⟨nt,io,fz,hp⟩ [.code code] (zkq P rs as (Eo (ro r) (ol r))) (zh7 as)):PCalls P f as (Eo (ro r) (ol r)):=by
 obtain⟨hlen,rfl⟩:=hl;subst hnt;subst hrs;exact zog (R:=fun r=>Eo (ro r) (ol r)) fz hp hF hc hf hb hlen h
theorem pF{α:Type}{f:FuncId}{F:Option α}{r:α}{ro:α→PV}{ol:α→List PV}(nt:Nat)(io fz hp:List Nat)(rs:List ResultVar)(hF:F=some r)(hc:zad P f)(hf:P.funcs[f]? =some fn)
(h:∀φ:α→Prop,(∀r',φ r'→r'=r)→Rn F φ→True→pw P ⟨nt,io,fz,hp⟩ [.code code] (zkq P rs as (Eo (ro r) (ol r))) (zh7 as))(hb:fn.body=some code:=by rfl)(hnt:fn.ntmps=nt:=by rfl)(hrs:fn.results.toList=rs:=by rfl)(hl:as.length≤nt∧ioL 0 as=io:=by exact⟨by simp,rfl⟩):PCalls P f as (Eo (ro r) (ol r)):=
 zm5 nt io fz hp rs hF hc hf hb hnt hrs hl fun φ h1 h2=>h φ h1 h2 trivial
theorem pL{σ β:Type}{step:σ→Option (Stp σ β)}{b:β}{s0:σ}(hb:zaH step s0=some b)(shape:σ→List (Nat×PF))
(round:∀s (φ:Stp σ β→Prop) (N:PFr→Prop),(∀b',φ (.out b')→b'=b)→(∀s' pf,zdc (shape s') pf→φ (.go s')→N pf)→Rn (step s) φ→pw P c [.code bd] (lp1 P c N k Q) (PFr.ofL (shape s)))(ha:zdc (shape s0) pf:=by simp[go_sem,g]):pw P c (.code (.loop bd)::k) Q pf:=zyu shape hb ha round
theorem pR{σ β:Type}{body:Int→σ→Option (Stp σ β)}{stop:σ→β}{m:Nat}{b:β}{s0:σ}(hb:zar body stop m 0 s0=some b)(shape:Int→σ→List (Nat×PF))
(last:∀s (N:PFr→Prop),stop s=b→pw P c [.code bd] (lp1 P c N k Q) (PFr.ofL (shape (0+m) s)))
(round:∀(i:Int) s (φ:Stp σ β→Prop) (N:PFr→Prop),0≤i→i<m→(∀b',φ (.out b')→b'=b)→(∀s' pf,zdc (shape (i+1) s') pf→φ (.go s')→N pf)→Rn (body i s) φ→pw P c [.code bd] (lp1 P c N k Q) (PFr.ofL (shape i s)))(ha:zdc (shape 0 s0) pf:=by simp[go_sem,g]):pw P c (.code (.loop bd)::k) Q pf:=
 zyP shape hb ha last fun i s φ N h1 h2 ho hg hF=>round i s φ N h1 (by omega) ho hg hF
theorem Rx(g:G){α β:Type}{l:List α}{f:α→Option β}{φ:β→Prop}(hF:Rn ((ix l i).bind f) φ):∃x,(G∧0≤i∧i<l.length∧l[i.toNat]? =some x∧∀h:i.toNat<l.length,l[i.toNat]'h=x)∧Rn (f x) φ:=
 let⟨x,h1,h2⟩:=zwd hF;⟨x,⟨g,h1⟩,h2⟩
theorem Rxn(g:G){α β:Type}{l:List α}(n:Nat){f:α→Option β}{φ:β→Prop}(hF:Rn ((ix l i).bind f) φ)(hn:i=n:=by rfl):∃x,(G∧0≤i∧i<l.length∧n<l.length∧l[n]? =some x∧∀h:n<l.length,l[n]'h=x)∧Rn (f x) φ:=
 let⟨x,h1,h2⟩:=zxZ n hn hF;⟨x,⟨g,h1⟩,h2⟩
theorem Rxq(g:G){α β:Type}{l:List α}{f:α→Option β}{φ:β→Prop}{q:α→Prop}(hF:Rn ((ix l i).bind f) φ)(h:∀x,l[i.toNat]? =some x→q x:=by intro x w;first|(simp[go_sem]at w;exact w)|exact w):∃x,((G∧0≤i∧i<l.length∧l[i.toNat]? =some x∧∀h:i.toNat<l.length,l[i.toNat]'h=x)∧q x)∧Rn (f x) φ:=
 let⟨x,h1,h2⟩:=zwd hF;⟨x,⟨⟨g,h1⟩,h x h1.2.2.1⟩,h2⟩
theorem zKM(g:G){α β:Type}{l:List α}(n:Nat){f:α→Option β}{φ:β→Prop}{q:α→Prop}(hF:Rn ((ix l i).bind f) φ)(hn:i=n:=by rfl)(h:∀x,l[n]? =some x→q x:=by intro x w;first|(simp[go_sem]at w;exact w)|exact w):∃x,((G∧0≤i∧i<l.length∧n<l.length∧l[n]? =some x∧∀h:n<l.length,l[n]'h=x)∧q x)∧Rn (f x) φ:=
 let⟨x,h1,h2⟩:=zxZ n hn hF;⟨x,⟨⟨g,h1⟩,h x h1.2.2.2.1⟩,h2⟩
theorem Rxs(g:G){β:Type}{f:Int→Option β}{φ:β→Prop}{q:Int→Prop}(hF:Rn ((ixs s i).bind f) φ)(h:∀x,(∀(P:Program) (t:TypeId) (j:IntKind),zaS P t=true→ziG P t (.string s) (.int j i)=some (.int .u8 x))→q x:=by intro x w;first|(simp[go_sem]at w;exact w)|exact w):∃x,((G∧0≤i∧i<s.size∧∀(P:Program) (t:TypeId) (j:IntKind),zaS P t=true→ziG P t (.string s) (.int j i)=some (.int .u8 x))∧q x)∧Rn (f x) φ:=
 let⟨x,h1,h2⟩:=zCs hF;⟨x,⟨⟨g,h1⟩,h x h1.2.2⟩,h2⟩
theorem Rsa(g:G){a b:ByteArray}{α:Type}{e:Option α}{φ:α→Prop}{q:Prop}(hF:Rn (gd (a.size+b.size≤9223372036854775807) e) φ)(h:(∀P t,zb9 P .add t (.string a) (.string b)=some (.string (a++b)))→q:=by intro w;first|(simp[go_sem]at w;exact w)|exact w):((G∧∀P t,zb9 P .add t (.string a) (.string b)=some (.string (a++b)))∧q)∧Rn e φ:=
 ⟨⟨⟨g,fun _ _=>zsx (zhG hF).1⟩,h fun _ _=>zsx (zhG hF).1⟩,(zhG hF).2⟩
theorem Rg{p q:Prop}[Decidable p](g:G){α:Type}{e:Option α}{φ:α→Prop}(hF:Rn (gd p e) φ)(h:p→q:=by intro w;first|(simp at w;exact w)|exact w):((G∧p)∧q)∧Rn e φ:=
 ⟨⟨⟨g,(zhG hF).1⟩,h (zhG hF).1⟩,(zhG hF).2⟩
theorem Rz(g:G){α:Type}{b:Int}{e:Option α}{φ:α→Prop}(hF:Rn (gd (b≠0) e) φ):(G∧b≠0∧∀x,zmq b x=some x)∧Rn e φ:=⟨⟨g,(zzx hF).1⟩,(zzx hF).2⟩
theorem Ld(g:G)(b:Int)(h:b≠0:=by decide):G∧∀x,zmq b x=some x:=⟨g,fun _=>ztZ h⟩
theorem Ls(g:G)(b:Int)(h:0≤b:=by decide):G∧∀x,zoM b x=some x:=⟨g,fun _=>zAS h⟩
@[go_sem] theorem zDD{α β:Type}{f:α→β}{l:List α}{m k:Nat}:(List.take m (List.map f l))[k]? =((List.take m l)[k]?).map f:=by rw[←List.map_take,List.getElem?_map]
@[go_sem] theorem zCG{α β:Type}{f:α→β}{l:List α}:List.take l.length (List.map f l)=List.map f l:=List.take_of_length_le (by simp)
theorem PCalls.frz{f:FuncId}{R':PV→List PV→Prop}(h:PCalls P f as R)(hr:∀r outs,R r outs→R' (drop r) outs):PCalls P f as R':=by
 refine⟨h.1,fun E vs h1 h2 h3=>(h.2 E vs h1 h2 h3).mono fun rv H' ⟨r,outs,E',a,b,c⟩=>⟨drop r,outs,E'.fz (as.length,[]),hr r outs a,b,?_⟩⟩;refine⟨⟨c.ok.wf,fun id hid=>?_⟩,c.since.trans zjf,(c.r.freeze zg9 zrq).up,c.len,fun k y v hy hv=>?_⟩
 ·obtain⟨g1,g2⟩:=c.ok.fresh id hid;refine⟨g1,?_⟩;rintro(g3|⟨r',g3⟩)
  ·exact g2 g3
  ·rw[g1]at g3;cases g3
 ·have hk:k<as.length:=by
   have:=(List.getElem?_eq_some_iff.1 hy).1;rw[c.len]at this;exact this
  exact(c.o k y v hy hv).move zg9 (zin (by show k≠as.length;omega))
theorem pFz{α:Type}{f:FuncId}{F:Option α}{r:α}{ro:α→PV}{ol:α→List PV}(nt:Nat)(io fz hp:List Nat)(rs:List ResultVar)(hF:F=some r)(hc:zad P f)(hf:P.funcs[f]? =some fn)
(h:∀φ:α→Prop,(∀r',φ r'→r'=r)→Rn F φ→True→pw P ⟨nt,io,fz,hp⟩ [.code code] (zkq P rs as (Ef (ro r) (ol r))) (zh7 as))(hb:fn.body=some code:=by rfl)(hnt:fn.ntmps=nt:=by rfl)(hrs:fn.results.toList=rs:=by rfl)(hl:as.length≤nt∧ioL 0 as=io:=by exact⟨by simp,rfl⟩):PCalls P f as (Eo (ro r) (ol r)):=by
 obtain⟨hlen,rfl⟩:=hl;subst hnt;subst hrs;exact(zog (R:=fun r=>Ef (ro r) (ol r)) fz hp hF hc hf hb hlen fun φ h1 h2=>h φ h1 h2 trivial).frz fun o os ho=>ho
theorem sq :pw P c (.code (.seq x y)::k) Q pf=pw P c (.code x::.wk y::k) Q pf:=zte
theorem wW(h:pw P c (.code x::k) Q pf)(e:a=pw P c (.wk x::k) Q pf:=by(try (conv=>lhs;simp[go_sem,g]))<;>rfl):a:=e.mpr (zap h)
theorem wK(ks:List Nat){l:List (Nat×PF)}(h2:pw P c (.code x::k) Q (PFr.ofL l))(e:a=pw P c (.wk x::k) Q pf:=by(try (conv=>lhs;simp[go_sem,g]))<;>rfl)(h:(ks.map fun s=>(s,pf s))=l:=by simp[go_sem,g];rfl):a:=e.mpr (zB9 ks h h2)
theorem wC{α β:Type}{e:Option α}{F:α→Option β}{φ:β→Prop}(hF:Rn (e.bind F) φ)(ms:List Md){x:Option (FuncId×List (Md×PV)×Bool×PFr×Nat)}{ro:α→PV}{ol:α→List PV}
(h:∀{r},e=some r→PCalls P g as' (Eo (ro r) (ol r)))(hk:∀z,Rn (F z) φ→qv P c co ((back co.nt pf1 l ((ol z).drop n)).map fun p=>(.v (ro z),p)) d k Q)(eq:a0=pw1 P c co ty (.call ⟨.value f,args,ts⟩) d k Q pf:=by(try (conv=>lhs;simp[go_sem,g]))<;>rfl)(hm:ms.length=args.toList.length:=by rfl)(hl:ms.zip (zeu P args.toList ts.toList)=l:=by rfl)(hx:clE ms l f pf=x:=by(try simp[go_sem,clE,g]);first|rfl|done)(hx':x=some (g,as,ow,pf1,n):=by rfl)(has:as=as':=by(try simp[go_sem,g]);first|rfl|done)
(ho:∀z,(ow=false∨(zbo (ro z)&&(ol z).all zbo)=true):=by intro z;simp[go_sem]):a0:=
 eq.mpr (zFi hF ms h hm hl hx hx' has fun z hz=>⟨ho z,hk z hz⟩)
theorem wD{α β:Type}{e:Option α}{F:α→Option β}{φ:β→Prop}(hF:Rn (e.bind F) φ){x:Option (FuncId×List (Md×PV)×Bool×PFr×Nat)}{ro:α→PV}{ol:α→List PV}
(h:∀{r},e=some r→PCalls P g as' (Eo (ro r) (ol r)))(hk:∀z,Rn (F z) φ→qv P c c ((back c.nt pf1 l ((ol z).drop n)).map fun p=>(.v (ro z),p)) d k Q)(eq:a0=pwd P c true ty (.call ⟨.value f,args,ts⟩) d k Q pf:=by(try (conv=>lhs;simp[go_sem,g]))<;>rfl)(hl:(List.replicate args.toList.length Md.sh).zip (zeu P args.toList ts.toList)=l:=by rfl)(hx:clE (List.replicate args.toList.length Md.sh) l f pf=x:=by(try simp[go_sem,clE,g]);first|rfl|done)(hx':x=some (g,as,ow,pf1,n):=by rfl)(has:as=as':=by(try simp[go_sem,g]);first|rfl|done)
(ho:∀z,(ow=false∨(zbo (ro z)&&(ol z).all zbo)=true):=by intro z;simp[go_sem]):a0:=
 eq.mpr (zBI hF h hl hx hx' has fun z hz=>⟨ho z,hk z hz⟩)
theorem wI{α:Type}{v:Bool}{e e':Option α}{φ:α→Prop}(hF:Rn (if v=true then e else e') φ)(ht:v=true→Rn e φ→pw P c (.code x::k) Q pf)(he:v=false→Rn e' φ→pw P c (.code y::k) Q pf)(eq:a=pw P c (.code (.cond b x y)::k) Q pf:=by(try (conv=>lhs;repeat rw[sq]))<;>rfl)(hb:rdS pf b=some (.bool v):=by simp[go_sem,g]):a:=eq.mpr (zGN hF hb ht he)
theorem wB{b:Code}(h:pw P c (.code b::.blk id::k) Q pf)(e:a=pw P c (.code (.block id b)::k) Q pf:=by(try (conv=>lhs;repeat rw[sq]))<;>rfl):a:=e.mpr (pw_block.mpr h)
theorem wX{ops:Array Oper}(D:List DE){L:List (DE×Oper)}(h1:P.follows .mixedOrders=true)(h:pw P c (.dops (ops.toList.map (·.dst)) L::k) Q pf)(e:a=pw P c (.code (.region id ops true)::k) Q pf:=by(try (conv=>lhs;repeat rw[sq]))<;>rfl)(h2:zlV D ops.toList=true:=by kernel_rfl)(hL:D.map (fun x=>(x,ops.toList.getD x.i default))=L:=by rfl):a:=e.mpr (zAd D h1 h2 hL h)
theorem wt(ht:pw P c (.code x::k) Q pf)(e:a=pw P c (.code (.cond b x y)::k) Q pf:=by(try (conv=>lhs;repeat rw[sq]))<;>rfl)(hb:rdS pf b=some (.bool true):=by simp[go_sem,g]):a:=e.mpr (zk4 hb ht)
theorem wf(ht:pw P c (.code y::k) Q pf)(e:a=pw P c (.code (.cond b x y)::k) Q pf:=by(try (conv=>lhs;repeat rw[sq]))<;>rfl)(hb:rdS pf b=some (.bool false):=by simp[go_sem,g]):a:=e.mpr (zng hb ht)
theorem wT{pf:PFr}(h:∀pf,A pf→B→C pf)(b:B)(e:a0=C pf:=by(try (conv=>lhs;simp[go_sem,g]))<;>rfl)(a:A pf:=by simp[go_sem,g]):a0:=e.mpr (h pf a b)
theorem wG{α:Type}{y y' b:Bool}{e e':Option α}{φ:α→Prop}(hF:Rn (if y=true then e else e') φ)(h1:y'=true→Rn e φ→pwg P c (some (some true)) b ty op d k Q pf)(h2:y'=false→Rn e' φ→pwg P c (some (some false)) b ty op d k Q pf)(eq:a=pwg P c (some (some y')) b ty op d k Q pf:=by(try (conv=>lhs;simp[go_sem,g]))<;>rfl)(hy:y'=y:=by first|rfl|simp):a:=eq.mpr (by subst hy;exact zHs hF h1 h2)
theorem wH{α:Type}{y y' b ext:Bool}{e e':Option α}{φ:α→Prop}(hF:Rn (if y=true then e else e') φ)(h1:y'=true→Rn e φ→zgr P c (some (some true)) b ext ty op d k Q pf)(h2:y'=false→Rn e' φ→zgr P c (some (some false)) b ext ty op d k Q pf)(eq:a=zgr P c (some (some y')) b ext ty op d k Q pf:=by(try (conv=>lhs;simp[go_sem,g]))<;>rfl)(hy:y'=y:=by first|rfl|simp):a:=eq.mpr (by subst hy;exact zBD hF h1 h2)
theorem wJ{α β:Type}{e:Option α}{f:α→Option β}{φ:β→Prop}{i:PIt}(hF:Rn (e.bind f) φ)(l:α→List (Nat×PF))(hr:∀x,Rn (f x) φ→pw P c (.code y::k) Q (PFr.ofL (l x)))
(hc:∀ψ:α→Prop,(∀x pf,zdc (l x) pf→ψ x→pw P c (.wk y::k) Q pf)→Rn e ψ→pw P c (i::.wk y::k) Q pf)(eq:a0=pw P c (i::.wk y::k) Q pf:=by(try (conv=>lhs;repeat rw[sq]))<;>rfl):a0:=eq.mpr (zzh l hF hr hc)
theorem wS{α β:Type}{e:Option (α ⊕ β)}{f:α→Option β}{φ:β→Prop}{i:PIt}(hF:Rn (e.bind (Sum.elim f some)) φ)(l:α→List (Nat×PF))(hr:∀x,Rn (f x) φ→pw P c (.code y::k) Q (PFr.ofL (l x)))
(hc:∀ψ:α ⊕ β→Prop,(∀x pf,zdc (l x) pf→ψ (.inl x)→pw P c (.wk y::k) Q pf)→(∀r,ψ (.inr r)→φ r)→Rn e ψ→pw P c (i::.wk y::k) Q pf)(eq:a0=pw P c (i::.wk y::k) Q pf:=by(try (conv=>lhs;repeat rw[sq]))<;>rfl):a0:=eq.mpr (zyJ l hF hr hc)
theorem zCn(h0:0≤i)(h:i<n)(hn:n≤zdp):IntKind.i64.wrap (i+1)=i+1:=wrI (by simp only[zdp]at hn;omega)
theorem wl{α:Type}{φ:α→Prop}{x r:α}{A:Prop}(h:∀r',φ r'→r'=r)(hF:Rn (some x) φ)(k:x=r→A:=by intro e;cases e;refine wW ?_;simp[go_sem,g]):A:=k (h _ (zaa hF))
theorem wm{α:Type}{φ:α→Prop}{x r:α}{A:Prop}(h:∀r',φ r'→r'=r)(hF:Rn (some x) φ)(k:x=r→A:=by intro e;cases e;simp[go_sem,g]):A:=k (h _ (zaa hF))
theorem wV{H:Prop}{pf:PFr}(hh:H)(h:∀pf,A pf→B→C pf)(b:B)(e:H→a0=C pf:=by intro h;(try (conv=>lhs;simp[go_sem,g,h]))<;>rfl)(a:H→A pf:=by intro h;simp[go_sem,g,h]):a0:=(e hh).mpr (h pf (a hh) b)
theorem wu{H I:Prop}(h:H)(i:I)(ht:pw P c (.code x::k) Q pf)(e:a=pw P c (.code (.cond b x y)::k) Q pf:=by(try (conv=>lhs;repeat rw[sq]))<;>rfl)(hb:H→I→rdS pf b=some (.bool true):=by intro h i;simp[go_sem,g,h,i]):a:=e.mpr (zk4 (hb h i) ht)
theorem wi{pf:PFr}(h1:0≤i)(h2:i<n)(h:∀pf,A pf→B→C pf)(b:B)(e:a0=C pf:=by(try (conv=>lhs;simp[go_sem,g]))<;>rfl)(a:IntKind.i64.wrap (i+1)=i+1→A pf:=by intro h;simp[go_sem,g,h])(hn:n≤zdp:=by first|assumption|(simp;assumption)|(simp;omega)):a0:=e.mpr (h pf (a (zCn h1 h2 hn)) b)
theorem wn{β:Type}{b b':β}{B:β→Prop}{pf:PFr}(hN:b'=b)(h:∀pf,A pf→B b'→C pf)(hψ:B b)(k:C pf→a0:=by intro h;refine wW ?_;refine wf ?_;exact Eq.mpr (by(try (conv=>lhs;simp[go_sem,g]))<;>rfl) h)(a:A pf:=by simp[go_sem,g]):a0:=k (h pf a (hN▸hψ))
end
end Go.Pm
