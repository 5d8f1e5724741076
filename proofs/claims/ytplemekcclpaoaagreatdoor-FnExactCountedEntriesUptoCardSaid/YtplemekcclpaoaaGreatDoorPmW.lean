import Derived.Test.YtplemekcclpaoaaGreatDoorPmV
namespace Go.Pm
open Go.Am
def d0(i:Nat)(s:List Nat):DE:=⟨i,s,[],none,false,false,false⟩
def d1(i:Nat)(s:List Nat)(r:Nat):DE:=⟨i,s,[r],none,false,false,false⟩
def d2(i:Nat)(s:List Nat)(r m:Nat):DE:=⟨i,s,[r],some m,false,false,false⟩
def d3(i:Nat)(s:List Nat):DE:=⟨i,s,[],none,false,true,true⟩
def dsl:Option Tmp→List Nat
 |some d=>[d]
 |none=>[]
def kS(o:List Oper)(x:Oper):List Nat:=znB x.op++match x.guard with
 |some (j,_)=>dsl (o.getD j default).dst
 |none=>[]
def k0(i:Nat)(o:List Oper):DE:=⟨i,kS o (o.getD i default),[],none,false,false,false⟩
def k1(i r:Nat)(o:List Oper):DE:=⟨i,kS o (o.getD i default),[r],none,false,false,false⟩
def k2(i r:Nat)(o:List Oper):DE:=⟨i,kS o (o.getD i default),[r],(znB (o.getD i default).op).head?,false,false,false⟩
def k3(i:Nat)(o:List Oper):DE:=⟨i,kS o (o.getD i default),[],none,false,true,true⟩
variable{i r:Nat}{o:List Oper}{s:List Nat}
@[go_sem] theorem zTY :k0 i o=⟨i,kS o (o.getD i default),[],none,false,false,false⟩:=(rfl)
@[go_sem] theorem zSr :k1 i r o=⟨i,kS o (o.getD i default),[r],none,false,false,false⟩:=(rfl)
@[go_sem] theorem zUg :k2 i r o=⟨i,kS o (o.getD i default),[r],(znB (o.getD i default).op).head?,false,false,false⟩:=(rfl)
@[go_sem] theorem zUO :k3 i o=⟨i,kS o (o.getD i default),[],none,false,true,true⟩:=(rfl)
@[go_sem] theorem zWd{d:Option Tmp}{op:Op}{ty:TypeId}{ps:String}{af:Array Edge}:kS o ⟨d,op,ty,ps,af,none⟩=znB op:=by simp[kS]
@[go_sem] theorem zVq{d:Option Tmp}{op:Op}{ty:TypeId}{ps:String}{af:Array Edge}{j:Nat}{b:Bool}:kS o ⟨d,op,ty,ps,af,some (j,b)⟩=znB op++dsl (o.getD j default).dst:=(rfl)
@[go_sem] theorem zS9{d:Nat}:dsl (some d)=[d]:=(rfl)
@[go_sem] theorem zTV:dsl none=[]:=(rfl)
@[go_sem] theorem zLy{o:Op}:znB o=o.operands.toList.flatMap osl:=(rfl)
@[go_sem] theorem zTb{t:Tmp}:osl (.tmp t)=[t]:=(rfl)
@[go_sem] theorem zUx{v:Value}:osl (.const v)=[]:=(rfl)
@[go_sem] theorem zTR{f:FuncId}:osl (.func f)=[]:=(rfl)
@[go_sem] theorem zUz{f:Nat}:osl (.global f)=[]:=(rfl)
attribute [go_sem] Op.operands Call.operands
@[go_sem] theorem zUr :d0 i s=⟨i,s,[],none,false,false,false⟩:=(rfl)
@[go_sem] theorem zTA :d1 i s r=⟨i,s,[r],none,false,false,false⟩:=(rfl)
@[go_sem] theorem zUC{m:Nat}:d2 i s r m=⟨i,s,[r],some m,false,false,false⟩:=(rfl)
@[go_sem] theorem zTf :d3 i s=⟨i,s,[],none,false,true,true⟩:=(rfl)
def Rn{α:Type}(e:Option α)(φ:α→Prop):Prop:=∃a,e=some a∧φ a
theorem zdL{α β:Type}{e:Option α}{f:α→Option β}{φ:β→Prop}(h:Rn (e.bind f) φ):∃a,e=some a∧Rn (f a) φ:=by
 obtain⟨b,h1,h2⟩:=h;rw[Option.bind_eq_some_iff]at h1;obtain⟨a,h3,h4⟩:=h1;exact⟨a,h3,b,h4,h2⟩
theorem zaa{α:Type}{a:α}{φ:α→Prop}(h:Rn (some a) φ):φ a:=by
 obtain⟨b,h1,h2⟩:=h;cases h1;exact h2
theorem zt4{α:Type}{φ:α→Prop}(h:Rn none φ):False:=by
 obtain⟨b,h1,_⟩:=h;cases h1
def gd{α:Type}(p:Prop)[Decidable p](e:Option α):Option α:=if p then e else none
theorem zfp{α:Type}{p:Prop}[Decidable p]{e:Option α}{φ:α→Prop}(h:Rn (gd p e) φ):p∧Rn e φ:=by
 unfold gd at h;by_cases hp:p
 ·rw[if_pos hp]at h;exact⟨hp,h⟩
 ·rw[if_neg hp]at h;exact(zt4 h).elim
theorem zym{α:Type}{v:Bool}{e e':Option α}{φ:α→Prop}(h:Rn (if v=true then e else e') φ)(hv:v=true):Rn e φ:=by rwa [if_pos hv]at h
theorem zyy{α:Type}{v:Bool}{e e':Option α}{φ:α→Prop}(h:Rn (if v=true then e else e') φ)(hv:v=false):Rn e' φ:=by rwa [if_neg (by simp[hv])]at h
theorem zzp{α:Type}{e:Option α}{φ ψ:α→Prop}(h:Rn e φ)(hm:∀a,φ a→ψ a):Rn e ψ:=by
 obtain⟨a,h1,h2⟩:=h;exact⟨a,h1,hm a h2⟩
def ix{α:Type}(l:List α)(i:Int):Option α:=if 0≤i then l[i.toNat]? else none
theorem zmZ{α:Type}{l:List α}{i:Int}{x:α}(h:ix l i=some x):0≤i∧i<l.length∧l[i.toNat]? =some x:=by
 unfold ix at h;by_cases hi:0≤i
 ·rw[if_pos hi]at h;have:=(List.getElem?_eq_some_iff.1 h).1;exact⟨hi,by omega,h⟩
 ·rw[if_neg hi]at h;cases h
theorem zA2{α:Type}{l:List α}{i:Int}{x:α}(h:ix l i=some x):∀h:i.toNat<l.length,l[i.toNat]'h=x:=fun h'=>by
 have:=(zmZ h).2.2;rw[List.getElem?_eq_getElem h']at this;exact Option.some.inj this
theorem zwA{α:Type}{l:List α}:ix l (i:Int)=l[i]? :=by simp[ix]
theorem wrI{n:Int}(h: -9223372036854775808≤n∧n≤9223372036854775807):IntKind.i64.wrap n=n:=by rw[IntKind.wrap_i64];omega
inductive Stp (σ β:Type) where
 |go (s:σ)
 |out (b:β)
def zg8{σ β:Type}(step:σ→Option (Stp σ β)):Nat→σ→Option β
 |0,_=>none
 |n+1,s=>(step s).bind fun
  | .go s'=>zg8 step n s'
  | .out b=>some b
open Classical in
noncomputable def zax{σ β:Type}(step:σ→Option (Stp σ β))(s:σ):Option β:=if h:∃b n,zg8 step n s=some b then some h.choose else none
theorem zpY{σ β:Type}{step:σ→Option (Stp σ β)}:∀{n m:Nat}{s:σ}{b:β},zg8 step n s=some b→n≤m→zg8 step m s=some b:=by
 intro n;induction n with
 |zero=>intro m s b h;simp[zg8]at h
 |succ n ih=>
  intro m s b h hm;cases m with
  |zero=>omega
  |succ m=>
   simp only[zg8]at h⊢;cases hs:step s with
   |none=>rw[hs]at h;exact h
   |some x=>
    rw[hs]at h;cases x with
    |go s'=>exact ih h (by omega)
    |out b=>exact h
theorem zj5{σ β:Type}{step:σ→Option (Stp σ β)}{s:σ}{b:β}:zax step s=some b↔∃n,zg8 step n s=some b:=by
 constructor
 ·intro h;unfold zax at h;split at h
  ·rename_i hx;cases h;exact hx.choose_spec
  ·cases h
 ·rintro⟨n,h⟩;have hx:∃b n,zg8 step n s=some b:=⟨b,n,h⟩
  unfold zax;rw[dif_pos hx];obtain⟨m,hm⟩:=hx.choose_spec;have a1:=zpY hm (Nat.le_max_right n m);have a2:=zpY h (Nat.le_max_left n m);rw[a1]at a2;exact a2
theorem zk7{σ β:Type}{step:σ→Option (Stp σ β)}{s:σ}:zax step s=(step s).bind fun
 | .go s'=>zax step s'
 | .out b=>some b:=by
 apply Option.ext;intro b;rw[zj5];constructor
 ·rintro⟨n,h⟩;cases n with
  |zero=>simp[zg8]at h
  |succ n=>
   simp only[zg8]at h;cases hs:step s with
   |none=>rw[hs]at h;exact h
   |some x=>
    rw[hs]at h;cases x with
    |go s'=>exact zj5.2 ⟨n,h⟩
    |out b=>exact h
 ·intro h;cases hs:step s with
  |none=>rw[hs]at h;cases h
  |some x=>
   rw[hs]at h;cases x with
   |go s'=>
    obtain⟨n,hn⟩:=zj5.1 (show zax step s'=some b from h);exact⟨n+1,by simp only[zg8,hs];exact hn⟩
   |out b'=>exact⟨1,by simp only[zg8,hs];exact h⟩
open Classical in
noncomputable def zpr{β:Type}(f:Nat→Option β):Option β:=if h:∃b n,f n=some b then some h.choose else none
theorem zxa{β:Type}{f:Nat→Option β}{b:β}(h:zpr f=some b):∃n,f n=some b:=by
 unfold zpr at h;split at h
 ·rename_i hx;cases h;exact hx.choose_spec
 ·cases h
theorem zzY{β:Type}{f:Nat→Option β}{n:Nat}{b:β}(h:f n=some b):∃b n,zpr f=some b∧f n=some b:=by
 have hx:∃b n,f n=some b:=⟨b,n,h⟩
 obtain⟨m,hm⟩:=hx.choose_spec;exact⟨hx.choose,m,by unfold zpr;rw[dif_pos hx],hm⟩
def zau{σ β:Type}(body:Int→σ→Option (Stp σ β))(stop:σ→β):Nat→Int→σ→Option β
 |0,_,s=>some (stop s)
 |k+1,i,s=>(body i s).bind fun
  | .go s'=>zau body stop k (i+1) s'
  | .out b=>some b
section
variable {P:Program}{c:Cfg}{k:List PIt}{Q:Exit→PFr→Prop}{pf:PFr}
def lp1(P:Program)(c:Cfg)(N:PFr→Prop)(k:List PIt)(Q:Exit→PFr→Prop):Exit→PFr→Prop
 | .normal,pf=>N pf
 |e,pf=>zbY P c k Q e pf
variable{A C N:PFr→Prop}{B G a a0:Prop}{R:PV→List PV→Prop}{args:Array Operand}{as as':List (Md×PV)}{b f:Operand}{bd code x y:Code}{co:Cfg}{d:Option Tmp}{fn:Func}{g:FuncId}{i:Int}{id m n:Nat}{l:List (Md×Nat×Operand)}{op:Op}{ow:Bool}{pf1:PFr}{s:ByteArray}{ts:Array TypeId}{ty:TypeId}
@[go_sem] theorem zEo :lp1 P c N k Q .normal pf=N pf:=rfl
@[go_sem] theorem zIj :lp1 P c N k Q (.exit id) pf=pwx P c id k Q pf:=rfl
@[go_sem] theorem zLE :lp1 P c N k Q .ret pf=Q .ret pf:=by
 show zbY P c k Q .ret pf=_;rw[zl0]
theorem zsB{σ β:Type}(shape:σ→List (Nat×PF)){step:σ→Option (Stp σ β)}{b:β}{s0:σ}(hb:zax step s0=some b)(ha:zbH (shape s0) pf)
(round:∀s (φ:Stp σ β→Prop) (N:PFr→Prop),(∀b',φ (.out b')→b'=b)→(∀s' pf,zbH (shape s') pf→φ (.go s')→N pf)→Rn (step s) φ→pw P c [.code bd] (lp1 P c N k Q) (PFr.ofL (shape s))):pw P c (.code (.loop bd)::k) Q pf:=by
 obtain⟨n,hn⟩:=zj5.1 hb;refine⟨n,?_⟩
 have key:∀n s pf,zg8 step n s=some b→zbH (shape s) pf→ziz (pwp P c bd) (zbY P c k Q) n pf:=by
  intro n;induction n with
  |zero=>intro s pf h;simp[zg8]at h
  |succ n ih=>
   intro s pf h hA;refine⟨PFr.ofL (shape s),ziN hA,?_⟩
   have hr:=round s (fun x=>match x with| .go s'=>zg8 step n s'=some b| .out b'=>b'=b) (fun pf=>ziz (pwp P c bd) (zbY P c k Q) n pf) (fun b' h=>h) (fun s' pf hp h=>ih s' pf h hp) (by
    simp only[zg8]at h;rw[Option.bind_eq_some_iff]at h;obtain⟨x,h1,h2⟩:=h;refine⟨x,h1,?_⟩;cases x with
    |go s'=>exact h2
    |out b'=>exact Option.some.inj h2)
   refine znx bd ?_ hr;intro e pf' hq;cases e<;>exact hq
 exact key n s0 pf hn ha
theorem zsa{σ β:Type}(shape:Int→σ→List (Nat×PF)){body:Int→σ→Option (Stp σ β)}{stop:σ→β}{i0:Int}{b:β}{s0:σ}(hb:zau body stop m i0 s0=some b)(ha:zbH (shape i0 s0) pf)
(last:∀s (N:PFr→Prop),stop s=b→pw P c [.code bd] (lp1 P c N k Q) (PFr.ofL (shape (i0+m) s)))
(round:∀i s (φ:Stp σ β→Prop) (N:PFr→Prop),i0≤i→i<i0+m→(∀b',φ (.out b')→b'=b)→(∀s' pf,zbH (shape (i+1) s') pf→φ (.go s')→N pf)→Rn (body i s) φ→pw P c [.code bd] (lp1 P c N k Q) (PFr.ofL (shape i s))):pw P c (.code (.loop bd)::k) Q pf:=by
 refine⟨m+1,?_⟩
 have key:∀n i s pf,zau body stop n i s=some b→i0≤i→i+n=i0+m→zbH (shape i s) pf→ziz (pwp P c bd) (zbY P c k Q) (n+1) pf:=by
  intro n;induction n with
  |zero=>
   intro i s pf h h0 hi hA;refine⟨PFr.ofL (shape i s),ziN hA,?_⟩;have e:i=i0+m:=by omega
   subst e;have hr:=last s (fun pf=>ziz (pwp P c bd) (zbY P c k Q) 0 pf) (by simpa[zau]using h);refine znx bd ?_ hr;intro e pf' hq;cases e<;>exact hq
  |succ n ih=>
   intro i s pf h h0 hi hA;refine⟨PFr.ofL (shape i s),ziN hA,?_⟩
   have hr:=round i s (fun x=>match x with| .go s'=>zau body stop n (i+1) s'=some b| .out b'=>b'=b) (fun pf=>ziz (pwp P c bd) (zbY P c k Q) (n+1) pf) h0 (by omega) (fun b' h=>h)
    (fun s' pf hp h=>ih (i+1) s' pf h (by omega) (by omega) hp) (by
    simp only[zau]at h;rw[Option.bind_eq_some_iff]at h;obtain⟨x,h1,h2⟩:=h;refine⟨x,h1,?_⟩;cases x with
    |go s'=>exact h2
    |out b'=>exact Option.some.inj h2)
   refine znx bd ?_ hr;intro e pf' hq;cases e<;>exact hq
 exact key m i0 s0 pf hb (by omega) (by omega) ha
def clE(_ms:List Md)(l:List (Md×Nat×Operand))(f:Operand)(pf:PFr):Option (FuncId×List (Md×PV)×Bool×PFr×Nat):=
 (zic pf l).bind fun y=>(fnO y.2 f).bind fun g=>(cargs y.2 l y.1).map fun as=>(g.1,g.2.1.map (fun x=>(Md.sh,x))++as++g.2.2.map (fun x=>(Md.sh,x)),l.any (zii y.2),y.2,g.2.1.length)
theorem zx3(ms:List Md){x:Option (FuncId×List (Md×PV)×Bool×PFr×Nat)}
(hm:ms.length=args.toList.length)(hl:ms.zip (zdt P args.toList ts.toList)=l)(hx:clE ms l f pf=x)(hx':x=some (g,as,ow,pf1,n))(h:PCalls P g as' R)(has:as=as')
(hk:∀r outs,R r outs→(ow=false∨(zaU r&&outs.all zaU)=true)∧qv P c co ((back co.nt pf1 l (outs.drop n)).map fun p=>(.v r,p)) d k Q):pw1 P c co ty (.call ⟨.value f,args,ts⟩) d k Q pf:=by
 subst has;rw[hx']at hx;simp only[clE,Option.bind_eq_some_iff,Option.map_eq_some_iff]at hx;obtain⟨y,h1,g',h2,as0,h3,h4⟩:=hx;cases h4;exact zzh ms hm hl h1 (show fnO y.2 f=some (g'.1,g'.2.1,g'.2.2)from h2) h3 rfl h hk
theorem zv5{x:Option (FuncId×List (Md×PV)×Bool×PFr×Nat)}
(hl:(List.replicate args.toList.length Md.sh).zip (zdt P args.toList ts.toList)=l)(hx:clE (List.replicate args.toList.length Md.sh) l f pf=x)(hx':x=some (g,as,ow,pf1,n))(h:PCalls P g as' R)(has:as=as')
(hk:∀r outs,R r outs→(ow=false∨(zaU r&&outs.all zaU)=true)∧qv P c c ((back c.nt pf1 l (outs.drop n)).map fun p=>(.v r,p)) d k Q):pwd P c true ty (.call ⟨.value f,args,ts⟩) d k Q pf:=by
 subst has;rw[hx']at hx;simp only[clE,Option.bind_eq_some_iff,Option.map_eq_some_iff]at hx;obtain⟨y,h1,g',h2,as0,h3,h4⟩:=hx;cases h4;exact zxG hl h1 (show fnO y.2 f=some (g'.1,g'.2.1,g'.2.2)from h2) h3 rfl h hk
theorem zsd{α β:Type}{e:Option α}{f:α→Option β}{φ:β→Prop}{i:PIt}(l:α→List (Nat×PF))(hF:Rn (e.bind f) φ)(hr:∀x,Rn (f x) φ→pw P c (.code y::k) Q (PFr.ofL (l x)))
(hc:∀ψ:α→Prop,(∀x pf,zbH (l x) pf→ψ x→pw P c (.wk y::k) Q pf)→Rn e ψ→pw P c (i::.wk y::k) Q pf):pw P c (i::.wk y::k) Q pf:=by
 obtain⟨a,h1,h2⟩:=zdL hF;exact hc (fun a=>Rn (f a) φ) (fun x _ ha hj=>zmD (l x) ha (hr x hj)) ⟨a,h1,h2⟩
theorem zrH{α β:Type}{e:Option (α ⊕ β)}{f:α→Option β}{φ:β→Prop}{i:PIt}(l:α→List (Nat×PF))(hF:Rn (e.bind (Sum.elim f some)) φ)(hr:∀x,Rn (f x) φ→pw P c (.code y::k) Q (PFr.ofL (l x)))
(hc:∀ψ:α ⊕ β→Prop,(∀x pf,zbH (l x) pf→ψ (.inl x)→pw P c (.wk y::k) Q pf)→(∀r,ψ (.inr r)→φ r)→Rn e ψ→pw P c (i::.wk y::k) Q pf):pw P c (i::.wk y::k) Q pf:=by
 obtain⟨a,h1,h2⟩:=zdL hF;exact hc (fun a=>Rn (Sum.elim f some a) φ) (fun x _ ha hj=>zmD (l x) ha (hr x hj)) (fun r h=>zaa h) ⟨a,h1,h2⟩
theorem znq{α:Type}{f:FuncId}{F:Option α}{r:α}{R:α→PV→List PV→Prop}(fz hp:List Nat)(hF:F=some r)(hc:zac P f)(hf:P.funcs[f]? =some fn)(hb:fn.body=some code)(hlen:as.length≤fn.ntmps)
(h:∀φ:α→Prop,(∀r',φ r'→r'=r)→Rn F φ→pw P ⟨fn.ntmps,ioL 0 as,fz,hp⟩ [.code code] (zjK P fn.results.toList as (R r)) (zhj as)):PCalls P f as (R r):=
 ztc fz hp hc hf hb hlen (h (fun r'=>r'=r) (fun _ h=>h) ⟨r,hF,rfl⟩)
def Eo(x:PV)(l:List PV):PV→List PV→Prop:=fun o os=>o=x∧os=l
def Ef(x:PV)(l:List PV):PV→List PV→Prop:=fun o os=>drop o=x∧os=l
@[go_sem,reducible] def zak:List PV:=[.junk,.junk]
@[go_sem,reducible] def zcj:List PV:=[.junk,.junk,.junk]
@[go_sem,reducible] def zf6:List PV:=[.junk,.junk,.junk,.junk]
@[go_sem,reducible] def zn9:List PV:=[.junk,.junk,.junk,.junk,.junk]
@[go_sem,reducible] def zSk:List PV:=[.junk,.junk,.junk,.junk,.junk,.junk]
@[go_sem,reducible] def zQj:List PV:=[.junk,.junk,.junk,.junk,.junk,.junk,.junk]
@[go_sem,reducible] def zQQ:List PV:=[.junk,.junk,.junk,.junk,.junk,.junk,.junk,.junk]
@[go_sem,reducible] def zQo:List PV:=[.junk,.junk,.junk,.junk,.junk,.junk,.junk,.junk,.junk]
@[go_sem] theorem zU8{x o:PV}{l os:List PV}:Ef x l o os=(drop o=x∧os=l):=rfl
@[go_sem] theorem zSM{x o:PV}{l os:List PV}:Eo x l o os=(o=x∧os=l):=rfl
@[go_sem ↓] theorem zQe{rows:List (List PV)}:qln P c co (some rows) d k Q pf=(rows.length≤zcx→qv P c co (some (.v (.int .i64 rows.length),pf)) d k Q):=rfl
theorem zt7(ks:List Nat):zbH (ks.map fun s=>(s,pf s)) pf:=by
 induction ks with
 |nil=>trivial
 |cons s ks ih=>exact⟨rfl,ih⟩
theorem zAz(ks:List Nat){l:List (Nat×PF)}(h:(ks.map fun s=>(s,pf s))=l)(h2:pw P c (.code x::k) Q (PFr.ofL l)):pw P c (.wk x::k) Q pf:=by
 subst h;exact zmD _ (zt7 ks) h2
theorem zCP{α:Type}{v:Bool}{e e':Option α}{φ:α→Prop}(hF:Rn (if v=true then e else e') φ)(hb:rdS pf b=some (.bool v))(ht:v=true→Rn e φ→pw P c (.code x::k) Q pf)(he:v=false→Rn e' φ→pw P c (.code y::k) Q pf):
 pw P c (.code (.cond b x y)::k) Q pf:=zns hb (fun h=>ht h (zym hF h)) fun h=>he h (zyy hF h)
theorem zCX{α:Type}{y b:Bool}{e e':Option α}{φ:α→Prop}(hF:Rn (if y=true then e else e') φ)(h1:y=true→Rn e φ→pwg P c (some (some true)) b ty op d k Q pf)(h2:y=false→Rn e' φ→pwg P c (some (some false)) b ty op d k Q pf):pwg P c (some (some y)) b ty op d k Q pf:=
 zwB (fun h=>h1 h (zym hF h)) fun h=>h2 h (zyy hF h)
theorem zAJ{α:Type}{y b ext:Bool}{e e':Option α}{φ:α→Prop}(hF:Rn (if y=true then e else e') φ)(h1:y=true→Rn e φ→ze4 P c (some (some true)) b ext ty op d k Q pf)(h2:y=false→Rn e' φ→ze4 P c (some (some false)) b ext ty op d k Q pf):ze4 P c (some (some y)) b ext ty op d k Q pf:=
 zu7 (fun h=>h1 h (zym hF h)) fun h=>h2 h (zyy hF h)
theorem zyT{α β:Type}{e:Option α}{F:α→Option β}{φ:β→Prop}(hF:Rn (e.bind F) φ)(ms:List Md){x:Option (FuncId×List (Md×PV)×Bool×PFr×Nat)}{ro:α→PV}{ol:α→List PV}
(h:∀{r},e=some r→PCalls P g as' (Eo (ro r) (ol r)))(hm:ms.length=args.toList.length)(hl:ms.zip (zdt P args.toList ts.toList)=l)(hx:clE ms l f pf=x)(hx':x=some (g,as,ow,pf1,n))(has:as=as')
(hk:∀z,Rn (F z) φ→(ow=false∨(zaU (ro z)&&(ol z).all zaU)=true)∧qv P c co ((back co.nt pf1 l ((ol z).drop n)).map fun p=>(.v (ro z),p)) d k Q):pw1 P c co ty (.call ⟨.value f,args,ts⟩) d k Q pf:=by
 obtain⟨a,ha,hr⟩:=zdL hF;refine zx3 ms hm hl hx hx' (h ha) has fun r outs ho=>?_
 obtain⟨rfl,rfl⟩:=ho;exact hk a hr
theorem zBi{α β:Type}{e:Option α}{F:α→Option β}{φ:β→Prop}(hF:Rn (e.bind F) φ){x:Option (FuncId×List (Md×PV)×Bool×PFr×Nat)}{ro:α→PV}{ol:α→List PV}
(h:∀{r},e=some r→PCalls P g as' (Eo (ro r) (ol r)))(hl:(List.replicate args.toList.length Md.sh).zip (zdt P args.toList ts.toList)=l)(hx:clE (List.replicate args.toList.length Md.sh) l f pf=x)(hx':x=some (g,as,ow,pf1,n))(has:as=as')
(hk:∀z,Rn (F z) φ→(ow=false∨(zaU (ro z)&&(ol z).all zaU)=true)∧qv P c c ((back c.nt pf1 l ((ol z).drop n)).map fun p=>(.v (ro z),p)) d k Q):pwd P c true ty (.call ⟨.value f,args,ts⟩) d k Q pf:=by
 obtain⟨a,ha,hr⟩:=zdL hF;refine zv5 hl hx hx' (h ha) has fun r outs ho=>?_
 obtain⟨rfl,rfl⟩:=ho;exact hk a hr
theorem zuW{α β:Type}{l:List α}{f:α→Option β}{φ:β→Prop}(hF:Rn ((ix l i).bind f) φ):∃x,(0≤i∧i<l.length∧l[i.toNat]? =some x∧∀h:i.toNat<l.length,l[i.toNat]'h=x)∧Rn (f x) φ:=by
 obtain⟨x,h1,h2⟩:=zdL hF;exact⟨x,⟨(zmZ h1).1,(zmZ h1).2.1,(zmZ h1).2.2,zA2 h1⟩,h2⟩
theorem zvY{α β:Type}{l:List α}(n:Nat)(hn:i=n){f:α→Option β}{φ:β→Prop}(hF:Rn ((ix l i).bind f) φ):∃x,(0≤i∧i<l.length∧n<l.length∧l[n]? =some x∧∀h:n<l.length,l[n]'h=x)∧Rn (f x) φ:=by
 subst hn;obtain⟨x,⟨h1,h2,h3,h4⟩,h5⟩:=zuW hF;rw[Int.toNat_natCast]at h3;exact⟨x,⟨h1,h2,by omega,h3,fun h=>by have:=h4 (by simpa using h);simpa using this⟩,h5⟩
def ixs(s:ByteArray)(i:Int):Option Int:=if 0≤i then(s[i.toNat]?).map fun b=>(b.toNat:Int)else none
theorem znX{x:Int}(h:ixs s i=some x):0≤i∧i<s.size∧((s[i.toNat]?).map fun b=>(b.toNat:Int))=some x:=by
 unfold ixs at h;by_cases hi:0≤i
 ·rw[if_pos hi]at h;cases hb:s[i.toNat]? with
  |none=>rw[hb]at h;cases h
  |some b=>
   have:i.toNat<s.size:=by
    rcases Nat.lt_or_ge i.toNat s.size with h'|h'
    ·exact h'
    ·rw[getElem?_neg s i.toNat (by simpa using h')]at hb;cases hb
   rw[hb]at h;exact⟨hi,by omega,h⟩
 ·rw[if_neg hi]at h;cases h
theorem zzt{P:Program}{t:TypeId}{j:IntKind}{x:Int}(ht:zaE P t=true)(h:ixs s i=some x):zhS P t (.string s) (.int j i)=some (.int .u8 x):=by
 obtain⟨h0,_,h2⟩:=znX h;simp only[zhS,ht,h0,and_self,if_true];cases hb:s[i.toNat]? with
 |none=>rw[hb]at h2;cases h2
 |some b=>rw[hb]at h2;simpa using h2
theorem zAP{β:Type}{f:Int→Option β}{φ:β→Prop}(hF:Rn ((ixs s i).bind f) φ):∃x,(0≤i∧i<s.size∧∀(P:Program) (t:TypeId) (j:IntKind),zaE P t=true→zhS P t (.string s) (.int j i)=some (.int .u8 x))∧Rn (f x) φ:=by
 obtain⟨x,h1,h2⟩:=zdL hF;exact⟨x,⟨(znX h1).1,(znX h1).2.1,fun _ _ _ ht=>zzt ht h1⟩,h2⟩
theorem zyJ{α:Type}{b:Int}{e:Option α}{φ:α→Prop}(hF:Rn (gd (b≠0) e) φ):(b≠0∧∀x,zko b x=some x)∧Rn e φ:=⟨⟨(zfp hF).1,fun _=>zpA (zfp hF).1⟩,(zfp hF).2⟩
theorem zlS{α:Type}{f:FuncId}{F:Option α}{r:α}{ro:α→PV}{ol:α→List PV}(nt:Nat)(io fz hp:List Nat)(rs:List ResultVar)(hF:F=some r)(hc:zac P f)(hf:P.funcs[f]? =some fn)(hb:fn.body=some code)(hnt:fn.ntmps=nt)(hrs:fn.results.toList=rs)(hl:as.length≤nt∧ioL 0 as=io)
(h:∀φ:α→Prop,(∀r',φ r'→r'=r)→Rn F φ→pw P ⟨nt,io,fz,hp⟩ [.code code] (zjK P rs as (Eo (ro r) (ol r))) (zhj as)):PCalls P f as (Eo (ro r) (ol r)):=by
 obtain⟨hlen,rfl⟩:=hl;subst hnt;subst hrs;exact znq (R:=fun r=>Eo (ro r) (ol r)) fz hp hF hc hf hb hlen h
theorem pF{α:Type}{f:FuncId}{F:Option α}{r:α}{ro:α→PV}{ol:α→List PV}(nt:Nat)(io fz hp:List Nat)(rs:List ResultVar)(hF:F=some r)(hc:zac P f)(hf:P.funcs[f]? =some fn)
(h:∀φ:α→Prop,(∀r',φ r'→r'=r)→Rn F φ→True→pw P ⟨nt,io,fz,hp⟩ [.code code] (zjK P rs as (Eo (ro r) (ol r))) (zhj as))(hb:fn.body=some code:=by rfl)(hnt:fn.ntmps=nt:=by rfl)(hrs:fn.results.toList=rs:=by rfl)(hl:as.length≤nt∧ioL 0 as=io:=by exact⟨by simp,rfl⟩):PCalls P f as (Eo (ro r) (ol r)):=
 zlS nt io fz hp rs hF hc hf hb hnt hrs hl fun φ h1 h2=>h φ h1 h2 trivial
theorem pL{σ β:Type}{step:σ→Option (Stp σ β)}{b:β}{s0:σ}(hb:zax step s0=some b)(shape:σ→List (Nat×PF))
(round:∀s (φ:Stp σ β→Prop) (N:PFr→Prop),(∀b',φ (.out b')→b'=b)→(∀s' pf,zbH (shape s') pf→φ (.go s')→N pf)→Rn (step s) φ→pw P c [.code bd] (lp1 P c N k Q) (PFr.ofL (shape s)))(ha:zbH (shape s0) pf:=by simp[go_sem,g]):pw P c (.code (.loop bd)::k) Q pf:=zsB shape hb ha round
theorem pR{σ β:Type}{body:Int→σ→Option (Stp σ β)}{stop:σ→β}{b:β}{s0:σ}(hb:zau body stop m 0 s0=some b)(shape:Int→σ→List (Nat×PF))
(last:∀s (N:PFr→Prop),stop s=b→pw P c [.code bd] (lp1 P c N k Q) (PFr.ofL (shape (0+m) s)))
(round:∀(i:Int) s (φ:Stp σ β→Prop) (N:PFr→Prop),0≤i→i<m→(∀b',φ (.out b')→b'=b)→(∀s' pf,zbH (shape (i+1) s') pf→φ (.go s')→N pf)→Rn (body i s) φ→pw P c [.code bd] (lp1 P c N k Q) (PFr.ofL (shape i s)))(ha:zbH (shape 0 s0) pf:=by simp[go_sem,g]):pw P c (.code (.loop bd)::k) Q pf:=
 zsa shape hb ha last fun i s φ N h1 h2 ho hg hF=>round i s φ N h1 (by omega) ho hg hF
theorem Rx(g:G){α β:Type}{l:List α}{f:α→Option β}{φ:β→Prop}(hF:Rn ((ix l i).bind f) φ):∃x,(G∧0≤i∧i<l.length∧l[i.toNat]? =some x∧∀h:i.toNat<l.length,l[i.toNat]'h=x)∧Rn (f x) φ:=
 let⟨x,h1,h2⟩:=zuW hF;⟨x,⟨g,h1⟩,h2⟩
theorem Rxn(g:G){α β:Type}{l:List α}(n:Nat){f:α→Option β}{φ:β→Prop}(hF:Rn ((ix l i).bind f) φ)(hn:i=n:=by rfl):∃x,(G∧0≤i∧i<l.length∧n<l.length∧l[n]? =some x∧∀h:n<l.length,l[n]'h=x)∧Rn (f x) φ:=
 let⟨x,h1,h2⟩:=zvY n hn hF;⟨x,⟨g,h1⟩,h2⟩
theorem Rxq(g:G){α β:Type}{l:List α}{f:α→Option β}{φ:β→Prop}{q:α→Prop}(hF:Rn ((ix l i).bind f) φ)(h:∀x,l[i.toNat]? =some x→q x:=by intro x w;first|(simp[go_sem]at w;exact w)|exact w):∃x,((G∧0≤i∧i<l.length∧l[i.toNat]? =some x∧∀h:i.toNat<l.length,l[i.toNat]'h=x)∧q x)∧Rn (f x) φ:=
 let⟨x,h1,h2⟩:=zuW hF;⟨x,⟨⟨g,h1⟩,h x h1.2.2.1⟩,h2⟩
theorem zuz(g:G){α β:Type}{l:List α}(n:Nat){f:α→Option β}{φ:β→Prop}{q:α→Prop}(hF:Rn ((ix l i).bind f) φ)(hn:i=n:=by rfl)(h:∀x,l[n]? =some x→q x:=by intro x w;first|(simp[go_sem]at w;exact w)|exact w):∃x,((G∧0≤i∧i<l.length∧n<l.length∧l[n]? =some x∧∀h:n<l.length,l[n]'h=x)∧q x)∧Rn (f x) φ:=
 let⟨x,h1,h2⟩:=zvY n hn hF;⟨x,⟨⟨g,h1⟩,h x h1.2.2.2.1⟩,h2⟩
theorem Rxs(g:G){β:Type}{f:Int→Option β}{φ:β→Prop}{q:Int→Prop}(hF:Rn ((ixs s i).bind f) φ)(h:∀x,(∀(P:Program) (t:TypeId) (j:IntKind),zaE P t=true→zhS P t (.string s) (.int j i)=some (.int .u8 x))→q x:=by intro x w;first|(simp[go_sem]at w;exact w)|exact w):∃x,((G∧0≤i∧i<s.size∧∀(P:Program) (t:TypeId) (j:IntKind),zaE P t=true→zhS P t (.string s) (.int j i)=some (.int .u8 x))∧q x)∧Rn (f x) φ:=
 let⟨x,h1,h2⟩:=zAP hF;⟨x,⟨⟨g,h1⟩,h x h1.2.2⟩,h2⟩
theorem Rsa(g:G){a b:ByteArray}{α:Type}{e:Option α}{φ:α→Prop}{q:Prop}(hF:Rn (gd (a.size+b.size≤9223372036854775807) e) φ)(h:(∀P t,za1 P .add t (.string a) (.string b)=some (.string (a++b)))→q:=by intro w;first|(simp[go_sem]at w;exact w)|exact w):((G∧∀P t,za1 P .add t (.string a) (.string b)=some (.string (a++b)))∧q)∧Rn e φ:=
 ⟨⟨⟨g,fun _ _=>zrD (zfp hF).1⟩,h fun _ _=>zrD (zfp hF).1⟩,(zfp hF).2⟩
theorem Rg{p q:Prop}[Decidable p](g:G){α:Type}{e:Option α}{φ:α→Prop}(hF:Rn (gd p e) φ)(h:p→q:=by intro w;first|(simp at w;exact w)|exact w):((G∧p)∧q)∧Rn e φ:=
 ⟨⟨⟨g,(zfp hF).1⟩,h (zfp hF).1⟩,(zfp hF).2⟩
theorem Rz(g:G){α:Type}{b:Int}{e:Option α}{φ:α→Prop}(hF:Rn (gd (b≠0) e) φ):(G∧b≠0∧∀x,zko b x=some x)∧Rn e φ:=⟨⟨g,(zyJ hF).1⟩,(zyJ hF).2⟩
theorem Ld(g:G)(b:Int)(h:b≠0:=by decide):G∧∀x,zko b x=some x:=⟨g,fun _=>zpA h⟩
theorem Ls(g:G)(b:Int)(h:0≤b:=by decide):G∧∀x,zl9 b x=some x:=⟨g,fun _=>zt3 h⟩
@[go_sem] theorem zB7{α β:Type}{f:α→β}{l:List α}{k:Nat}:(List.take m (List.map f l))[k]? =((List.take m l)[k]?).map f:=by rw[←List.map_take,List.getElem?_map]
@[go_sem] theorem zAH{α β:Type}{f:α→β}{l:List α}:List.take l.length (List.map f l)=List.map f l:=List.take_of_length_le (by simp)
theorem Rsh(g:G){α:Type}{b:Int}{e:Option α}{φ:α→Prop}(hF:Rn (gd (0≤b) e) φ):(G∧0≤b∧∀x,zl9 b x=some x)∧Rn e φ:=⟨⟨g,(zfp hF).1,fun _=>zt3 (zfp hF).1⟩,(zfp hF).2⟩
theorem PCalls.frz{f:FuncId}{R':PV→List PV→Prop}(h:PCalls P f as R)(hr:∀r outs,R r outs→R' (drop r) outs):PCalls P f as R':=by
 refine⟨h.1,fun E vs h1 h2 h3=>(h.2 E vs h1 h2 h3).mono fun rv H' ⟨r,outs,E',a,b,c⟩=>⟨drop r,outs,E'.fz (as.length,[]),hr r outs a,b,?_⟩⟩;refine⟨⟨c.ok.wf,fun id hid=>?_⟩,c.since.trans ziC,(c.r.freeze zgs zqU).up,c.len,fun k y v hy hv=>?_⟩
 ·obtain⟨g1,g2⟩:=c.ok.fresh id hid;refine⟨g1,?_⟩;rintro(g3|⟨r',g3⟩)
  ·exact g2 g3
  ·rw[g1]at g3;cases g3
 ·have hk:k<as.length:=by
   have:=(List.getElem?_eq_some_iff.1 hy).1;rw[c.len]at this;exact this
  exact(c.o k y v hy hv).move zgs (zhN (by show k≠as.length;omega))
theorem pFz{α:Type}{f:FuncId}{F:Option α}{r:α}{ro:α→PV}{ol:α→List PV}(nt:Nat)(io fz hp:List Nat)(rs:List ResultVar)(hF:F=some r)(hc:zac P f)(hf:P.funcs[f]? =some fn)
(h:∀φ:α→Prop,(∀r',φ r'→r'=r)→Rn F φ→True→pw P ⟨nt,io,fz,hp⟩ [.code code] (zjK P rs as (Ef (ro r) (ol r))) (zhj as))(hb:fn.body=some code:=by rfl)(hnt:fn.ntmps=nt:=by rfl)(hrs:fn.results.toList=rs:=by rfl)(hl:as.length≤nt∧ioL 0 as=io:=by exact⟨by simp,rfl⟩):PCalls P f as (Eo (ro r) (ol r)):=by
 obtain⟨hlen,rfl⟩:=hl;subst hnt;subst hrs;exact(znq (R:=fun r=>Ef (ro r) (ol r)) fz hp hF hc hf hb hlen fun φ h1 h2=>h φ h1 h2 trivial).frz fun o os ho=>ho
theorem sq :pw P c (.code (.seq x y)::k) Q pf=pw P c (.code x::.wk y::k) Q pf:=zre
theorem wW(h:pw P c (.code x::k) Q pf)(e:a=pw P c (.wk x::k) Q pf:=by(try (conv=>lhs;simp[go_sem,g]))<;>rfl):a:=e.mpr (zap h)
theorem wK(ks:List Nat){l:List (Nat×PF)}(h2:pw P c (.code x::k) Q (PFr.ofL l))(e:a=pw P c (.wk x::k) Q pf:=by(try (conv=>lhs;simp[go_sem,g]))<;>rfl)(h:(ks.map fun s=>(s,pf s))=l:=by simp[go_sem,g];rfl):a:=e.mpr (zAz ks h h2)
theorem wC{α β:Type}{e:Option α}{F:α→Option β}{φ:β→Prop}(hF:Rn (e.bind F) φ)(ms:List Md){x:Option (FuncId×List (Md×PV)×Bool×PFr×Nat)}{ro:α→PV}{ol:α→List PV}
(h:∀{r},e=some r→PCalls P g as' (Eo (ro r) (ol r)))(hk:∀z,Rn (F z) φ→qv P c co ((back co.nt pf1 l ((ol z).drop n)).map fun p=>(.v (ro z),p)) d k Q)(eq:a0=pw1 P c co ty (.call ⟨.value f,args,ts⟩) d k Q pf:=by(try (conv=>lhs;simp[go_sem,g]))<;>rfl)(hm:ms.length=args.toList.length:=by rfl)(hl:ms.zip (zdt P args.toList ts.toList)=l:=by rfl)(hx:clE ms l f pf=x:=by(try simp[go_sem,clE,g]);first|rfl|done)(hx':x=some (g,as,ow,pf1,n):=by rfl)(has:as=as':=by(try simp[go_sem,g]);first|rfl|done)
(ho:∀z,(ow=false∨(zaU (ro z)&&(ol z).all zaU)=true):=by intro z;simp[go_sem]):a0:=
 eq.mpr (zyT hF ms h hm hl hx hx' has fun z hz=>⟨ho z,hk z hz⟩)
theorem wE{α β:Type}{e:Option α}{F:α→Option β}{φ:β→Prop}(hF:Rn (e.bind F) φ){x:Option (FuncId×List (Md×PV)×Bool×PFr×Nat)}{ro:α→PV}{ol:α→List PV}
(h:∀{r},e=some r→PCalls P g as' (Eo (ro r) (ol r)))(hk:∀z,Rn (F z) φ→qv P c co ((back co.nt pf1 l ((ol z).drop n)).map fun p=>(.v (ro z),p)) d k Q)(eq:a0=pw1 P c co ty (.call ⟨.value f,args,ts⟩) d k Q pf:=by(try (conv=>lhs;simp[go_sem,g]))<;>rfl)(hl:(List.replicate args.toList.length Md.sh).zip (zdt P args.toList ts.toList)=l:=by rfl)(hx:clE (List.replicate args.toList.length Md.sh) l f pf=x:=by(try simp[go_sem,clE,g]);first|rfl|done)(hx':x=some (g,as,ow,pf1,n):=by rfl)(has:as=as':=by(try simp[go_sem,g]);first|rfl|done)
(ho:∀z,(ow=false∨(zaU (ro z)&&(ol z).all zaU)=true):=by intro z;simp[go_sem]):a0:=
 eq.mpr (zyT hF (List.replicate args.toList.length Md.sh) h List.length_replicate hl hx hx' has fun z hz=>⟨ho z,hk z hz⟩)
theorem wD{α β:Type}{e:Option α}{F:α→Option β}{φ:β→Prop}(hF:Rn (e.bind F) φ){x:Option (FuncId×List (Md×PV)×Bool×PFr×Nat)}{ro:α→PV}{ol:α→List PV}
(h:∀{r},e=some r→PCalls P g as' (Eo (ro r) (ol r)))(hk:∀z,Rn (F z) φ→qv P c c ((back c.nt pf1 l ((ol z).drop n)).map fun p=>(.v (ro z),p)) d k Q)(eq:a0=pwd P c true ty (.call ⟨.value f,args,ts⟩) d k Q pf:=by(try (conv=>lhs;simp[go_sem,g]))<;>rfl)(hl:(List.replicate args.toList.length Md.sh).zip (zdt P args.toList ts.toList)=l:=by rfl)(hx:clE (List.replicate args.toList.length Md.sh) l f pf=x:=by(try simp[go_sem,clE,g]);first|rfl|done)(hx':x=some (g,as,ow,pf1,n):=by rfl)(has:as=as':=by(try simp[go_sem,g]);first|rfl|done)
(ho:∀z,(ow=false∨(zaU (ro z)&&(ol z).all zaU)=true):=by intro z;simp[go_sem]):a0:=
 eq.mpr (zBi hF h hl hx hx' has fun z hz=>⟨ho z,hk z hz⟩)
def clK(_ms:List Md)(l:List (Md×Nat×Operand))(us:List PV)(pf:PFr):Option (List (Md×PV)×Bool×PFr):=
 (zic pf l).bind fun y=>(cargs y.2 l y.1).map fun as=>(as++us.map (fun x=>(Md.sh,x)),l.any (zii y.2),y.2)
theorem wI{α:Type}{v:Bool}{e e':Option α}{φ:α→Prop}(hF:Rn (if v=true then e else e') φ)(ht:v=true→Rn e φ→pw P c (.code x::k) Q pf)(he:v=false→Rn e' φ→pw P c (.code y::k) Q pf)(eq:a=pw P c (.code (.cond b x y)::k) Q pf:=by(try (conv=>lhs;repeat rw[sq]))<;>rfl)(hb:rdS pf b=some (.bool v):=by simp[go_sem,g]):a:=eq.mpr (zCP hF hb ht he)
theorem wB{b:Code}(h:pw P c (.code b::.blk id::k) Q pf)(e:a=pw P c (.code (.block id b)::k) Q pf:=by(try (conv=>lhs;repeat rw[sq]))<;>rfl):a:=e.mpr (pw_block.mpr h)
theorem wZ{ops:Array Oper}(D:List (List Oper→DE)){L:List (DE×Oper)}(h1:P.follows .mixedOrders=true)(h:pw P c (.dops (ops.toList.map (·.dst)) L::k) Q pf)(e:a=pw P c (.code (.region id ops true)::k) Q pf:=by(try (conv=>lhs;repeat rw[sq]))<;>rfl)(h2:zjv (D.map fun f=>f ops.toList) ops.toList=true:=by kernel_rfl)(hL:(D.map fun f=>f ops.toList).map (fun x=>(x,ops.toList.getD x.i default))=L:=by rfl):a:=e.mpr (zzH _ h1 h2 hL h)
theorem wt(ht:pw P c (.code x::k) Q pf)(e:a=pw P c (.code (.cond b x y)::k) Q pf:=by(try (conv=>lhs;repeat rw[sq]))<;>rfl)(hb:rdS pf b=some (.bool true):=by simp[go_sem,g]):a:=e.mpr (zjT hb ht)
theorem wf(ht:pw P c (.code y::k) Q pf)(e:a=pw P c (.code (.cond b x y)::k) Q pf:=by(try (conv=>lhs;repeat rw[sq]))<;>rfl)(hb:rdS pf b=some (.bool false):=by simp[go_sem,g]):a:=e.mpr (zmx hb ht)
theorem wT{pf:PFr}(h:∀pf,A pf→B→C pf)(b:B)(e:a0=C pf:=by(try (conv=>lhs;simp[go_sem,g]))<;>rfl)(a:A pf:=by simp[go_sem,g]):a0:=e.mpr (h pf a b)
theorem wG{α:Type}{y y' b:Bool}{e e':Option α}{φ:α→Prop}(hF:Rn (if y=true then e else e') φ)(h1:y'=true→Rn e φ→pwg P c (some (some true)) b ty op d k Q pf)(h2:y'=false→Rn e' φ→pwg P c (some (some false)) b ty op d k Q pf)(eq:a=pwg P c (some (some y')) b ty op d k Q pf:=by(try (conv=>lhs;simp[go_sem,g]))<;>rfl)(hy:y'=y:=by first|rfl|simp):a:=eq.mpr (by subst hy;exact zCX hF h1 h2)
theorem wH{α:Type}{y y' b ext:Bool}{e e':Option α}{φ:α→Prop}(hF:Rn (if y=true then e else e') φ)(h1:y'=true→Rn e φ→ze4 P c (some (some true)) b ext ty op d k Q pf)(h2:y'=false→Rn e' φ→ze4 P c (some (some false)) b ext ty op d k Q pf)(eq:a=ze4 P c (some (some y')) b ext ty op d k Q pf:=by(try (conv=>lhs;simp[go_sem,g]))<;>rfl)(hy:y'=y:=by first|rfl|simp):a:=eq.mpr (by subst hy;exact zAJ hF h1 h2)
theorem wJ{α β:Type}{e:Option α}{f:α→Option β}{φ:β→Prop}{i:PIt}(hF:Rn (e.bind f) φ)(l:α→List (Nat×PF))(hr:∀x,Rn (f x) φ→pw P c (.code y::k) Q (PFr.ofL (l x)))
(hc:∀ψ:α→Prop,(∀x pf,zbH (l x) pf→ψ x→pw P c (.wk y::k) Q pf)→Rn e ψ→pw P c (i::.wk y::k) Q pf)(eq:a0=pw P c (i::.wk y::k) Q pf:=by(try (conv=>lhs;repeat rw[sq]))<;>rfl):a0:=eq.mpr (zsd l hF hr hc)
theorem wS{α β:Type}{e:Option (α ⊕ β)}{f:α→Option β}{φ:β→Prop}{i:PIt}(hF:Rn (e.bind (Sum.elim f some)) φ)(l:α→List (Nat×PF))(hr:∀x,Rn (f x) φ→pw P c (.code y::k) Q (PFr.ofL (l x)))
(hc:∀ψ:α ⊕ β→Prop,(∀x pf,zbH (l x) pf→ψ (.inl x)→pw P c (.wk y::k) Q pf)→(∀r,ψ (.inr r)→φ r)→Rn e ψ→pw P c (i::.wk y::k) Q pf)(eq:a0=pw P c (i::.wk y::k) Q pf:=by(try (conv=>lhs;repeat rw[sq]))<;>rfl):a0:=eq.mpr (zrH l hF hr hc)
theorem wJK{α β:Type}{e:Option α}{f:α→Option β}{φ:β→Prop}{i:PIt}(hF:Rn (e.bind f) φ)(ks:List Nat)(v:α→List (Nat×PF)){l:α→List (Nat×PF)}(hr:∀x,Rn (f x) φ→pw P c (.code y::k) Q (PFr.ofL (l x)))
(hc:∀ψ:α→Prop,(∀x pf,zbH (l x) pf→ψ x→pw P c (.wk y::k) Q pf)→Rn e ψ→pw P c (i::.wk y::k) Q pf)(eq:a0=pw P c (i::.wk y::k) Q pf:=by(try (conv=>lhs;repeat rw[sq]))<;>rfl)(_hl:∀x,(ks.map fun s=>(s,pf s))++v x=l x:=by intro x;simp[go_sem,g];rfl):a0:=eq.mpr (zsd l hF hr hc)
theorem wSK{α β:Type}{e:Option (α ⊕ β)}{f:α→Option β}{φ:β→Prop}{i:PIt}(hF:Rn (e.bind (Sum.elim f some)) φ)(ks:List Nat)(v:α→List (Nat×PF)){l:α→List (Nat×PF)}(hr:∀x,Rn (f x) φ→pw P c (.code y::k) Q (PFr.ofL (l x)))
(hc:∀ψ:α ⊕ β→Prop,(∀x pf,zbH (l x) pf→ψ (.inl x)→pw P c (.wk y::k) Q pf)→(∀r,ψ (.inr r)→φ r)→Rn e ψ→pw P c (i::.wk y::k) Q pf)(eq:a0=pw P c (i::.wk y::k) Q pf:=by(try (conv=>lhs;repeat rw[sq]))<;>rfl)(_hl:∀x,(ks.map fun s=>(s,pf s))++v x=l x:=by intro x;simp[go_sem,g];rfl):a0:=eq.mpr (zrH l hF hr hc)
theorem pLK{σ β:Type}{step:σ→Option (Stp σ β)}{b:β}{s0:σ}(hb:zax step s0=some b)(ks:List Nat)(v:σ→List (Nat×PF)){shape:σ→List (Nat×PF)}
(round:∀s (φ:Stp σ β→Prop) (N:PFr→Prop),(∀b',φ (.out b')→b'=b)→(∀s' pf,zbH (shape s') pf→φ (.go s')→N pf)→Rn (step s) φ→pw P c [.code bd] (lp1 P c N k Q) (PFr.ofL (shape s)))(_hl:∀x,(ks.map fun s=>(s,pf s))++v x=shape x:=by intro x;simp[go_sem,g];rfl)(ha:zbH (shape s0) pf:=by simp[go_sem,g]):pw P c (.code (.loop bd)::k) Q pf:=zsB shape hb ha round
theorem pRK{σ β:Type}{body:Int→σ→Option (Stp σ β)}{stop:σ→β}{b:β}{s0:σ}(hb:zau body stop m 0 s0=some b)(ks:List Nat)(v:Int→σ→List (Nat×PF)){shape:Int→σ→List (Nat×PF)}
(last:∀s (N:PFr→Prop),stop s=b→pw P c [.code bd] (lp1 P c N k Q) (PFr.ofL (shape (0+m) s)))
(round:∀(i:Int) s (φ:Stp σ β→Prop) (N:PFr→Prop),0≤i→i<m→(∀b',φ (.out b')→b'=b)→(∀s' pf,zbH (shape (i+1) s') pf→φ (.go s')→N pf)→Rn (body i s) φ→pw P c [.code bd] (lp1 P c N k Q) (PFr.ofL (shape i s)))(_hl:∀i x,(ks.map fun s=>(s,pf s))++v i x=shape i x:=by intro i x;simp[go_sem,g];rfl)(ha:zbH (shape 0 s0) pf:=by simp[go_sem,g]):pw P c (.code (.loop bd)::k) Q pf:=
 zsa shape hb ha last fun i s φ N h1 h2 ho hg hF=>round i s φ N h1 (by omega) ho hg hF
theorem zx6(h0:0≤i)(h:i<n)(hn:n≤zcx):IntKind.i64.wrap (i+1)=i+1:=wrI (by simp only[zcx]at hn;omega)
theorem wl{α:Type}{φ:α→Prop}{x r:α}{A:Prop}(h:∀r',φ r'→r'=r)(hF:Rn (some x) φ)(k:x=r→A:=by intro e;cases e;refine wW ?_;simp[go_sem,g]):A:=k (h _ (zaa hF))
theorem wm{α:Type}{φ:α→Prop}{x r:α}{A:Prop}(h:∀r',φ r'→r'=r)(hF:Rn (some x) φ)(k:x=r→A:=by intro e;cases e;simp[go_sem,g]):A:=k (h _ (zaa hF))
theorem wV{H:Prop}{pf:PFr}(hh:H)(h:∀pf,A pf→B→C pf)(b:B)(e:H→a0=C pf:=by intro h;(try (conv=>lhs;simp[go_sem,g,h]))<;>rfl)(a:H→A pf:=by intro h;simp[go_sem,g,h]):a0:=(e hh).mpr (h pf (a hh) b)
theorem wu{H I:Prop}(h:H)(i:I)(ht:pw P c (.code x::k) Q pf)(e:a=pw P c (.code (.cond b x y)::k) Q pf:=by(try (conv=>lhs;repeat rw[sq]))<;>rfl)(hb:H→I→rdS pf b=some (.bool true):=by intro h i;simp[go_sem,g,h,i]):a:=e.mpr (zjT (hb h i) ht)
theorem wi{pf:PFr}(h1:0≤i)(h2:i<n)(h:∀pf,A pf→B→C pf)(b:B)(e:a0=C pf:=by(try (conv=>lhs;simp[go_sem,g]))<;>rfl)(a:IntKind.i64.wrap (i+1)=i+1→A pf:=by intro h;simp[go_sem,g,h])(hn:n≤zcx:=by first|assumption|(simp;assumption)|(simp;omega)):a0:=e.mpr (h pf (a (zx6 h1 h2 hn)) b)
theorem wn{β:Type}{b b':β}{B:β→Prop}{pf:PFr}(hN:b'=b)(h:∀pf,A pf→B b'→C pf)(hψ:B b)(k:C pf→a0:=by intro h;refine wW ?_;refine wf ?_;exact Eq.mpr (by(try (conv=>lhs;simp[go_sem,g]))<;>rfl) h)(a:A pf:=by simp[go_sem,g]):a0:=k (h pf a (hN▸hψ))
end
variable{H:AH}{fr:FR}{nt:Nat}{x y:Code}
theorem zzX{E:Env}{l:Lo}{o:Bool}{a:Int}{v:Value}(h:PR E l (.sl o 1 [[.int .i64 a]]) v):∃id off c k,v=.slice (some ⟨id,off,some 1⟩) 1 c∧E.H.b id=some k∧k.cells[off]? =some (.int .i64 a)∧1≤c:=by
 generalize hx:PV.sl o 1 [[.int .i64 a]]=x at h
 have key:∀{l':Nat→Nat→Lo}{off:Nat}{k:Blk},off+1≤k.cells.length→(∀(i:Nat) (r:List PV) (j:Nat) (x:PV) (y:Value),[[PV.int .i64 a]][i]? =some r→r[j]? =some x→k.cells[off+i*1+j]? =some y→PR E (l' i j) x y)→k.cells[off]? =some (.int .i64 a):=by
  intro l' off k hl h;obtain⟨y,hy⟩:∃y,k.cells[off]? =some y:=⟨k.cells[off]'(by omega),List.getElem?_eq_getElem (by omega)⟩
  have:=h 0 _ 0 _ y rfl rfl (show k.cells[off+0*1+0]? =some y by simpa using hy);generalize l' 0 0=L at this;cases this;exact hy
 cases h with
 |sl0=>injection hx with e1 e2 e3;cases e3
 |slS hG hb hn hc hm hr hl hh=>
  injection hx with e1 e2 e3
  subst e2;subst e3;simp at hn;subst hn;exact⟨_,_,_,_,rfl,hb,key (l':=fun _ _=>none) (by omega) hh,hc⟩
 |slO how hG hb hrw hn hc hm hr hl hh=>
  injection hx with e1 e2 e3
  subst e2;subst e3;simp at hn;subst hn;exact⟨_,_,_,_,rfl,hb,key (l':=fun i j=>some (chl _ i j)) (by omega) hh,hc⟩
 |_=>cases hx
theorem zww{P:Program}{g:FuncId}(h:zBm P g)(hc:zac P g){o:Bool}{md:Md}(hmd:∀E x v,zmP E 0 (md,x) v→∃l,PR E l x v){a:Int}{n:Nat}(h1:1≤n)(hn:n≤1000000):
 PCalls P g [(md,.sl o 1 [[.int .i64 a]]),(.sh,.int .i64 n)] (Eo (.sl true 1 (List.replicate n [.int .i64 a])) [.junk,.junk]):=by
 refine⟨hc,fun E vs ok hlen hargs=>?_⟩
 match vs,hlen with
 |[v0,v1],_=>
  obtain⟨l,h0⟩:=hmd E _ v0 (hargs 0 _ v0 rfl rfl);have h2:PR E none (.int .i64 (n:Int)) v1:=hargs 1 _ v1 rfl rfl;cases h2;obtain⟨id,off,c,k,rfl,hb,ha,hcc⟩:=zzX h0;refine(h id off c n k a E.H hb ha (ok.wf id _ hb) hcc h1 hn).mono fun v H' hv=>?_
  obtain⟨rfl,rfl⟩:=hv;refine⟨_,_,⟨E.H.push ⟨true,List.replicate n (.int .i64 a)⟩,E.G,fun b=>if b=E.H.n then some (2,[])else E.ow b⟩,⟨rfl,rfl⟩,rfl,⟨⟨fun b k' hk=>?_,fun b hb'=>?_⟩,⟨Nat.le_succ _,fun b hg=>⟨hg,fun k' hk=>?_⟩,fun b hb1 hb2=>?_⟩,?_,rfl,fun q y v hy hv=>?_⟩⟩
  ·simp only[AH.push]at hk⊢;split at hk
   ·omega
   ·have:=ok.wf b k' hk;omega
  ·have hb1:E.H.n+1≤b:=hb';obtain⟨f1,f2⟩:=ok.fresh b (by omega);exact⟨by simp[show b≠E.H.n by omega,f1],f2⟩
  ·have hne:b≠E.H.n:=fun e=>(ok.fresh b (by omega)).2 hg
   exact⟨k',by simp[AH.push,hne,hk],rfl⟩
  ·have hne:b≠E.H.n:=by omega
   exact⟨by simp[hne,hb2],by simp[AH.push,hne],fun hg=>hg⟩
  ·refine .slO (k:=⟨true,List.replicate n (.int .i64 a)⟩) (by simp) (ok.fresh _ (Nat.le_refl _)).2 (by simp[AH.push]) rfl (by simp) (Nat.le_refl _) (by unfold zcx;omega) (fun r hr=>?_) ⟨⟨by omega,rfl⟩,by simp⟩ fun q r t x y a1 a2 a3=>?_
   ·rw[List.eq_of_mem_replicate hr];rfl
   ·have er:=List.eq_of_mem_replicate (List.mem_of_getElem? a1);subst er
    have ex:x=.int .i64 a:=by
     have:=List.mem_of_getElem? a2;simpa using this
    subst ex;have ey:=List.eq_of_mem_replicate (List.mem_of_getElem? a3);subst ey;exact .int _ _
  ·have:y=.junk:=by
    match q,hy with
    |0,hy=>simpa using hy.symm
    |1,hy=>simpa using hy.symm
    |q+2,hy=>simp at hy
   subst this;exact .junk _
theorem zfx{P:Program}{Q:Exit→FR→AH→Prop}{fr':FR}{H':AH}(h:awp P nt x (fun e f g=>e=.normal∧f=fr'∧g=H') fr H)(h2:awp P nt y Q fr' H'):awp P nt (.seq x y) Q fr H:=by
 show awp P nt x (zh1 (awp P nt y Q) Q) fr H;exact zfz (fun e f g h=>by obtain⟨h1,h3,h4⟩:=h;subst h1;subst h3;subst h4;exact h2) h
theorem zgz{P:Program}{z:Code}{Q:Exit→FR→AH→Prop}(h:awp P nt (.seq x (.seq y z)) Q fr H):awp P nt (.seq (.seq x y) z) Q fr H:=by
 refine zfz (x:=x) (fun e f g h=>?_) h;cases e<;>exact h
theorem zxp{P:Program}{Q:Exit→FR→AH→Prop}{I:FR→AH→Prop}(h:awp P nt x (fun e f g=>e=.normal∧I f g) fr H)(h2:∀f g,I f g→awp P nt y Q f g):awp P nt (.seq x y) Q fr H:=by
 show awp P nt x (zh1 (awp P nt y Q) Q) fr H;exact zfz (fun e f g h=>by obtain⟨h1,h3⟩:=h;subst h1;exact h2 f g h3) h
theorem zx9{P:Program}{Q:Exit→FR→AH→Prop}(h:awp P nt x (fun e f g=>e≠.normal∧Q e f g) fr H):awp P nt (.seq x y) Q fr H:=by
 show awp P nt x (zh1 (awp P nt y Q) Q) fr H;refine zfz (fun e f g h=>?_) h;cases e with
 |normal=>exact absurd rfl h.1
 |_=>exact h.2
theorem zBD{P:Program}{bd:Code}{Q:Exit→FR→AH→Prop}{n:Nat}(J:Nat→FR→AH→Prop)
(step:∀m f g,m≤n→J m f g→∃fr2,zyx fr2 f∧awp P nt bd (fun e f' g'=>match e with| .normal=>∃m',m<m'∧m'≤n∧J m' f' g'|e=>Q e f' g') fr2 g){m:Nat}{f:FR}{g:AH}(hm:m≤n)(h:J m f g):awp P nt (.loop bd) Q f g:=by
 refine⟨n+1-m,?_⟩
 have key:∀d m f g,n+1-m=d→m≤n→J m f g→zkC (awp P nt bd) Q d f g:=by
  intro d;induction d using Nat.strongRecOn with
  |ind d ih=>
   intro m f g h1 h2 hJ;cases d with
   |zero=>omega
   |succ d=>
   obtain⟨fr2,w,hs⟩:=step m f g h2 hJ
   have up:∀(d e:Nat) f g,e≤d→zkC (awp P nt bd) Q e f g→zkC (awp P nt bd) Q d f g:=by
    intro d;induction d with
    |zero=>
     intro e f g he h;have:e=0:=by omega
     subst this;exact h
    |succ d ih2=>
     intro e f g he h;cases e with
     |zero=>exact h.elim
     |succ e=>
      obtain⟨fr3,w3,h3⟩:=h;refine⟨fr3,w3,zfz (fun x f' g' hx=>?_) h3⟩;cases x with
      |normal=>exact ih2 e f' g' (by omega) hx
      |_=>exact hx
   refine⟨fr2,w,zfz (fun x f' g' hx=>?_) hs⟩;cases x with
   |normal=>
    obtain⟨m',a1,a2,a3⟩:=hx;exact up d (n+1-m') f' g' (by omega) (ih (n+1-m') (by omega) m' f' g' rfl a2 a3)
   |_=>exact hx
 exact key _ m f g rfl hm h
end Go.Pm
