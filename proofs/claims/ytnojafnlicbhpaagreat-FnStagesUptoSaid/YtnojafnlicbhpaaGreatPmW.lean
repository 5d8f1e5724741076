import Derived.Test.YtnojafnlicbhpaaGreatPmV
namespace Go.Pm
set_option linter.defProp false
open Go.Am
open Bool renaming false→aa,true→Z
open Option renaming none→ae,some→J
def d0(i:Nat)(s:List Nat):DE:=⟨i,s,[],ae,aa,aa,aa⟩
def d1(i:Nat)(s:List Nat)(r:Nat):DE:=⟨i,s,[r],ae,aa,aa,aa⟩
def d2(i:Nat)(s:List Nat)(r m:Nat):DE:=⟨i,s,[r],J m,aa,aa,aa⟩
def d3(i:Nat)(s:List Nat):DE:=⟨i,s,[],ae,aa,Z,Z⟩
def Lh:Option Tmp->List Nat
 |some d=>[d]
 |none=>[]
def kS(o:List Oper)(x:Oper):List Nat:=B9 x.op++match x.guard with
 |some (j,_)=>Lh (o.getD j default).dst
 |none=>[]
def k0(i:Nat)(o:List Oper):DE:=⟨i,kS o (o.getD i default),[],ae,aa,aa,aa⟩
def k1(i r:Nat)(o:List Oper):DE:=⟨i,kS o (o.getD i default),[r],ae,aa,aa,aa⟩
def k2(i r:Nat)(o:List Oper):DE:=⟨i,kS o (o.getD i default),[r],(B9 (o.getD i default).op).head?,aa,aa,aa⟩
def k3(i:Nat)(o:List Oper):DE:=⟨i,kS o (o.getD i default),[],ae,aa,Z,Z⟩
def k4(b c d:Bool)(i:Nat)(o:List Oper):DE:=⟨i,kS o (o.getD i default),[],ae,b,c,d⟩
def kN(x i:Nat)(o:List Oper):DE:=if x%8=0 then k0 i o else if x%8=1 then k1 i (x/8) o else if x%8=2 then k2 i (x/8) o else if x%8=3 then k3 i o else k4 (x%8 !=4) (x%8 !=5) (x%8==6) i o
def kE:List Nat->List Nat->List (List Oper->DE)
 |i::is,x::xs=>kN x i::kE is xs
 |_,_=>[]
def kD:Nat->List Nat->List (List Oper->DE)
 |i,x::xs=>kN x i::kD (i+1) xs
 |_,[]=>[]
variable{i r x:Nat}{o:List Oper}{s:List Nat}
@[go_sem] def zVD{b c d:Bool}:k4 b c d i o=⟨i,kS o (o.getD i default),[],ae,b,c,d⟩:=(rfl)
@[go_sem] def zVO :kN x i o=if x%8=0 then k0 i o else if x%8=1 then k1 i (x/8) o else if x%8=2 then k2 i (x/8) o else if x%8=3 then k3 i o else k4 (x%8 !=4) (x%8 !=5) (x%8==6) i o:=(rfl)
@[go_sem] def zWp{is xs:List Nat}:kE (i::is) (x::xs)=kN x i::kE is xs:=(rfl)
@[go_sem] def zV4:kE [] []=[]:=(rfl)
@[go_sem] def zV1{xs:List Nat}:kD i (x::xs)=kN x i::kD (i+1) xs:=(rfl)
@[go_sem] def zV2 :kD i []=[]:=(rfl)
@[go_sem] def zT2 :k0 i o=⟨i,kS o (o.getD i default),[],ae,aa,aa,aa⟩:=(rfl)
@[go_sem] def zUq :k1 i r o=⟨i,kS o (o.getD i default),[r],ae,aa,aa,aa⟩:=(rfl)
@[go_sem] def zUR :k2 i r o=⟨i,kS o (o.getD i default),[r],(B9 (o.getD i default).op).head?,aa,aa,aa⟩:=(rfl)
@[go_sem] def zU1 :k3 i o=⟨i,kS o (o.getD i default),[],ae,aa,Z,Z⟩:=(rfl)
@[go_sem] def zV5{d:Option Tmp}{op:Op}{ty:TypeId}{ps:String}{af:Array Edge}:kS o ⟨d,op,ty,ps,af,ae⟩=B9 op:=by simp[kS]
@[go_sem] def zWq{d:Option Tmp}{op:Op}{ty:TypeId}{ps:String}{af:Array Edge}{j:Nat}{b:Bool}:kS o ⟨d,op,ty,ps,af,J (j,b)⟩=B9 op++Lh (o.getD j default).dst:=(rfl)
@[go_sem] def zUZ{d:Nat}:Lh (J d)=[d]:=(rfl)
@[go_sem] def zUg:Lh ae=[]:=(rfl)
@[go_sem] def zOL{o:Op}:B9 o=o.operands.toList.flatMap dT:=(rfl)
@[go_sem] def zUj{t:Tmp}:dT (.tmp t)=[t]:=(rfl)
@[go_sem] def zTA{v:Value}:dT (.const v)=[]:=(rfl)
@[go_sem] def zUk{f:FuncId}:dT (.func f)=[]:=(rfl)
@[go_sem] def zVp{f:Nat}:dT (.global f)=[]:=(rfl)
attribute [go_sem] Op.operands Call.operands
@[go_sem] def zVN :d0 i s=⟨i,s,[],ae,aa,aa,aa⟩:=(rfl)
@[go_sem] def zUP :d1 i s r=⟨i,s,[r],ae,aa,aa,aa⟩:=(rfl)
@[go_sem] def zT6{m:Nat}:d2 i s r m=⟨i,s,[r],J m,aa,aa,aa⟩:=(rfl)
@[go_sem] def zTP :d3 i s=⟨i,s,[],ae,aa,Z,Z⟩:=(rfl)
def Rn{α:Type}(e:Option α)(φ:α->Prop):Prop:=∃a,e=J a/\φ a
def mJ{α β:Type}{e:Option α}{f:α->Option β}{φ:β->Prop}(h:Rn (e.bind f) φ):∃a,e=J a/\Rn (f a) φ:=by
 obtain⟨b,h1,h2⟩:=h;rw[bR]at h1;obtain⟨a,h3,h4⟩:=h1;exact⟨a,h3,b,h4,h2⟩
def eX{α:Type}{a:α}{φ:α->Prop}(h:Rn (J a) φ):φ a:=by
 obtain⟨b,h1,h2⟩:=h;cases h1;exact h2
def Ve{α:Type}{φ:α->Prop}(h:Rn ae φ):False:=by
 obtain⟨b,h1,_⟩:=h;cases h1
def gd{α:Type}(p:Prop)[Decidable p](e:Option α):Option α:=if p then e else ae
def mU{α:Type}{p:Prop}[Decidable p]{e:Option α}{φ:α->Prop}(h:Rn (gd p e) φ):p/\Rn e φ:=by
 unfold gd at h;by_cases hp:p
 ·rw[aB hp]at h;exact⟨hp,h⟩
 ·rw[az hp]at h;exact(Ve h).elim
def QI{α:Type}{v:Bool}{e e':Option α}{φ:α->Prop}(h:Rn (if v=Z then e else e') φ)(hv:v=Z):Rn e φ:=by rwa [aB hv]at h
def PW{α:Type}{v:Bool}{e e':Option α}{φ:α->Prop}(h:Rn (if v=Z then e else e') φ)(hv:v=aa):Rn e' φ:=by rwa [az (by simp[hv])]at h
def zBS{α:Type}{e:Option α}{φ ψ:α->Prop}(h:Rn e φ)(hm:∀a,φ a->ψ a):Rn e ψ:=by
 obtain⟨a,h1,h2⟩:=h;exact⟨a,h1,hm a h2⟩
def ix{α:Type}(l:List α)(i:Int):Option α:=if 0<=i then l[i.toNat]? else ae
def Lb{α:Type}{l:List α}{i:Int}{x:α}(h:ix l i=J x):0<=i/\i<l.length/\l[i.toNat]? =J x:=by
 unfold ix at h;by_cases hi:0<=i
 ·rw[aB hi]at h;have:=(cT.1 h).1;exact⟨hi,by omega,h⟩
 ·rw[az hi]at h;cases h
def zCS{α:Type}{l:List α}{i:Int}{x:α}(h:ix l i=J x):∀h:i.toNat<l.length,l[i.toNat]'h=x:=λh'=>by
 have:=(Lb h).2.2;rw[cE h']at this;exact yA this
def Yi{α:Type}{l:List α}:ix l (i:Int)=l[i]? :=by simp[ix]
def EW{n:Int}(h: -9223372036854775808<=n/\n<=9223372036854775807):IntKind.i64.wrap n=n:=by rw[IntKind.wrap_i64];omega
inductive fe (σ β:Type) where
 |go (s:σ)
 |out (b:β)
def nJ{σ β:Type}(step:σ->Option (fe σ β)):Nat->σ->Option β
 |0,_=>ae
 |n+1,s=>(step s).bind λ
  | .go s'=>nJ step n s'
  | .out b=>J b
open Classical in
noncomputable def dI{σ β:Type}(step:σ->Option (fe σ β))(s:σ):Option β:=if h:∃b n,nJ step n s=J b then J h.choose else ae
def ZR{σ β:Type}{step:σ->Option (fe σ β)}:∀{n m:Nat}{s:σ}{b:β},nJ step n s=J b->n<=m->nJ step m s=J b:=by
 intro n;induction n with
 |zero=>intro m s b h;simp[nJ]at h
 |succ n ih=>
  intro m s b h hm;cases m with
  |zero=>omega
  |succ m=>
   simp only[nJ]at h⊢;cases hs:step s with
   |none=>rw[hs]at h;exact h
   |some x=>
    rw[hs]at h;cases x with
    |go s'=>exact ih h (by omega)
    |out b=>exact h
def MU{σ β:Type}{step:σ->Option (fe σ β)}{s:σ}{b:β}:dI step s=J b↔∃n,nJ step n s=J b:=by
 constructor
 ·intro h;unfold dI at h;split at h
  ·rename_i hx;cases h;exact hx.choose_spec
  ·cases h
 ·rintro⟨n,h⟩;have hx:∃b n,nJ step n s=J b:=⟨b,n,h⟩
  unfold dI;rw[dif_pos hx];obtain⟨m,hm⟩:=hx.choose_spec;have a1:=ZR hm (Nat.le_max_right n m);have a2:=ZR h (Nat.le_max_left n m);rw[a1]at a2;exact a2
theorem M5{σ β:Type}{step:σ->Option (fe σ β)}{s:σ}:dI step s=(step s).bind λ
 | .go s'=>dI step s'
 | .out b=>J b:=by
 apply Option.ext;intro b;rw[MU];constructor
 ·rintro⟨n,h⟩;cases n with
  |zero=>simp[nJ]at h
  |succ n=>
   simp only[nJ]at h;cases hs:step s with
   |none=>rw[hs]at h;exact h
   |some x=>
    rw[hs]at h;cases x with
    |go s'=>exact MU.2 ⟨n,h⟩
    |out b=>exact h
 ·intro h;cases hs:step s with
  |none=>rw[hs]at h;cases h
  |some x=>
   rw[hs]at h;cases x with
   |go s'=>
    obtain⟨n,hn⟩:=MU.1 (show dI step s'=J b from h);exact⟨n+1,by simp only[nJ,hs];exact hn⟩
   |out b'=>exact⟨1,by simp only[nJ,hs];exact h⟩
open Classical in
noncomputable def zWQ{β:Type}(f:Nat->Option β):Option β:=if h:∃b n,f n=J b then J h.choose else ae
def aS{σ β:Type}(body:Int->σ->Option (fe σ β))(stop:σ->β):Nat->Int->σ->Option β
 |0,_,s=>J (stop s)
 |k+1,i,s=>(body i s).bind λ
  | .go s'=>aS body stop k (i+1) s'
  | .out b=>J b
section
variable {P:Program}{c:aY}{k:List ip}{Q:Exit->ah->Prop}{pf:ah}
def rM(P:Program)(c:aY)(N:ah->Prop)(k:List ip)(Q:Exit->ah->Prop):Exit->ah->Prop
 | .normal,pf=>N pf
 |e,pf=>fB P c k Q e pf
variable{A C N:ah->Prop}{B G a a0:Prop}{R:PV->List PV->Prop}{args:Array Operand}{as jt:List (Md×PV)}{b f:Operand}{bd code x y:Code}{co:aY}{d:Option Tmp}{fn:Func}{g:FuncId}{i:Int}{id n:Nat}{l:List (Md×Nat×Operand)}{op:Op}{ow:Bool}{aQ:ah}{s:ByteArray}{ts:Array TypeId}{ty:TypeId}
@[go_sem] theorem zHr :rM P c N k Q .normal pf=N pf:=rfl
@[go_sem] theorem zNl :rM P c N k Q (.exit id) pf=pwx P c id k Q pf:=rfl
@[go_sem] def zO7 :rM P c N k Q .ret pf=Q .ret pf:=by
 show fB P c k Q .ret pf=_;rw[P5]
def Z9{σ β:Type}(shape:σ->List (Nat×PF)){step:σ->Option (fe σ β)}{b:β}{s0:σ}(hb:dI step s0=J b)(ha:gz (shape s0) pf)
(tK:∀s (φ:fe σ β->Prop) (N:ah->Prop),(∀b',φ (.out b')->b'=b)->(∀s' pf,gz (shape s') pf->φ (.go s')->N pf)->Rn (step s) φ->pw P c [.code bd] (rM P c N k Q) (ah.eu (shape s))):pw P c (.code (.loop bd)::k) Q pf:=by
 obtain⟨n,hn⟩:=MU.1 hb;refine⟨n,?_⟩
 have key:∀n s pf,nJ step n s=J b->gz (shape s) pf->BL (gu P c bd) (fB P c k Q) n pf:=by
  intro n;induction n with
  |zero=>intro s pf h;simp[nJ]at h
  |succ n ih=>
   intro s pf h hA;refine⟨ah.eu (shape s),K0 hA,?_⟩
   have hr:=tK s (λx=>match x with| .go s'=>nJ step n s'=J b| .out b'=>b'=b) (λpf=>BL (gu P c bd) (fB P c k Q) n pf) (λb' h=>h) (λs' pf hp h=>ih s' pf h hp) (by
    simp only[nJ]at h;rw[bR]at h;obtain⟨x,h1,h2⟩:=h;refine⟨x,h1,?_⟩;cases x with
    |go s'=>exact h2
    |out b'=>exact yA h2)
   refine Qc bd ?_ hr;intro e pf' hq;cases e<;>exact hq
 exact key n s0 pf hn ha
def zzP{σ β:Type}(shape:Int->σ->List (Nat×PF)){body:Int->σ->Option (fe σ β)}{stop:σ->β}{m:Nat}{i0:Int}{b:β}{s0:σ}(hb:aS body stop m i0 s0=J b)(ha:gz (shape i0 s0) pf)
(last:∀s (N:ah->Prop),stop s=b->pw P c [.code bd] (rM P c N k Q) (ah.eu (shape (i0+m) s)))
(tK:∀i s (φ:fe σ β->Prop) (N:ah->Prop),i0<=i->i<i0+m->(∀b',φ (.out b')->b'=b)->(∀s' pf,gz (shape (i+1) s') pf->φ (.go s')->N pf)->Rn (body i s) φ->pw P c [.code bd] (rM P c N k Q) (ah.eu (shape i s))):pw P c (.code (.loop bd)::k) Q pf:=by
 refine⟨m+1,?_⟩
 have key:∀n i s pf,aS body stop n i s=J b->i0<=i->i+n=i0+m->gz (shape i s) pf->BL (gu P c bd) (fB P c k Q) (n+1) pf:=by
  intro n;induction n with
  |zero=>
   intro i s pf h h0 hi hA;refine⟨ah.eu (shape i s),K0 hA,?_⟩;have e:i=i0+m:=by omega
   subst e;have hr:=last s (λpf=>BL (gu P c bd) (fB P c k Q) 0 pf) (by simpa[aS]using h);refine Qc bd ?_ hr;intro e pf' hq;cases e<;>exact hq
  |succ n ih=>
   intro i s pf h h0 hi hA;refine⟨ah.eu (shape i s),K0 hA,?_⟩
   have hr:=tK i s (λx=>match x with| .go s'=>aS body stop n (i+1) s'=J b| .out b'=>b'=b) (λpf=>BL (gu P c bd) (fB P c k Q) (n+1) pf) h0 (by omega) (λb' h=>h)
    (λs' pf hp h=>ih (i+1) s' pf h (by omega) (by omega) hp) (by
    simp only[aS]at h;rw[bR]at h;obtain⟨x,h1,h2⟩:=h;refine⟨x,h1,?_⟩;cases x with
    |go s'=>exact h2
    |out b'=>exact yA h2)
   refine Qc bd ?_ hr;intro e pf' hq;cases e<;>exact hq
 exact key m i0 s0 pf hb (by omega) (by omega) ha
def rV(_ms:List Md)(l:List (Md×Nat×Operand))(f:Operand)(pf:ah):Option (FuncId×List (Md×PV)×Bool×ah×Nat):=
 (o4 pf l).bind λy=>(pI y.2 f).bind λg=>(eL y.2 l y.1).map λas=>(g.1,g.2.1.map (λx=>(Md.sh,x))++as++g.2.2.map (λx=>(Md.sh,x)),l.any (rT y.2),y.2,g.2.1.length)
def zzU(ms:List Md){x:Option (FuncId×List (Md×PV)×Bool×ah×Nat)}
(hm:ms.length=args.toList.length)(hl:ms.zip (ii P args.toList ts.toList)=l)(hx:rV ms l f pf=x)(lR:x=J (g,as,ow,aQ,n))(h:ap P g jt R)(has:as=jt)
(hk:∀r outs,R r outs->(ow=aa\/(cQ r&&outs.all cQ)=Z)/\qv P c co ((back co.nt aQ l (outs.drop n)).map λp=>(.v r,p)) d k Q):pw1 P c co ty (.call ⟨.value f,args,ts⟩) d k Q pf:=by
 subst has;rw[lR]at hx;simp only[rV,bR,bN]at hx;obtain⟨y,h1,g',h2,as0,h3,h4⟩:=hx;cases h4;exact zBD ms hm hl h1 (show pI y.2 f=J (g'.1,g'.2.1,g'.2.2)from h2) h3 rfl h hk
def zxk{x:Option (FuncId×List (Md×PV)×Bool×ah×Nat)}
(hl:(List.replicate args.toList.length Md.sh).zip (ii P args.toList ts.toList)=l)(hx:rV (List.replicate args.toList.length Md.sh) l f pf=x)(lR:x=J (g,as,ow,aQ,n))(h:ap P g jt R)(has:as=jt)
(hk:∀r outs,R r outs->(ow=aa\/(cQ r&&outs.all cQ)=Z)/\qv P c c ((back c.nt aQ l (outs.drop n)).map λp=>(.v r,p)) d k Q):q9 P c Z ty (.call ⟨.value f,args,ts⟩) d k Q pf:=by
 subst has;rw[lR]at hx;simp only[rV,bR,bN]at hx;obtain⟨y,h1,g',h2,as0,h3,h4⟩:=hx;cases h4;exact zyN hl h1 (show pI y.2 f=J (g'.1,g'.2.1,g'.2.2)from h2) h3 rfl h hk
def Zh{α β:Type}{e:Option α}{f:α->Option β}{φ:β->Prop}{i:ip}(l:α->List (Nat×PF))(hF:Rn (e.bind f) φ)(hr:∀x,Rn (f x) φ->pw P c (.code y::k) Q (ah.eu (l x)))
(hc:∀ψ:α->Prop,(∀x pf,gz (l x) pf->ψ x->pw P c (.wk y::k) Q pf)->Rn e ψ->pw P c (i::.wk y::k) Q pf):pw P c (i::.wk y::k) Q pf:=by
 obtain⟨a,h1,h2⟩:=mJ hF;exact hc (λa=>Rn (f a) φ) (λx _ ha hj=>Iq (l x) ha (hr x hj)) ⟨a,h1,h2⟩
def Z3{α β:Type}{e:Option (α ⊕ β)}{f:α->Option β}{φ:β->Prop}{i:ip}(l:α->List (Nat×PF))(hF:Rn (e.bind (Sum.elim f J)) φ)(hr:∀x,Rn (f x) φ->pw P c (.code y::k) Q (ah.eu (l x)))
(hc:∀ψ:α ⊕ β->Prop,(∀x pf,gz (l x) pf->ψ (.inl x)->pw P c (.wk y::k) Q pf)->(∀r,ψ (.inr r)->φ r)->Rn e ψ->pw P c (i::.wk y::k) Q pf):pw P c (i::.wk y::k) Q pf:=by
 obtain⟨a,h1,h2⟩:=mJ hF;exact hc (λa=>Rn (Sum.elim f J a) φ) (λx _ ha hj=>Iq (l x) ha (hr x hj)) (λr h=>eX h) ⟨a,h1,h2⟩
def zoO{α:Type}{f:FuncId}{F:Option α}{r:α}{R:α->PV->List PV->Prop}(fz hp:List Nat)(hF:F=J r)(hc:ax P f)(hf:P.funcs[f]? =J fn)(hb:fn.body=J code)(hlen:as.length<=fn.ntmps)
(h:∀φ:α->Prop,(∀r',φ r'->r'=r)->Rn F φ->pw P ⟨fn.ntmps,jk 0 as,fz,hp⟩ [.code code] (rW P fn.results.toList as (R r)) (qy as)):ap P f as (R r):=
 zuC fz hp hc hf hb hlen (h (λr'=>r'=r) (λ_ h=>h) ⟨r,hF,rfl⟩)
def Eo(x:PV)(l:List PV):PV->List PV->Prop:=λo os=>o=x/\os=l
def Ef(x:PV)(l:List PV):PV->List PV->Prop:=λo os=>drop o=x/\os=l
@[go_sem,reducible] def cI:List PV:=[.au,.au]
@[go_sem,reducible] def gq:List PV:=[.au,.au,.au]
@[go_sem,reducible] def ky:List PV:=[.au,.au,.au,.au]
@[go_sem,reducible] def rX:List PV:=[.au,.au,.au,.au,.au]
@[go_sem,reducible] def sj:List PV:=[.au,.au,.au,.au,.au,.au]
@[go_sem,reducible] def MO:List PV:=[.au,.au,.au,.au,.au,.au,.au]
@[go_sem,reducible] def zR9:List PV:=[.au,.au,.au,.au,.au,.au,.au,.au]
@[go_sem,reducible] def zRI:List PV:=[.au,.au,.au,.au,.au,.au,.au,.au,.au]
@[go_sem] theorem zVB{x o:PV}{l os:List PV}:Ef x l o os=(drop o=x/\os=l):=rfl
@[go_sem] theorem zVe{x o:PV}{l os:List PV}:Eo x l o os=(o=x/\os=l):=rfl
@[go_sem ↓] theorem zS1{rows:List (List PV)}:tV P c co (J rows) d k Q pf=(rows.length<=kj->qv P c co (J (.v (.int .i64 rows.length),pf)) d k Q):=rfl
def zwn(ks:List Nat):gz (ks.map λs=>(s,pf s)) pf:=by
 induction ks with
 |nil=>trivial
 |cons s ks ih=>exact⟨rfl,ih⟩
def zCH(ks:List Nat){l:List (Nat×PF)}(h:(ks.map λs=>(s,pf s))=l)(h2:pw P c (.code x::k) Q (ah.eu l)):pw P c (.wk x::k) Q pf:=by
 subst h;exact Iq _ (zwn ks) h2
def zIb{α:Type}{v:Bool}{e e':Option α}{φ:α->Prop}(hF:Rn (if v=Z then e else e') φ)(hb:cr pf b=J (.bool v))(ht:v=Z->Rn e φ->pw P c (.code x::k) Q pf)(he:v=aa->Rn e' φ->pw P c (.code y::k) Q pf):
 pw P c (.code (.cond b x y)::k) Q pf:=Rm hb (λh=>ht h (QI hF h)) λh=>he h (PW hF h)
def zFc{α:Type}{y b:Bool}{e e':Option α}{φ:α->Prop}(hF:Rn (if y=Z then e else e') φ)(h1:y=Z->Rn e φ->pwg P c (J (J Z)) b ty op d k Q pf)(h2:y=aa->Rn e' φ->pwg P c (J (J aa)) b ty op d k Q pf):pwg P c (J (J y)) b ty op d k Q pf:=
 zx7 (λh=>h1 h (QI hF h)) λh=>h2 h (PW hF h)
def zCn{α:Type}{y b ext:Bool}{e e':Option α}{φ:α->Prop}(hF:Rn (if y=Z then e else e') φ)(h1:y=Z->Rn e φ->jm P c (J (J Z)) b ext ty op d k Q pf)(h2:y=aa->Rn e' φ->jm P c (J (J aa)) b ext ty op d k Q pf):jm P c (J (J y)) b ext ty op d k Q pf:=
 zwx (λh=>h1 h (QI hF h)) λh=>h2 h (PW hF h)
def Yp{α β:Type}{e:Option α}{F:α->Option β}{φ:β->Prop}(hF:Rn (e.bind F) φ)(ms:List Md){x:Option (FuncId×List (Md×PV)×Bool×ah×Nat)}{ro:α->PV}{ol:α->List PV}
(h:∀{r},e=J r->ap P g jt (Eo (ro r) (ol r)))(hm:ms.length=args.toList.length)(hl:ms.zip (ii P args.toList ts.toList)=l)(hx:rV ms l f pf=x)(lR:x=J (g,as,ow,aQ,n))(has:as=jt)
(hk:∀z,Rn (F z) φ->(ow=aa\/(cQ (ro z)&&(ol z).all cQ)=Z)/\qv P c co ((back co.nt aQ l ((ol z).drop n)).map λp=>(.v (ro z),p)) d k Q):pw1 P c co ty (.call ⟨.value f,args,ts⟩) d k Q pf:=by
 obtain⟨a,ha,hr⟩:=mJ hF;refine zzU ms hm hl hx lR (h ha) has λr outs ho=>?_
 obtain⟨rfl,rfl⟩:=ho;exact hk a hr
def zDG{α β:Type}{e:Option α}{F:α->Option β}{φ:β->Prop}(hF:Rn (e.bind F) φ){x:Option (FuncId×List (Md×PV)×Bool×ah×Nat)}{ro:α->PV}{ol:α->List PV}
(h:∀{r},e=J r->ap P g jt (Eo (ro r) (ol r)))(hl:(List.replicate args.toList.length Md.sh).zip (ii P args.toList ts.toList)=l)(hx:rV (List.replicate args.toList.length Md.sh) l f pf=x)(lR:x=J (g,as,ow,aQ,n))(has:as=jt)
(hk:∀z,Rn (F z) φ->(ow=aa\/(cQ (ro z)&&(ol z).all cQ)=Z)/\qv P c c ((back c.nt aQ l ((ol z).drop n)).map λp=>(.v (ro z),p)) d k Q):q9 P c Z ty (.call ⟨.value f,args,ts⟩) d k Q pf:=by
 obtain⟨a,ha,hr⟩:=mJ hF;refine zxk hl hx lR (h ha) has λr outs ho=>?_
 obtain⟨rfl,rfl⟩:=ho;exact hk a hr
def Tk{α β:Type}{l:List α}{f:α->Option β}{φ:β->Prop}(hF:Rn ((ix l i).bind f) φ):∃x,(0<=i/\i<l.length/\l[i.toNat]? =J x/\∀h:i.toNat<l.length,l[i.toNat]'h=x)/\Rn (f x) φ:=by
 obtain⟨x,h1,h2⟩:=mJ hF;exact⟨x,⟨(Lb h1).1,(Lb h1).2.1,(Lb h1).2.2,zCS h1⟩,h2⟩
def zC3{α β:Type}{l:List α}(n:Nat)(hn:i=n){f:α->Option β}{φ:β->Prop}(hF:Rn ((ix l i).bind f) φ):∃x,(0<=i/\i<l.length/\n<l.length/\l[n]? =J x/\∀h:n<l.length,l[n]'h=x)/\Rn (f x) φ:=by
 subst hn;obtain⟨x,⟨h1,h2,h3,h4⟩,h5⟩:=Tk hF;rw[dG]at h3;exact⟨x,⟨h1,h2,by omega,h3,λh=>by have:=h4 (by simpa using h);simpa using this⟩,h5⟩
def rN(s:ByteArray)(i:Int):Option Int:=if 0<=i then(s[i.toNat]?).map λb=>(b.toNat:Int)else ae
def Sl{x:Int}(h:rN s i=J x):0<=i/\i<s.size/\((s[i.toNat]?).map λb=>(b.toNat:Int))=J x:=by
 unfold rN at h;by_cases hi:0<=i
 ·rw[aB hi]at h;cases hb:s[i.toNat]? with
  |none=>rw[hb]at h;cases h
  |some b=>
   have:i.toNat<s.size:=by
    rcases dK i.toNat s.size with h'|h'
    ·exact h'
    ·rw[getElem?_neg s i.toNat (by simpa using h')]at hb;cases hb
   rw[hb]at h;exact⟨hi,by omega,h⟩
 ·rw[az hi]at h;cases h
def zBJ{P:Program}{t:TypeId}{j:IntKind}{x:Int}(ht:dU P t=Z)(h:rN s i=J x):rI P t (.string s) (.int j i)=J (.int .u8 x):=by
 obtain⟨h0,_,h2⟩:=Sl h;simp only[rI,ht,h0,and_self,eP];cases hb:s[i.toNat]? with
 |none=>rw[hb]at h2;cases h2
 |some b=>rw[hb]at h2;simpa using h2
def Zo{β:Type}{f:Int->Option β}{φ:β->Prop}(hF:Rn ((rN s i).bind f) φ):∃x,(0<=i/\i<s.size/\∀(P:Program) (t:TypeId) (j:IntKind),dU P t=Z->rI P t (.string s) (.int j i)=J (.int .u8 x))/\Rn (f x) φ:=by
 obtain⟨x,h1,h2⟩:=mJ hF;exact⟨x,⟨(Sl h1).1,(Sl h1).2.1,λ_ _ _ ht=>zBJ ht h1⟩,h2⟩
def zB2{β:Type}(n:Nat)(hn:i=n){f:Int->Option β}{φ:β->Prop}(hF:Rn ((rN s i).bind f) φ):∃x,(0<=i/\i<s.size/\n<s.size/\∀(P:Program) (t:TypeId) (j:IntKind),dU P t=Z->rI P t (.string s) (.int j i)=J (.int .u8 x))/\Rn (f x) φ:=by
 subst hn;obtain⟨x,⟨h1,h2,h3⟩,h5⟩:=Zo hF;exact⟨x,⟨h1,h2,by omega,h3⟩,h5⟩
def zAB{α:Type}{b:Int}{e:Option α}{φ:α->Prop}(hF:Rn (gd (b≠0) e) φ):(b≠0/\∀x,uA b x=J x)/\Rn e φ:=⟨⟨(mU hF).1,λ_=>OU (mU hF).1⟩,(mU hF).2⟩
def K8{α:Type}{f:FuncId}{F:Option α}{r:α}{ro:α->PV}{ol:α->List PV}(nt:Nat)(io fz hp:List Nat)(rs:List ResultVar)(hF:F=J r)(hc:ax P f)(hf:P.funcs[f]? =J fn)(hb:fn.body=J code)(Al:fn.ntmps=nt)(ie:fn.results.toList=rs)(hl:as.length<=nt/\jk 0 as=io)
(h:∀φ:α->Prop,(∀r',φ r'->r'=r)->Rn F φ->pw P ⟨nt,io,fz,hp⟩ [.code code] (rW P rs as (Eo (ro r) (ol r))) (qy as)):ap P f as (Eo (ro r) (ol r)):=by
 obtain⟨hlen,rfl⟩:=hl;subst Al;subst ie;exact zoO (R:=λr=>Eo (ro r) (ol r)) fz hp hF hc hf hb hlen h
def pF{α:Type}{f:FuncId}{F:Option α}{r:α}{ro:α->PV}{ol:α->List PV}(nt:Nat)(io fz hp:List Nat)(rs:List ResultVar)(hF:F=J r)(hc:ax P f)(hf:P.funcs[f]? =J fn)
(h:∀φ:α->Prop,(∀r',φ r'->r'=r)->Rn F φ->True->pw P ⟨nt,io,fz,hp⟩ [.code code] (rW P rs as (Eo (ro r) (ol r))) (qy as))(hb:fn.body=J code:=by rfl)(Al:fn.ntmps=nt:=by rfl)(ie:fn.results.toList=rs:=by rfl)(hl:as.length<=nt/\jk 0 as=io:=by exact⟨by simp,rfl⟩):ap P f as (Eo (ro r) (ol r)):=
 K8 nt io fz hp rs hF hc hf hb Al ie hl λφ h1 h2=>h φ h1 h2 trivial
def pL{σ β:Type}{step:σ->Option (fe σ β)}{b:β}{s0:σ}(hb:dI step s0=J b)(shape:σ->List (Nat×PF))
(tK:∀s (φ:fe σ β->Prop) (N:ah->Prop),(∀b',φ (.out b')->b'=b)->(∀s' pf,gz (shape s') pf->φ (.go s')->N pf)->Rn (step s) φ->pw P c [.code bd] (rM P c N k Q) (ah.eu (shape s)))(ha:gz (shape s0) pf:=by simp[go_sem,g]):pw P c (.code (.loop bd)::k) Q pf:=Z9 shape hb ha tK
def Rx(g:G){α β:Type}{l:List α}{f:α->Option β}{φ:β->Prop}(hF:Rn ((ix l i).bind f) φ):∃x,(G/\0<=i/\i<l.length/\l[i.toNat]? =J x/\∀h:i.toNat<l.length,l[i.toNat]'h=x)/\Rn (f x) φ:=
 let⟨x,h1,h2⟩:=Tk hF;⟨x,⟨g,h1⟩,h2⟩
def j8(g:G){α β:Type}{l:List α}(n:Nat){f:α->Option β}{φ:β->Prop}(hF:Rn ((ix l i).bind f) φ)(hn:i=n:=by rfl):∃x,(G/\0<=i/\i<l.length/\n<l.length/\l[n]? =J x/\∀h:n<l.length,l[n]'h=x)/\Rn (f x) φ:=
 let⟨x,h1,h2⟩:=zC3 n hn hF;⟨x,⟨g,h1⟩,h2⟩
def ig(g:G){α β:Type}{l:List α}{f:α->Option β}{φ:β->Prop}{q:α->Prop}(hF:Rn ((ix l i).bind f) φ)(h:∀x,l[i.toNat]? =J x->q x:=by intro x w;first|(simp[go_sem]at w;exact w)|exact w):∃x,((G/\0<=i/\i<l.length/\l[i.toNat]? =J x/\∀h:i.toNat<l.length,l[i.toNat]'h=x)/\q x)/\Rn (f x) φ:=
 let⟨x,h1,h2⟩:=Tk hF;⟨x,⟨⟨g,h1⟩,h x h1.2.2.1⟩,h2⟩
def Rxs(g:G){β:Type}{f:Int->Option β}{φ:β->Prop}{q:Int->Prop}(hF:Rn ((rN s i).bind f) φ)(h:∀x,(∀(P:Program) (t:TypeId) (j:IntKind),dU P t=Z->rI P t (.string s) (.int j i)=J (.int .u8 x))->q x:=by intro x w;first|(simp[go_sem]at w;exact w)|exact w):∃x,((G/\0<=i/\i<s.size/\∀(P:Program) (t:TypeId) (j:IntKind),dU P t=Z->rI P t (.string s) (.int j i)=J (.int .u8 x))/\q x)/\Rn (f x) φ:=
 let⟨x,h1,h2⟩:=Zo hF;⟨x,⟨⟨g,h1⟩,h x h1.2.2⟩,h2⟩
def zKx(g:G){β:Type}(n:Nat){f:Int->Option β}{φ:β->Prop}{q:Int->Prop}(hF:Rn ((rN s i).bind f) φ)(hn:i=n:=by rfl)(h:∀x,(∀(P:Program) (t:TypeId) (j:IntKind),dU P t=Z->rI P t (.string s) (.int j i)=J (.int .u8 x))->q x:=by intro x w;first|(simp[go_sem]at w;exact w)|exact w):∃x,((G/\0<=i/\i<s.size/\n<s.size/\∀(P:Program) (t:TypeId) (j:IntKind),dU P t=Z->rI P t (.string s) (.int j i)=J (.int .u8 x))/\q x)/\Rn (f x) φ:=
 let⟨x,h1,h2⟩:=zB2 n hn hF;⟨x,⟨⟨g,h1⟩,h x h1.2.2.2⟩,h2⟩
def Rsa(g:G){a b:ByteArray}{α:Type}{e:Option α}{φ:α->Prop}{q:Prop}(hF:Rn (gd (a.size+b.size<=9223372036854775807) e) φ)(h:(∀P t,cW P .add t (.string a) (.string b)=J (.string (a++b)))->q:=by intro w;first|(simp[go_sem]at w;exact w)|exact w):((G/\∀P t,cW P .add t (.string a) (.string b)=J (.string (a++b)))/\q)/\Rn e φ:=
 ⟨⟨⟨g,λ_ _=>Yz (mU hF).1⟩,h λ_ _=>Yz (mU hF).1⟩,(mU hF).2⟩
def Rg{p q:Prop}[Decidable p](g:G){α:Type}{e:Option α}{φ:α->Prop}(hF:Rn (gd p e) φ)(h:p->q:=by intro w;first|(simp at w;exact w)|exact w):((G/\p)/\q)/\Rn e φ:=
 ⟨⟨⟨g,(mU hF).1⟩,h (mU hF).1⟩,(mU hF).2⟩
def Rz(g:G){α:Type}{b:Int}{e:Option α}{φ:α->Prop}(hF:Rn (gd (b≠0) e) φ):(G/\b≠0/\∀x,uA b x=J x)/\Rn e φ:=⟨⟨g,(zAB hF).1⟩,(zAB hF).2⟩
def Ld(g:G)(b:Int)(h:b≠0:=by decide):G/\∀x,uA b x=J x:=⟨g,λ_=>OU h⟩
def Ls(g:G)(b:Int)(h:0<=b:=by decide):G/\∀x,yF b x=J x:=⟨g,λ_=>zu9 h⟩
@[go_sem] def zD3{α β:Type}{f:α->β}{l:List α}{m k:Nat}:(List.take m (List.map f l))[k]? =((List.take m l)[k]?).map f:=by rw[<-List.map_take,Da]
@[go_sem] def zDs{α β:Type}{f:α->β}{l:List α}:List.take l.length (List.map f l)=List.map f l:=KA (by simp)
def Rsh(g:G){α:Type}{b:Int}{e:Option α}{φ:α->Prop}(hF:Rn (gd (0<=b) e) φ):(G/\0<=b/\∀x,yF b x=J x)/\Rn e φ:=⟨⟨g,(mU hF).1,λ_=>zu9 (mU hF).1⟩,(mU hF).2⟩
def ap.nx{f:FuncId}{R':PV->List PV->Prop}(h:ap P f as R)(hr:∀r outs,R r outs->R' (drop r) outs):ap P f as R':=by
 refine⟨h.1,λE vs h1 h2 h3=>(h.2 E vs h1 h2 h3).mono λrv H' ⟨r,outs,E',a,b,c⟩=>⟨drop r,outs,E'.fz (as.length,[]),hr r outs a,b,?_⟩⟩;refine⟨⟨c.ok.wf,λid bY=>?_⟩,c.since.trans Fi,(c.r.freeze pU Od).up,c.len,λk y v hy hv=>?_⟩
 ·obtain⟨g1,g2⟩:=c.ok.fresh id bY;refine⟨g1,?_⟩;rintro(g3|⟨r',g3⟩)
  ·exact g2 g3
  ·rw[g1]at g3;cases g3
 ·have hk:k<as.length:=by
   have:=(cT.1 hy).1;rw[c.len]at this;exact this
  exact(c.o k y v hy hv).move pU (Az (by show k≠as.length;omega))
def F0{α:Type}{f:FuncId}{F:Option α}{r:α}{ro:α->PV}{ol:α->List PV}(nt:Nat)(io fz hp:List Nat)(rs:List ResultVar)(hF:F=J r)(hc:ax P f)(hf:P.funcs[f]? =J fn)
(h:∀φ:α->Prop,(∀r',φ r'->r'=r)->Rn F φ->True->pw P ⟨nt,io,fz,hp⟩ [.code code] (rW P rs as (Ef (ro r) (ol r))) (qy as))(hb:fn.body=J code:=by rfl)(Al:fn.ntmps=nt:=by rfl)(ie:fn.results.toList=rs:=by rfl)(hl:as.length<=nt/\jk 0 as=io:=by exact⟨by simp,rfl⟩):ap P f as (Eo (ro r) (ol r)):=by
 obtain⟨hlen,rfl⟩:=hl;subst Al;subst ie;exact(zoO (R:=λr=>Ef (ro r) (ol r)) fz hp hF hc hf hb hlen λφ h1 h2=>h φ h1 h2 trivial).nx λo os ho=>ho
def sq :pw P c (.code (.seq x y)::k) Q pf=pw P c (.code x::.wk y::k) Q pf:=O3
def wW(h:pw P c (.code x::k) Q pf)(e:a=pw P c (.wk x::k) Q pf:=by(try (conv=>lhs;simp[go_sem,g]))<;>rfl):a:=e.mpr (bu h)
def wK(ks:List Nat){l:List (Nat×PF)}(h2:pw P c (.code x::k) Q (ah.eu l))(e:a=pw P c (.wk x::k) Q pf:=by(try (conv=>lhs;simp[go_sem,g]))<;>rfl)(h:(ks.map λs=>(s,pf s))=l:=by simp[go_sem,g];rfl):a:=e.mpr (zCH ks h h2)
def wC{α β:Type}{e:Option α}{F:α->Option β}{φ:β->Prop}(hF:Rn (e.bind F) φ)(ms:List Md){x:Option (FuncId×List (Md×PV)×Bool×ah×Nat)}{ro:α->PV}{ol:α->List PV}
(h:∀{r},e=J r->ap P g jt (Eo (ro r) (ol r)))(hk:∀z,Rn (F z) φ->qv P c co ((back co.nt aQ l ((ol z).drop n)).map λp=>(.v (ro z),p)) d k Q)(eq:a0=pw1 P c co ty (.call ⟨.value f,args,ts⟩) d k Q pf:=by(try (conv=>lhs;simp[go_sem,g]))<;>rfl)(hm:ms.length=args.toList.length:=by rfl)(hl:ms.zip (ii P args.toList ts.toList)=l:=by rfl)(hx:rV ms l f pf=x:=by(try simp[go_sem,rV,g]);first|rfl|done)(lR:x=J (g,as,ow,aQ,n):=by rfl)(has:as=jt:=by(try simp[go_sem,g]);first|rfl|done)
(ho:∀z,(ow=aa\/(cQ (ro z)&&(ol z).all cQ)=Z):=by intro z;simp[go_sem]):a0:=
 eq.mpr (Yp hF ms h hm hl hx lR has λz hz=>⟨ho z,hk z hz⟩)
def wE{α β:Type}{e:Option α}{F:α->Option β}{φ:β->Prop}(hF:Rn (e.bind F) φ){x:Option (FuncId×List (Md×PV)×Bool×ah×Nat)}{ro:α->PV}{ol:α->List PV}
(h:∀{r},e=J r->ap P g jt (Eo (ro r) (ol r)))(hk:∀z,Rn (F z) φ->qv P c co ((back co.nt aQ l ((ol z).drop n)).map λp=>(.v (ro z),p)) d k Q)(eq:a0=pw1 P c co ty (.call ⟨.value f,args,ts⟩) d k Q pf:=by(try (conv=>lhs;simp[go_sem,g]))<;>rfl)(hl:(List.replicate args.toList.length Md.sh).zip (ii P args.toList ts.toList)=l:=by rfl)(hx:rV (List.replicate args.toList.length Md.sh) l f pf=x:=by(try simp[go_sem,rV,g]);first|rfl|done)(lR:x=J (g,as,ow,aQ,n):=by rfl)(has:as=jt:=by(try simp[go_sem,g]);first|rfl|done)
(ho:∀z,(ow=aa\/(cQ (ro z)&&(ol z).all cQ)=Z):=by intro z;simp[go_sem];first|done|fail):a0:=
 eq.mpr (Yp hF (List.replicate args.toList.length Md.sh) h Ace hl hx lR has λz hz=>⟨ho z,hk z hz⟩)
def wD{α β:Type}{e:Option α}{F:α->Option β}{φ:β->Prop}(hF:Rn (e.bind F) φ){x:Option (FuncId×List (Md×PV)×Bool×ah×Nat)}{ro:α->PV}{ol:α->List PV}
(h:∀{r},e=J r->ap P g jt (Eo (ro r) (ol r)))(hk:∀z,Rn (F z) φ->qv P c c ((back c.nt aQ l ((ol z).drop n)).map λp=>(.v (ro z),p)) d k Q)(eq:a0=q9 P c Z ty (.call ⟨.value f,args,ts⟩) d k Q pf:=by(try (conv=>lhs;simp[go_sem,g]))<;>rfl)(hl:(List.replicate args.toList.length Md.sh).zip (ii P args.toList ts.toList)=l:=by rfl)(hx:rV (List.replicate args.toList.length Md.sh) l f pf=x:=by(try simp[go_sem,rV,g]);first|rfl|done)(lR:x=J (g,as,ow,aQ,n):=by rfl)(has:as=jt:=by(try simp[go_sem,g]);first|rfl|done)
(ho:∀z,(ow=aa\/(cQ (ro z)&&(ol z).all cQ)=Z):=by intro z;simp[go_sem];first|done|fail):a0:=
 eq.mpr (zDG hF h hl hx lR has λz hz=>⟨ho z,hk z hz⟩)
def Sj(_ms:List Md)(l:List (Md×Nat×Operand))(us:List PV)(pf:ah):Option (List (Md×PV)×Bool×ah):=
 (o4 pf l).bind λy=>(eL y.2 l y.1).map λas=>(as++us.map (λx=>(Md.sh,x)),l.any (rT y.2),y.2)
def wY{α β:Type}{e:Option α}{F:α->Option β}{φ:β->Prop}(hF:Rn (e.bind F) φ)(ms:List Md){s:Nat}{us:List PV}{x:Option (List (Md×PV)×Bool×ah)}{ro:α->PV}{ol:α->List PV}
(h:∀{r},e=J r->ap P g jt (Eo (ro r) (ol r)))(hk:∀z,Rn (F z) φ->qv P c co ((back co.nt aQ l (ol z)).map λp=>(.v (ro z),p)) d k Q){y:Option (Nat×FuncId×List PV)}(eq:a0=pw1 P c co ty (.call ⟨.value f,args,ts⟩) d k Q pf:=by(try (conv=>lhs;simp[go_sem,g]))<;>rfl)(hm:ms.length=args.toList.length:=by rfl)
(hy:uy pf f=y:=by(try simp[go_sem,g]);first|rfl|done)(im:y=J (s,g,us):=by rfl)(hl:ms.zip (ii P args.toList ts.toList)++[(.io,0,.tmp s)]=l:=by rfl)(hx:Sj ms l us pf=x:=by(try simp[go_sem,Sj,g]);first|rfl|done)(lR:x=J (as,ow,aQ):=by rfl)
(Sq:uy aQ f=J (s,g,us):=by simp[go_sem,g])(has:as=jt:=by(try simp[go_sem,g]);first|rfl|done)(ho:∀z,(ow=aa\/(cQ (ro z)&&(ol z).all cQ)=Z):=by intro z;simp[go_sem]):a0:=by
 obtain⟨a,ha,hr⟩:=mJ hF;rw[eq];subst has;rw[lR]at hx;simp only[Sj,bR,bN]at hx;obtain⟨y0,h1,as0,h3,h4⟩:=hx;cases h4;refine zzn ms hm (hy.trans im) hl h1 Sq h3 rfl (h ha) λr outs hh=>?_
 obtain⟨rfl,rfl⟩:=hh;exact⟨ho a,hk a hr⟩
def wI{α:Type}{v:Bool}{e e':Option α}{φ:α->Prop}(hF:Rn (if v=Z then e else e') φ)(ht:v=Z->Rn e φ->pw P c (.code x::k) Q pf)(he:v=aa->Rn e' φ->pw P c (.code y::k) Q pf)(eq:a=pw P c (.code (.cond b x y)::k) Q pf:=by(try (conv=>lhs;repeat rw[sq]))<;>rfl)(hb:cr pf b=J (.bool v):=by simp[go_sem,g];first|done|fail):a:=eq.mpr (zIb hF hb ht he)
def wB{b:Code}(h:pw P c (.code b::.bq id::k) Q pf)(e:a=pw P c (.code (.block id b)::k) Q pf:=by(try (conv=>lhs;repeat rw[sq]))<;>rfl):a:=e.mpr (WV.mpr h)
def wZ{ops:Array Oper}(D:List (List Oper->DE)){L:List (DE×Oper)}(h1:P.follows .mixedOrders=Z)(h:pw P c (.iq (ops.toList.map (·.dst)) L::k) Q pf)(e:a=pw P c (.code (.region id ops Z)::k) Q pf:=by(try (conv=>lhs;repeat rw[sq]))<;>rfl)(h2:GI (D.map λf=>f ops.toList) ops.toList=Z:=by kernel_rfl)(hL:(D.map λf=>f ops.toList).map (λx=>(x,ops.toList.getD x.i default))=L:=by rfl):a:=e.mpr (zB6 _ h1 h2 hL h)
def wt(ht:pw P c (.code x::k) Q pf)(e:a=pw P c (.code (.cond b x y)::k) Q pf:=by(try (conv=>lhs;repeat rw[sq]))<;>rfl)(hb:cr pf b=J (.bool Z):=by simp[go_sem,g]):a:=e.mpr (MF hb ht)
def wf(ht:pw P c (.code y::k) Q pf)(e:a=pw P c (.code (.cond b x y)::k) Q pf:=by(try (conv=>lhs;repeat rw[sq]))<;>rfl)(hb:cr pf b=J (.bool aa):=by simp[go_sem,g]):a:=e.mpr (Qu hb ht)
def wT{pf:ah}(h:∀pf,A pf->B->C pf)(b:B)(e:a0=C pf:=by(try (conv=>lhs;simp[go_sem,g]))<;>rfl)(a:A pf:=by simp[go_sem,g];first|done|fail):a0:=e.mpr (h pf a b)
def wG{α:Type}{y y' b:Bool}{e e':Option α}{φ:α->Prop}(hF:Rn (if y=Z then e else e') φ)(h1:y'=Z->Rn e φ->pwg P c (J (J Z)) b ty op d k Q pf)(h2:y'=aa->Rn e' φ->pwg P c (J (J aa)) b ty op d k Q pf)(eq:a=pwg P c (J (J y')) b ty op d k Q pf:=by(try (conv=>lhs;simp[go_sem,g]))<;>rfl)(hy:y'=y:=by first|rfl|(simp;done)|fail):a:=eq.mpr (by subst hy;exact zFc hF h1 h2)
def wH{α:Type}{y y' b ext:Bool}{e e':Option α}{φ:α->Prop}(hF:Rn (if y=Z then e else e') φ)(h1:y'=Z->Rn e φ->jm P c (J (J Z)) b ext ty op d k Q pf)(h2:y'=aa->Rn e' φ->jm P c (J (J aa)) b ext ty op d k Q pf)(eq:a=jm P c (J (J y')) b ext ty op d k Q pf:=by(try (conv=>lhs;simp[go_sem,g]))<;>rfl)(hy:y'=y:=by first|rfl|(simp;done)|fail):a:=eq.mpr (by subst hy;exact zCn hF h1 h2)
def wJ{α β:Type}{e:Option α}{f:α->Option β}{φ:β->Prop}{i:ip}(hF:Rn (e.bind f) φ)(l:α->List (Nat×PF))(hr:∀x,Rn (f x) φ->pw P c (.code y::k) Q (ah.eu (l x)))
(hc:∀ψ:α->Prop,(∀x pf,gz (l x) pf->ψ x->pw P c (.wk y::k) Q pf)->Rn e ψ->pw P c (i::.wk y::k) Q pf)(eq:a0=pw P c (i::.wk y::k) Q pf:=by(try (conv=>lhs;repeat rw[sq]))<;>rfl):a0:=eq.mpr (Zh l hF hr hc)
def wS{α β:Type}{e:Option (α ⊕ β)}{f:α->Option β}{φ:β->Prop}{i:ip}(hF:Rn (e.bind (Sum.elim f J)) φ)(l:α->List (Nat×PF))(hr:∀x,Rn (f x) φ->pw P c (.code y::k) Q (ah.eu (l x)))
(hc:∀ψ:α ⊕ β->Prop,(∀x pf,gz (l x) pf->ψ (.inl x)->pw P c (.wk y::k) Q pf)->(∀r,ψ (.inr r)->φ r)->Rn e ψ->pw P c (i::.wk y::k) Q pf)(eq:a0=pw P c (i::.wk y::k) Q pf:=by(try (conv=>lhs;repeat rw[sq]))<;>rfl):a0:=eq.mpr (Z3 l hF hr hc)
def bS{α β:Type}{e:Option α}{f:α->Option β}{φ:β->Prop}{i:ip}(hF:Rn (e.bind f) φ)(ks:List Nat)(v:α->List (Nat×PF)){l:α->List (Nat×PF)}(hr:∀x,Rn (f x) φ->pw P c (.code y::k) Q (ah.eu (l x)))
(hc:∀ψ:α->Prop,(∀x pf,gz (l x) pf->ψ x->pw P c (.wk y::k) Q pf)->Rn e ψ->pw P c (i::.wk y::k) Q pf)(eq:a0=pw P c (i::.wk y::k) Q pf:=by(try (conv=>lhs;repeat rw[sq]))<;>rfl)(HU:∀x,(ks.map λs=>(s,pf s))++v x=l x:=by intro x;simp[go_sem,g];rfl):a0:=eq.mpr (Zh l hF hr hc)
def wSK{α β:Type}{e:Option (α ⊕ β)}{f:α->Option β}{φ:β->Prop}{i:ip}(hF:Rn (e.bind (Sum.elim f J)) φ)(ks:List Nat)(v:α->List (Nat×PF)){l:α->List (Nat×PF)}(hr:∀x,Rn (f x) φ->pw P c (.code y::k) Q (ah.eu (l x)))
(hc:∀ψ:α ⊕ β->Prop,(∀x pf,gz (l x) pf->ψ (.inl x)->pw P c (.wk y::k) Q pf)->(∀r,ψ (.inr r)->φ r)->Rn e ψ->pw P c (i::.wk y::k) Q pf)(eq:a0=pw P c (i::.wk y::k) Q pf:=by(try (conv=>lhs;repeat rw[sq]))<;>rfl)(HU:∀x,(ks.map λs=>(s,pf s))++v x=l x:=by intro x;simp[go_sem,g];rfl):a0:=eq.mpr (Z3 l hF hr hc)
def jI{σ β:Type}{step:σ->Option (fe σ β)}{b:β}{s0:σ}(hb:dI step s0=J b)(ks:List Nat)(v:σ->List (Nat×PF)){shape:σ->List (Nat×PF)}
(tK:∀s (φ:fe σ β->Prop) (N:ah->Prop),(∀b',φ (.out b')->b'=b)->(∀s' pf,gz (shape s') pf->φ (.go s')->N pf)->Rn (step s) φ->pw P c [.code bd] (rM P c N k Q) (ah.eu (shape s)))(HU:∀x,(ks.map λs=>(s,pf s))++v x=shape x:=by intro x;simp[go_sem,g];rfl)(ha:gz (shape s0) pf:=by simp[go_sem,g]):pw P c (.code (.loop bd)::k) Q pf:=Z9 shape hb ha tK
def pRK{σ β:Type}{body:Int->σ->Option (fe σ β)}{stop:σ->β}{m:Nat}{b:β}{s0:σ}(hb:aS body stop m 0 s0=J b)(ks:List Nat)(v:Int->σ->List (Nat×PF)){shape:Int->σ->List (Nat×PF)}
(last:∀s (N:ah->Prop),stop s=b->pw P c [.code bd] (rM P c N k Q) (ah.eu (shape (0+m) s)))
(tK:∀(i:Int) s (φ:fe σ β->Prop) (N:ah->Prop),0<=i->i<m->(∀b',φ (.out b')->b'=b)->(∀s' pf,gz (shape (i+1) s') pf->φ (.go s')->N pf)->Rn (body i s) φ->pw P c [.code bd] (rM P c N k Q) (ah.eu (shape i s)))(HU:∀i x,(ks.map λs=>(s,pf s))++v i x=shape i x:=by intro i x;simp[go_sem,g];rfl)(ha:gz (shape 0 s0) pf:=by simp[go_sem,g]):pw P c (.code (.loop bd)::k) Q pf:=
 zzP shape hb ha last λi s φ N h1 h2 ho hg hF=>tK i s φ N h1 (by omega) ho hg hF
def yv(h0:0<=i)(h:i<n)(hn:n<=kj):IntKind.i64.wrap (i+1)=i+1:=EW (by simp only[kj]at hn;omega)
def wl{α:Type}{φ:α->Prop}{x r:α}{A:Prop}(h:∀r',φ r'->r'=r)(hF:Rn (J x) φ)(k:x=r->A:=by intro e;cases e;refine wW ?_;simp[go_sem,g];first|done|fail):A:=k (h _ (eX hF))
def wm{α:Type}{φ:α->Prop}{x r:α}{A:Prop}(h:∀r',φ r'->r'=r)(hF:Rn (J x) φ)(k:x=r->A:=by intro e;cases e;simp[go_sem,g];first|done|fail):A:=k (h _ (eX hF))
def wV{H:Prop}{pf:ah}(hh:H)(h:∀pf,A pf->B->C pf)(b:B)(e:H->a0=C pf:=by intro h;(try (conv=>lhs;simp[go_sem,g,h]))<;>rfl)(a:H->A pf:=by intro h;simp[go_sem,g,h];first|done|fail):a0:=(e hh).mpr (h pf (a hh) b)
def wu{H I:Prop}(h:H)(i:I)(ht:pw P c (.code x::k) Q pf)(e:a=pw P c (.code (.cond b x y)::k) Q pf:=by(try (conv=>lhs;repeat rw[sq]))<;>rfl)(hb:H->I->cr pf b=J (.bool Z):=by intro h i;simp[go_sem,g,h,i];first|done|fail):a:=e.mpr (MF (hb h i) ht)
def wi{pf:ah}(h1:0<=i)(h2:i<n)(h:∀pf,A pf->B->C pf)(b:B)(e:a0=C pf:=by(try (conv=>lhs;simp[go_sem,g]))<;>rfl)(a:IntKind.i64.wrap (i+1)=i+1->A pf:=by intro h;simp[go_sem,g,h];first|done|fail)(hn:n<=kj:=by first|assumption|(simp;assumption)|(simp;omega)):a0:=e.mpr (h pf (a (yv h1 h2 hn)) b)
def wn{β:Type}{b b':β}{B:β->Prop}{pf:ah}(hN:b'=b)(h:∀pf,A pf->B b'->C pf)(Lf:B b)(k:C pf->a0:=by intro h;refine wW ?_;refine wf ?_;exact Eq.mpr (by(try (conv=>lhs;simp[go_sem,g]))<;>rfl) h)(a:A pf:=by simp[go_sem,g];first|done|fail):a0:=k (h pf a (hN▸Lf))
end
def pE{P:Program}{α:Type}{f:FuncId}{fn:Func}{code:Code}{xs:List (Md×PV)}{F:Option α}{r:α}{ro:α->PV}{ol:α->List PV}{nt:Nat}{rs:List ResultVar}(io:List Nat)(hF:F=J r)(hc:ax P f)(hf:P.funcs[f]? =J fn)
(h:∀φ:α->Prop,(∀r',φ r'->r'=r)->Rn F φ->True->pw P ⟨nt,io,[],[]⟩ [.code code] (rW P rs xs (Eo (ro r) (ol r))) (qy xs))(hb:fn.body=J code:=by rfl)(Al:fn.ntmps=nt:=by(conv=>lhs;whnf)<;>rfl)(ie:fn.results.toList=rs:=by(conv=>lhs;whnf)<;>rfl)(hl:xs.length<=nt/\jk 0 xs=io:=by exact⟨by simp,rfl⟩):ap P f xs (Eo (ro r) (ol r)):=
 K8 nt io [] [] rs hF hc hf hb Al ie hl λφ h1 h2=>h φ h1 h2 trivial
def pG{p:Prop}[Decidable p]{α:Type}{e:Option α}{φ:α->Prop}(_h:Rn (gd p e) φ):True:=trivial
def pI1{α β:Type}{l:List α}{i:Int}{f:α->Option β}{φ:β->Prop}(_h:Rn ((ix l i).bind f) φ):True:=trivial
def pI2{β:Type}{l:ByteArray}{i:Int}{f:Int->Option β}{φ:β->Prop}(_h:Rn ((rN l i).bind f) φ):True:=trivial
def pI3{α:Type}{v:Bool}{e e':Option α}{φ:α->Prop}(_h:Rn (if v=Z then e else e') φ):True:=trivial
def mh{α β:Type}{e:Option α}{X:α->Prop}{f:α->Option β}{φ:β->Prop}(_c:∀{r},e=J r->X r)(_h:Rn (e.bind f) φ):True:=trivial
def wL{p:Prop}(ok:p:=by
 first|have e:=h|have h:=trivial
 repeat' first|((with_reducible have e:=eX hF);first|exact wm ak hF|exact wl ak hF|exact wV h (hj0 _) e|exact wV h (j6 _) e|exact wV h (r8 _) e|exact wi aO aN (ba _) e|exact wi cH FF (ba _) e|exact wi Rb SO (ba _) e|exact wV h (ba _) e|exact wi aO aN (qZ _) e|exact wi cH FF (qZ _) e|exact wi Rb SO (qZ _) e|exact wV h (qZ _) e|exact wi aO aN (Ct _) e|exact wi cH FF (Ct _) e|exact wi Rb SO (Ct _) e|exact wV h (Ct _) e|((first|cases bo _ e|cases Sa _ e|cases D6 _ e|cases bo _ (dB _ e)|cases bo _ (AK _ e)|cases Sa _ (dB _ e)|cases Sa _ (AK _ e)|cases D6 _ (dB _ e)|cases D6 _ (AK _ e));first|exact wV h (hj0 _) bg|exact wV h (hj0 _) NZ|exact wV h (j6 _) bg|exact wV h (j6 _) NZ|exact wV h (r8 _) bg|exact wV h (r8 _) NZ|(cases ak _ bg;first|(refine wW ?_;simp[go_sem,g];done)|(simp[go_sem,g];done))|(cases ak _ NZ;first|(refine wW ?_;simp[go_sem,g];done)|(simp[go_sem,g];done))|(cases ak _ (dB _ (by assumption));first|(refine wW ?_;simp[go_sem,g];done)|(simp[go_sem,g];done))|(cases ak _ (AK _ (by assumption));first|(refine wW ?_;simp[go_sem,g];done)|(simp[go_sem,g];done)))|((first|cases ak _ e|cases ak _ (dB _ e)|cases ak _ (AK _ e));first|(refine wW ?_;simp[go_sem,g];done)|(refine wW ?_;refine wW ?_;simp[go_sem,g];done)|(simp[go_sem,g];done)))|((with_reducible have e:=pG hF);first|obtain⟨g,hF⟩:=Rz g hF|obtain⟨g,hF⟩:=Rsa g hF|obtain⟨g,hF⟩:=Rsh g hF|obtain⟨g,hF⟩:=Rg g hF)|((with_reducible have e:=pI1 hF);first|obtain⟨x,g,hF⟩:=j8 g 0 hF|obtain⟨x,g,hF⟩:=j8 g 1 hF|obtain⟨x,g,hF⟩:=j8 g 2 hF|obtain⟨x,g,hF⟩:=j8 g 3 hF|obtain⟨x,g,hF⟩:=Rx g hF)|((with_reducible have e:=pI2 hF);first|obtain⟨x,g,hF⟩:=zKx g 0 hF|obtain⟨x,g,hF⟩:=Rxs g hF)|((with_reducible have e:=pI3 hF);first|refine bu ?_|refine wB ?_|refine wI hF (λh hF=>?_) (λh hF=>?_)|refine wG hF (λh hF=>?_) λh hF=>?_|refine wH hF (λh hF=>?_) λh hF=>?_)|(with_reducible exact(Ve hF).elim)|refine bu ?_|refine wB ?_|(((with_reducible have e:=mh c0 hF));first|refine wE hF c0 (λz hF=>?_)|refine wD hF c0 (λz hF=>?_))|(((with_reducible have e:=mh c1 hF));first|refine wE hF c1 (λz hF=>?_)|refine wD hF c1 (λz hF=>?_))|(((with_reducible have e:=mh c2 hF));first|refine wE hF c2 (λz hF=>?_)|refine wD hF c2 (λz hF=>?_))|(((with_reducible have e:=mh c3 hF));first|refine wE hF c3 (λz hF=>?_)|refine wD hF c3 (λz hF=>?_))|(((with_reducible have e:=mh c4 hF));first|refine wE hF c4 (λz hF=>?_)|refine wD hF c4 (λz hF=>?_))|(((with_reducible have e:=mh c5 hF));first|refine wE hF c5 (λz hF=>?_)|refine wD hF c5 (λz hF=>?_))|((with_reducible have e:=mh AQ hF);refine wC hF [.io] AQ (λz hF=>?_))|((with_reducible have e:=mh ci1 hF);refine wC hF [.io] ci1 (λz hF=>?_))|((with_reducible have e:=mh ci2 hF);refine wC hF [.io] ci2 (λz hF=>?_))|((with_reducible have e:=mh ja hF);refine wC hF [.io,.sh] ja (λz hF=>?_))|((with_reducible have e:=mh BC hF);refine wC hF [.io,.sh] BC (λz hF=>?_))|((with_reducible have e:=mh cj2 hF);refine wC hF [.io,.sh] cj2 (λz hF=>?_))|((with_reducible have e:=mh xG hF);refine wC hF [.io,.mv] xG (λz hF=>?_))|((with_reducible have e:=mh ck1 hF);refine wC hF [.io,.mv] ck1 (λz hF=>?_))|((with_reducible have e:=mh ck2 hF);refine wC hF [.io,.mv] ck2 (λz hF=>?_))|((with_reducible have e:=mh O8 hF);refine wC hF [.io,.sh,.sh] O8 (λz hF=>?_))|((with_reducible have e:=mh cm1 hF);refine wC hF [.io,.sh,.sh] cm1 (λz hF=>?_))|((with_reducible have e:=mh cm2 hF);refine wC hF [.io,.sh,.sh] cm2 (λz hF=>?_))|refine wu aO aN ?_|refine wu cH FF ?_|refine wu Rb SO ?_|refine wW ?_|simp[go_sem,g,h]|intro e):p:=ok
section
variable {P:Program}{c:aY}{k:List ip}{Q:Exit->ah->Prop}{pf:ah}
def wR{σ β:Type}{a:Prop}{id:Nat}{body:Int->σ->Option (fe σ β)}{stop:σ->β}{m:Nat}{bd:Code}{s0:σ}{ψ:β->Prop}(hF:Rn (aS body stop m 0 s0) ψ)(ks:List Nat)(v:Int->σ->List (Nat×PF)){shape:Int->σ->List (Nat×PF)}
(tK:∀b,ψ b->∀(i:Int) s (φ:fe σ β->Prop) (N:ah->Prop),0<=i->i<m->(∀b',φ (.out b')->b'=b)->(∀s' pf,gz (shape (i+1) s') pf->φ (.go s')->N pf)->Rn (body i s) φ->pw P c [.code bd] (rM P c N (.bq id::k) Q) (ah.eu (shape i s)))
(e:a=pw P c (.code (.block id (.loop bd))::k) Q pf:=by(try (conv=>lhs;repeat rw[sq]))<;>rfl)(HU:∀i x,(ks.map λs=>(s,pf s))++v i x=shape i x:=by intro i x;simp[go_sem,g];rfl)(ha:gz (shape 0 s0) pf:=by simp[go_sem,g])
(last:∀b,ψ b->∀s (N:ah->Prop),stop s=b->pw P c [.code bd] (rM P c N (.bq id::k) Q) (ah.eu (shape (0+m) s)):=by intro b bg s N Pa;first|exact wn Pa (hj0 _) bg|exact wn Pa (j6 _) bg|exact wn Pa (r8 _) bg):a:=by
 obtain⟨b,hb,Lf⟩:=hF;exact e.mpr (WV.mpr (pRK hb ks v (λs N h=>last b Lf s N h) (λi s φ N h1 h2 ho hg hF=>tK b Lf i s φ N h1 h2 ho hg hF) HU ha))
end
end Go.Pm
