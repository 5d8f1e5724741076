import Derived.Test.YtnojafnlicbhpaaGreatPmV
open Bool renaming false→aa,true→Z
open Option renaming none→ae,some→J
set_option linter.defProp false
namespace Go.Pm
open Go.Am
def d0(i:Nat)(s:List Nat):DE:=⟨i,s,[],ae,aa,aa,aa⟩
def d1(i:Nat)(s:List Nat)(r:Nat):DE:=⟨i,s,[r],ae,aa,aa,aa⟩
def d2(i:Nat)(s:List Nat)(r m:Nat):DE:=⟨i,s,[r],J m,aa,aa,aa⟩
def d3(i:Nat)(s:List Nat):DE:=⟨i,s,[],ae,aa,Z,Z⟩
def Lw:Option Tmp->List Nat
 |some d=>[d]
 |none=>[]
def kS(o:List Oper)(x:Oper):List Nat:=Co x.op++match x.guard with
 |some (j,_)=>Lw (o.getD j default).dst
 |none=>[]
def k0(i:Nat)(o:List Oper):DE:=⟨i,kS o (o.getD i default),[],ae,aa,aa,aa⟩
def k1(i r:Nat)(o:List Oper):DE:=⟨i,kS o (o.getD i default),[r],ae,aa,aa,aa⟩
def k2(i r:Nat)(o:List Oper):DE:=⟨i,kS o (o.getD i default),[r],(Co (o.getD i default).op).head?,aa,aa,aa⟩
def k3(i:Nat)(o:List Oper):DE:=⟨i,kS o (o.getD i default),[],ae,aa,Z,Z⟩
def k4(b c d:Bool)(i:Nat)(o:List Oper):DE:=⟨i,kS o (o.getD i default),[],ae,b,c,d⟩
def kN(x i:Nat)(o:List Oper):DE:=if x%8=0 then k0 i o else if x%8=1 then k1 i (x/8) o else if x%8=2 then k2 i (x/8) o else if x%8=3 then k3 i o else k4 (x%8 !=4) (x%8 !=5) (x%8==6) i o
def kE:List Nat->List Nat->List (List Oper->DE)
 |i::is,x::xs=>kN x i::kE is xs
 |_,_=>[]
def kD:Nat->List Nat->List (List Oper->DE)
 |i,x::xs=>kN x i::kD (i+1) xs
 |_,[]=>[]
variable{i r x:Nat}{o:List Oper}{s:List Nat}
@[go_sem] def zVC{b c d:Bool}:k4 b c d i o=⟨i,kS o (o.getD i default),[],ae,b,c,d⟩:=(rfl)
@[go_sem] def zTK :kN x i o=if x%8=0 then k0 i o else if x%8=1 then k1 i (x/8) o else if x%8=2 then k2 i (x/8) o else if x%8=3 then k3 i o else k4 (x%8 !=4) (x%8 !=5) (x%8==6) i o:=(rfl)
@[go_sem] def zWt{is xs:List Nat}:kE (i::is) (x::xs)=kN x i::kE is xs:=(rfl)
@[go_sem] def zWJ:kE [] []=[]:=(rfl)
@[go_sem] def zV1{xs:List Nat}:kD i (x::xs)=kN x i::kD (i+1) xs:=(rfl)
@[go_sem] def zWK :kD i []=[]:=(rfl)
@[go_sem] def zVb :k0 i o=⟨i,kS o (o.getD i default),[],ae,aa,aa,aa⟩:=(rfl)
@[go_sem] def zUR :k1 i r o=⟨i,kS o (o.getD i default),[r],ae,aa,aa,aa⟩:=(rfl)
@[go_sem] def zVh :k2 i r o=⟨i,kS o (o.getD i default),[r],(Co (o.getD i default).op).head?,aa,aa,aa⟩:=(rfl)
@[go_sem] def zU5 :k3 i o=⟨i,kS o (o.getD i default),[],ae,aa,Z,Z⟩:=(rfl)
@[go_sem] def zWL{d:Option Tmp}{op:Op}{ty:TypeId}{ps:String}{af:Array Edge}:kS o ⟨d,op,ty,ps,af,ae⟩=Co op:=by simp[kS]
@[go_sem] def zWB{d:Option Tmp}{op:Op}{ty:TypeId}{ps:String}{af:Array Edge}{j:Nat}{b:Bool}:kS o ⟨d,op,ty,ps,af,J (j,b)⟩=Co op++Lw (o.getD j default).dst:=(rfl)
@[go_sem] def zTL{d:Nat}:Lw (J d)=[d]:=(rfl)
@[go_sem] def zUt:Lw ae=[]:=(rfl)
@[go_sem] def zRl{o:Op}:Co o=o.operands.toList.flatMap dV:=(rfl)
@[go_sem] def zUl{t:Tmp}:dV (.tmp t)=[t]:=(rfl)
@[go_sem] def zVf{v:Value}:dV (.const v)=[]:=(rfl)
@[go_sem] def zVB{f:FuncId}:dV (.func f)=[]:=(rfl)
@[go_sem] def zTG{f:Nat}:dV (.global f)=[]:=(rfl)
attribute [go_sem] Op.operands Call.operands
@[go_sem] def zVS :d0 i s=⟨i,s,[],ae,aa,aa,aa⟩:=(rfl)
@[go_sem] def zUn :d1 i s r=⟨i,s,[r],ae,aa,aa,aa⟩:=(rfl)
@[go_sem] def zTz{m:Nat}:d2 i s r m=⟨i,s,[r],J m,aa,aa,aa⟩:=(rfl)
@[go_sem] def zU7 :d3 i s=⟨i,s,[],ae,aa,Z,Z⟩:=(rfl)
def Rn{α:Type}(e:Option α)(φ:α->Prop):Prop:=∃a,e=J a/\φ a
def mg{α β:Type}{e:Option α}{f:α->Option β}{φ:β->Prop}(h:Rn (e.bind f) φ):∃a,e=J a/\Rn (f a) φ:=by
 obtain⟨b,h1,h2⟩:=h;rw[bR]at h1;obtain⟨a,h3,h4⟩:=h1;exact⟨a,h3,b,h4,h2⟩
def eZ{α:Type}{a:α}{φ:α->Prop}(h:Rn (J a) φ):φ a:=by
 obtain⟨b,h1,h2⟩:=h;cases h1;exact h2
def Wl{α:Type}{φ:α->Prop}(h:Rn ae φ):False:=by
 obtain⟨b,h1,_⟩:=h;cases h1
def gd{α:Type}(p:Prop)[Decidable p](e:Option α):Option α:=if p then e else ae
def m7{α:Type}{p:Prop}[Decidable p]{e:Option α}{φ:α->Prop}(h:Rn (gd p e) φ):p/\Rn e φ:=by
 unfold gd at h;by_cases hp:p
 ·rw[aB hp]at h;exact⟨hp,h⟩
 ·rw[az hp]at h;exact(Wl h).elim
def P2{α:Type}{v:Bool}{e e':Option α}{φ:α->Prop}(h:Rn (if v=Z then e else e') φ)(hv:v=Z):Rn e φ:=by rwa [aB hv]at h
def Sb{α:Type}{v:Bool}{e e':Option α}{φ:α->Prop}(h:Rn (if v=Z then e else e') φ)(hv:v=aa):Rn e' φ:=by rwa [az (by simp[hv])]at h
def zB0{α:Type}{e:Option α}{φ ψ:α->Prop}(h:Rn e φ)(hm:∀a,φ a->ψ a):Rn e ψ:=by
 obtain⟨a,h1,h2⟩:=h;exact⟨a,h1,hm a h2⟩
def ix{α:Type}(l:List α)(i:Int):Option α:=if 0<=i then l[i.toNat]? else ae
def Ow{α:Type}{l:List α}{i:Int}{x:α}(h:ix l i=J x):0<=i/\i<l.length/\l[i.toNat]? =J x:=by
 unfold ix at h;by_cases hi:0<=i
 ·rw[aB hi]at h;have:=(cT.1 h).1;exact⟨hi,by omega,h⟩
 ·rw[az hi]at h;cases h
def zC8{α:Type}{l:List α}{i:Int}{x:α}(h:ix l i=J x):∀h:i.toNat<l.length,l[i.toNat]'h=x:=λh'=>by
 have:=(Ow h).2.2;rw[cE h']at this;exact yB this
def UY{α:Type}{l:List α}:ix l (i:Int)=l[i]? :=by simp[ix]
def EW{n:Int}(h: -9223372036854775808<=n/\n<=9223372036854775807):IntKind.i64.wrap n=n:=by rw[IntKind.wrap_i64];omega
inductive fb (σ β:Type) where
 |go (s:σ)
 |out (b:β)
def ny{σ β:Type}(step:σ->Option (fb σ β)):Nat->σ->Option β
 |0,_=>ae
 |n+1,s=>(step s).bind λ
  | .go s'=>ny step n s'
  | .out b=>J b
open Classical in
noncomputable def dJ{σ β:Type}(step:σ->Option (fb σ β))(s:σ):Option β:=if h:∃b n,ny step n s=J b then J h.choose else ae
def XS{σ β:Type}{step:σ->Option (fb σ β)}:∀{n m:Nat}{s:σ}{b:β},ny step n s=J b->n<=m->ny step m s=J b:=by
 intro n;induction n with
 |zero=>intro m s b h;simp[ny]at h
 |succ n ih=>
  intro m s b h hm;cases m with
  |zero=>omega
  |succ m=>
   simp only[ny]at h⊢;cases hs:step s with
   |none=>rw[hs]at h;exact h
   |some x=>
    rw[hs]at h;cases x with
    |go s'=>exact ih h (by omega)
    |out b=>exact h
def NR{σ β:Type}{step:σ->Option (fb σ β)}{s:σ}{b:β}:dJ step s=J b↔∃n,ny step n s=J b:=by
 constructor
 ·intro h;unfold dJ at h;split at h
  ·rename_i hx;cases h;exact hx.choose_spec
  ·cases h
 ·rintro⟨n,h⟩;have hx:∃b n,ny step n s=J b:=⟨b,n,h⟩
  unfold dJ;rw[dif_pos hx];obtain⟨m,hm⟩:=hx.choose_spec;have a1:=XS hm (Nat.le_max_right n m);have a2:=XS h (Nat.le_max_left n m);rw[a1]at a2;exact a2
theorem NX{σ β:Type}{step:σ->Option (fb σ β)}{s:σ}:dJ step s=(step s).bind λ
 | .go s'=>dJ step s'
 | .out b=>J b:=by
 apply Option.ext;intro b;rw[NR];constructor
 ·rintro⟨n,h⟩;cases n with
  |zero=>simp[ny]at h
  |succ n=>
   simp only[ny]at h;cases hs:step s with
   |none=>rw[hs]at h;exact h
   |some x=>
    rw[hs]at h;cases x with
    |go s'=>exact NR.2 ⟨n,h⟩
    |out b=>exact h
 ·intro h;cases hs:step s with
  |none=>rw[hs]at h;cases h
  |some x=>
   rw[hs]at h;cases x with
   |go s'=>
    obtain⟨n,hn⟩:=NR.1 (show dJ step s'=J b from h);exact⟨n+1,by simp only[ny,hs];exact hn⟩
   |out b'=>exact⟨1,by simp only[ny,hs];exact h⟩
open Classical in
noncomputable def zWz{β:Type}(f:Nat->Option β):Option β:=if h:∃b n,f n=J b then J h.choose else ae
def aS{σ β:Type}(body:Int->σ->Option (fb σ β))(stop:σ->β):Nat->Int->σ->Option β
 |0,_,s=>J (stop s)
 |k+1,i,s=>(body i s).bind λ
  | .go s'=>aS body stop k (i+1) s'
  | .out b=>J b
section
variable {P:Program}{c:aY}{k:List iu}{Q:Exit->ah->Prop}{pf:ah}
def ru(P:Program)(c:aY)(N:ah->Prop)(k:List iu)(Q:Exit->ah->Prop):Exit->ah->Prop
 | .normal,pf=>N pf
 |e,pf=>fC P c k Q e pf
variable{A C N:ah->Prop}{B G a a0:Prop}{R:PV->List PV->Prop}{args:Array Operand}{as ji:List (Md×PV)}{b f:Operand}{bd code x y:Code}{co:aY}{d:Option Tmp}{fn:Func}{g:FuncId}{i:Int}{id n:Nat}{l:List (Md×Nat×Operand)}{op:Op}{ow:Bool}{aQ:ah}{s:ByteArray}{ts:Array TypeId}{ty:TypeId}
@[go_sem] theorem zEt :ru P c N k Q .normal pf=N pf:=rfl
@[go_sem] theorem zMC :ru P c N k Q (.exit id) pf=pwx P c id k Q pf:=rfl
@[go_sem] def zPs :ru P c N k Q .ret pf=Q .ret pf:=by
 show fC P c k Q .ret pf=_;rw[Sy]
def Vw{σ β:Type}(shape:σ->List (Nat×PF)){step:σ->Option (fb σ β)}{b:β}{s0:σ}(hb:dJ step s0=J b)(ha:gz (shape s0) pf)
(sL:∀s (φ:fb σ β->Prop) (N:ah->Prop),(∀b',φ (.out b')->b'=b)->(∀s' pf,gz (shape s') pf->φ (.go s')->N pf)->Rn (step s) φ->pw P c [.code bd] (ru P c N k Q) (ah.ew (shape s))):pw P c (.code (.loop bd)::k) Q pf:=by
 obtain⟨n,hn⟩:=NR.1 hb;refine⟨n,?_⟩
 have key:∀n s pf,ny step n s=J b->gz (shape s) pf->BE (gq P c bd) (fC P c k Q) n pf:=by
  intro n;induction n with
  |zero=>intro s pf h;simp[ny]at h
  |succ n ih=>
   intro s pf h hA;refine⟨ah.ew (shape s),MX hA,?_⟩
   have hr:=sL s (λx=>match x with| .go s'=>ny step n s'=J b| .out b'=>b'=b) (λpf=>BE (gq P c bd) (fC P c k Q) n pf) (λb' h=>h) (λs' pf hp h=>ih s' pf h hp) (by
    simp only[ny]at h;rw[bR]at h;obtain⟨x,h1,h2⟩:=h;refine⟨x,h1,?_⟩;cases x with
    |go s'=>exact h2
    |out b'=>exact yB h2)
   refine Rm bd ?_ hr;intro e pf' hq;cases e<;>exact hq
 exact key n s0 pf hn ha
def zzR{σ β:Type}(shape:Int->σ->List (Nat×PF)){body:Int->σ->Option (fb σ β)}{stop:σ->β}{m:Nat}{i0:Int}{b:β}{s0:σ}(hb:aS body stop m i0 s0=J b)(ha:gz (shape i0 s0) pf)
(last:∀s (N:ah->Prop),stop s=b->pw P c [.code bd] (ru P c N k Q) (ah.ew (shape (i0+m) s)))
(sL:∀i s (φ:fb σ β->Prop) (N:ah->Prop),i0<=i->i<i0+m->(∀b',φ (.out b')->b'=b)->(∀s' pf,gz (shape (i+1) s') pf->φ (.go s')->N pf)->Rn (body i s) φ->pw P c [.code bd] (ru P c N k Q) (ah.ew (shape i s))):pw P c (.code (.loop bd)::k) Q pf:=by
 refine⟨m+1,?_⟩
 have key:∀n i s pf,aS body stop n i s=J b->i0<=i->i+n=i0+m->gz (shape i s) pf->BE (gq P c bd) (fC P c k Q) (n+1) pf:=by
  intro n;induction n with
  |zero=>
   intro i s pf h h0 hi hA;refine⟨ah.ew (shape i s),MX hA,?_⟩;have e:i=i0+m:=by omega
   subst e;have hr:=last s (λpf=>BE (gq P c bd) (fC P c k Q) 0 pf) (by simpa[aS]using h);refine Rm bd ?_ hr;intro e pf' hq;cases e<;>exact hq
  |succ n ih=>
   intro i s pf h h0 hi hA;refine⟨ah.ew (shape i s),MX hA,?_⟩
   have hr:=sL i s (λx=>match x with| .go s'=>aS body stop n (i+1) s'=J b| .out b'=>b'=b) (λpf=>BE (gq P c bd) (fC P c k Q) (n+1) pf) h0 (by omega) (λb' h=>h)
    (λs' pf hp h=>ih (i+1) s' pf h (by omega) (by omega) hp) (by
    simp only[aS]at h;rw[bR]at h;obtain⟨x,h1,h2⟩:=h;refine⟨x,h1,?_⟩;cases x with
    |go s'=>exact h2
    |out b'=>exact yB h2)
   refine Rm bd ?_ hr;intro e pf' hq;cases e<;>exact hq
 exact key m i0 s0 pf hb (by omega) (by omega) ha
def rX(_ms:List Md)(l:List (Md×Nat×Operand))(f:Operand)(pf:ah):Option (FuncId×List (Md×PV)×Bool×ah×Nat):=
 (oe pf l).bind λy=>(pU y.2 f).bind λg=>(eG y.2 l y.1).map λas=>(g.1,g.2.1.map (λx=>(Md.sh,x))++as++g.2.2.map (λx=>(Md.sh,x)),l.any (sj y.2),y.2,g.2.1.length)
def zzE(ms:List Md){x:Option (FuncId×List (Md×PV)×Bool×ah×Nat)}
(hm:ms.length=args.toList.length)(hl:ms.zip (ij P args.toList ts.toList)=l)(hx:rX ms l f pf=x)(kZ:x=J (g,as,ow,aQ,n))(h:ap P g ji R)(has:as=ji)
(hk:∀r outs,R r outs->(ow=aa\/(cP r&&outs.all cP)=Z)/\qv P c co ((back co.nt aQ l (outs.drop n)).map λp=>(.v r,p)) d k Q):pw1 P c co ty (.call ⟨.value f,args,ts⟩) d k Q pf:=by
 subst has;rw[kZ]at hx;simp only[rX,bR,bN]at hx;obtain⟨y,h1,g',h2,ZZ,h3,h4⟩:=hx;cases h4;exact zBZ ms hm hl h1 (show pU y.2 f=J (g'.1,g'.2.1,g'.2.2)from h2) h3 rfl h hk
def zxp{x:Option (FuncId×List (Md×PV)×Bool×ah×Nat)}
(hl:(List.replicate args.toList.length Md.sh).zip (ij P args.toList ts.toList)=l)(hx:rX (List.replicate args.toList.length Md.sh) l f pf=x)(kZ:x=J (g,as,ow,aQ,n))(h:ap P g ji R)(has:as=ji)
(hk:∀r outs,R r outs->(ow=aa\/(cP r&&outs.all cP)=Z)/\qv P c c ((back c.nt aQ l (outs.drop n)).map λp=>(.v r,p)) d k Q):qp P c Z ty (.call ⟨.value f,args,ts⟩) d k Q pf:=by
 subst has;rw[kZ]at hx;simp only[rX,bR,bN]at hx;obtain⟨y,h1,g',h2,ZZ,h3,h4⟩:=hx;cases h4;exact zza hl h1 (show pU y.2 f=J (g'.1,g'.2.1,g'.2.2)from h2) h3 rfl h hk
def Ws{α β:Type}{e:Option α}{f:α->Option β}{φ:β->Prop}{i:iu}(l:α->List (Nat×PF))(hF:Rn (e.bind f) φ)(hr:∀x,Rn (f x) φ->pw P c (.code y::k) Q (ah.ew (l x)))
(hc:∀ψ:α->Prop,(∀x pf,gz (l x) pf->ψ x->pw P c (.wk y::k) Q pf)->Rn e ψ->pw P c (i::.wk y::k) Q pf):pw P c (i::.wk y::k) Q pf:=by
 obtain⟨a,h1,h2⟩:=mg hF;exact hc (λa=>Rn (f a) φ) (λx _ ha hj=>Hh (l x) ha (hr x hj)) ⟨a,h1,h2⟩
def V5{α β:Type}{e:Option (α ⊕ β)}{f:α->Option β}{φ:β->Prop}{i:iu}(l:α->List (Nat×PF))(hF:Rn (e.bind (Sum.elim f J)) φ)(hr:∀x,Rn (f x) φ->pw P c (.code y::k) Q (ah.ew (l x)))
(hc:∀ψ:α ⊕ β->Prop,(∀x pf,gz (l x) pf->ψ (.inl x)->pw P c (.wk y::k) Q pf)->(∀r,ψ (.inr r)->φ r)->Rn e ψ->pw P c (i::.wk y::k) Q pf):pw P c (i::.wk y::k) Q pf:=by
 obtain⟨a,h1,h2⟩:=mg hF;exact hc (λa=>Rn (Sum.elim f J a) φ) (λx _ ha hj=>Hh (l x) ha (hr x hj)) (λr h=>eZ h) ⟨a,h1,h2⟩
def XP{α:Type}{f:FuncId}{F:Option α}{r:α}{R:α->PV->List PV->Prop}(fz hp:List Nat)(hF:F=J r)(hc:ax P f)(hf:P.funcs[f]? =J fn)(hb:fn.body=J code)(hlen:as.length<=fn.ntmps)
(h:∀φ:α->Prop,(∀r',φ r'->r'=r)->Rn F φ->pw P ⟨fn.ntmps,jA 0 as,fz,hp⟩ [.code code] (sg P fn.results.toList as (R r)) (qF as)):ap P f as (R r):=
 zuv fz hp hc hf hb hlen (h (λr'=>r'=r) (λ_ h=>h) ⟨r,hF,rfl⟩)
def Eo(x:PV)(l:List PV):PV->List PV->Prop:=λo os=>o=x/\os=l
def Ef(x:PV)(l:List PV):PV->List PV->Prop:=λo os=>drop o=x/\os=l
@[go_sem,reducible] def cI:List PV:=[.au,.au]
@[go_sem,reducible] def gx:List PV:=[.au,.au,.au]
@[go_sem,reducible] def kL:List PV:=[.au,.au,.au,.au]
@[go_sem,reducible] def rZ:List PV:=[.au,.au,.au,.au,.au]
@[go_sem,reducible] def rn:List PV:=[.au,.au,.au,.au,.au,.au]
@[go_sem,reducible] def Nj:List PV:=[.au,.au,.au,.au,.au,.au,.au]
@[go_sem,reducible] def zSJ:List PV:=[.au,.au,.au,.au,.au,.au,.au,.au]
@[go_sem,reducible] def zRB:List PV:=[.au,.au,.au,.au,.au,.au,.au,.au,.au]
@[go_sem] theorem zUr{x o:PV}{l os:List PV}:Ef x l o os=(drop o=x/\os=l):=rfl
@[go_sem] theorem zVv{x o:PV}{l os:List PV}:Eo x l o os=(o=x/\os=l):=rfl
@[go_sem ↓] theorem zSa{rows:List (List PV)}:tv P c co (J rows) d k Q pf=(rows.length<=km->qv P c co (J (.v (.int .i64 rows.length),pf)) d k Q):=rfl
def zwZ(ks:List Nat):gz (ks.map λs=>(s,pf s)) pf:=by
 induction ks with
 |nil=>trivial
 |cons s ks ih=>exact⟨rfl,ih⟩
def zDK(ks:List Nat){l:List (Nat×PF)}(h:(ks.map λs=>(s,pf s))=l)(h2:pw P c (.code x::k) Q (ah.ew l)):pw P c (.wk x::k) Q pf:=by
 subst h;exact Hh _ (zwZ ks) h2
def zF6{α:Type}{v:Bool}{e e':Option α}{φ:α->Prop}(hF:Rn (if v=Z then e else e') φ)(hb:cq pf b=J (.bool v))(ht:v=Z->Rn e φ->pw P c (.code x::k) Q pf)(he:v=aa->Rn e' φ->pw P c (.code y::k) Q pf):
 pw P c (.code (.cond b x y)::k) Q pf:=TK hb (λh=>ht h (P2 hF h)) λh=>he h (Sb hF h)
def zGR{α:Type}{y b:Bool}{e e':Option α}{φ:α->Prop}(hF:Rn (if y=Z then e else e') φ)(h1:y=Z->Rn e φ->pwg P c (J (J Z)) b ty op d k Q pf)(h2:y=aa->Rn e' φ->pwg P c (J (J aa)) b ty op d k Q pf):pwg P c (J (J y)) b ty op d k Q pf:=
 zxA (λh=>h1 h (P2 hF h)) λh=>h2 h (Sb hF h)
def zC2{α:Type}{y b ext:Bool}{e e':Option α}{φ:α->Prop}(hF:Rn (if y=Z then e else e') φ)(h1:y=Z->Rn e φ->jh P c (J (J Z)) b ext ty op d k Q pf)(h2:y=aa->Rn e' φ->jh P c (J (J aa)) b ext ty op d k Q pf):jh P c (J (J y)) b ext ty op d k Q pf:=
 zwC (λh=>h1 h (P2 hF h)) λh=>h2 h (Sb hF h)
def zAI{α β:Type}{e:Option α}{F:α->Option β}{φ:β->Prop}(hF:Rn (e.bind F) φ)(ms:List Md){x:Option (FuncId×List (Md×PV)×Bool×ah×Nat)}{ro:α->PV}{ol:α->List PV}
(h:∀{r},e=J r->ap P g ji (Eo (ro r) (ol r)))(hm:ms.length=args.toList.length)(hl:ms.zip (ij P args.toList ts.toList)=l)(hx:rX ms l f pf=x)(kZ:x=J (g,as,ow,aQ,n))(has:as=ji)
(hk:∀z,Rn (F z) φ->(ow=aa\/(cP (ro z)&&(ol z).all cP)=Z)/\qv P c co ((back co.nt aQ l ((ol z).drop n)).map λp=>(.v (ro z),p)) d k Q):pw1 P c co ty (.call ⟨.value f,args,ts⟩) d k Q pf:=by
 obtain⟨a,ha,hr⟩:=mg hF;refine zzE ms hm hl hx kZ (h ha) has λr outs ho=>?_
 obtain⟨rfl,rfl⟩:=ho;exact hk a hr
def zCH{α β:Type}{e:Option α}{F:α->Option β}{φ:β->Prop}(hF:Rn (e.bind F) φ){x:Option (FuncId×List (Md×PV)×Bool×ah×Nat)}{ro:α->PV}{ol:α->List PV}
(h:∀{r},e=J r->ap P g ji (Eo (ro r) (ol r)))(hl:(List.replicate args.toList.length Md.sh).zip (ij P args.toList ts.toList)=l)(hx:rX (List.replicate args.toList.length Md.sh) l f pf=x)(kZ:x=J (g,as,ow,aQ,n))(has:as=ji)
(hk:∀z,Rn (F z) φ->(ow=aa\/(cP (ro z)&&(ol z).all cP)=Z)/\qv P c c ((back c.nt aQ l ((ol z).drop n)).map λp=>(.v (ro z),p)) d k Q):qp P c Z ty (.call ⟨.value f,args,ts⟩) d k Q pf:=by
 obtain⟨a,ha,hr⟩:=mg hF;refine zxp hl hx kZ (h ha) has λr outs ho=>?_
 obtain⟨rfl,rfl⟩:=ho;exact hk a hr
def Py{α β:Type}{l:List α}{f:α->Option β}{φ:β->Prop}(hF:Rn ((ix l i).bind f) φ):∃x,(0<=i/\i<l.length/\l[i.toNat]? =J x/\∀h:i.toNat<l.length,l[i.toNat]'h=x)/\Rn (f x) φ:=by
 obtain⟨x,h1,h2⟩:=mg hF;exact⟨x,⟨(Ow h1).1,(Ow h1).2.1,(Ow h1).2.2,zC8 h1⟩,h2⟩
def zDA{α β:Type}{l:List α}(n:Nat)(hn:i=n){f:α->Option β}{φ:β->Prop}(hF:Rn ((ix l i).bind f) φ):∃x,(0<=i/\i<l.length/\n<l.length/\l[n]? =J x/\∀h:n<l.length,l[n]'h=x)/\Rn (f x) φ:=by
 subst hn;obtain⟨x,⟨h1,h2,h3,h4⟩,h5⟩:=Py hF;rw[dG]at h3;exact⟨x,⟨h1,h2,by omega,h3,λh=>by have:=h4 (by simpa using h);simpa using this⟩,h5⟩
def r9(s:ByteArray)(i:Int):Option Int:=if 0<=i then(s[i.toNat]?).map λb=>(b.toNat:Int)else ae
def SI{x:Int}(h:r9 s i=J x):0<=i/\i<s.size/\((s[i.toNat]?).map λb=>(b.toNat:Int))=J x:=by
 unfold r9 at h;by_cases hi:0<=i
 ·rw[aB hi]at h;cases hb:s[i.toNat]? with
  |none=>rw[hb]at h;cases h
  |some b=>
   have:i.toNat<s.size:=by
    rcases dK i.toNat s.size with h'|h'
    ·exact h'
    ·rw[getElem?_neg s i.toNat (by simpa using h')]at hb;cases hb
   rw[hb]at h;exact⟨hi,by omega,h⟩
 ·rw[az hi]at h;cases h
def zBG{P:Program}{t:TypeId}{j:IntKind}{x:Int}(ht:dU P t=Z)(h:r9 s i=J x):rP P t (.string s) (.int j i)=J (.int .u8 x):=by
 obtain⟨h0,_,h2⟩:=SI h;simp only[rP,ht,h0,and_self,eP];cases hb:s[i.toNat]? with
 |none=>rw[hb]at h2;cases h2
 |some b=>rw[hb]at h2;simpa using h2
def Zd{β:Type}{f:Int->Option β}{φ:β->Prop}(hF:Rn ((r9 s i).bind f) φ):∃x,(0<=i/\i<s.size/\∀(P:Program) (t:TypeId) (j:IntKind),dU P t=Z->rP P t (.string s) (.int j i)=J (.int .u8 x))/\Rn (f x) φ:=by
 obtain⟨x,h1,h2⟩:=mg hF;exact⟨x,⟨(SI h1).1,(SI h1).2.1,λ_ _ _ ht=>zBG ht h1⟩,h2⟩
def zBk{β:Type}(n:Nat)(hn:i=n){f:Int->Option β}{φ:β->Prop}(hF:Rn ((r9 s i).bind f) φ):∃x,(0<=i/\i<s.size/\n<s.size/\∀(P:Program) (t:TypeId) (j:IntKind),dU P t=Z->rP P t (.string s) (.int j i)=J (.int .u8 x))/\Rn (f x) φ:=by
 subst hn;obtain⟨x,⟨h1,h2,h3⟩,h5⟩:=Zd hF;exact⟨x,⟨h1,h2,by omega,h3⟩,h5⟩
def zz1{α:Type}{b:Int}{e:Option α}{φ:α->Prop}(hF:Rn (gd (b≠0) e) φ):(b≠0/\∀x,uX b x=J x)/\Rn e φ:=⟨⟨(m7 hF).1,λ_=>QZ (m7 hF).1⟩,(m7 hF).2⟩
def On{α:Type}{f:FuncId}{F:Option α}{r:α}{ro:α->PV}{ol:α->List PV}(nt:Nat)(io fz hp:List Nat)(rs:List ResultVar)(hF:F=J r)(hc:ax P f)(hf:P.funcs[f]? =J fn)(hb:fn.body=J code)(y9:fn.ntmps=nt)(iA:fn.results.toList=rs)(hl:as.length<=nt/\jA 0 as=io)
(h:∀φ:α->Prop,(∀r',φ r'->r'=r)->Rn F φ->pw P ⟨nt,io,fz,hp⟩ [.code code] (sg P rs as (Eo (ro r) (ol r))) (qF as)):ap P f as (Eo (ro r) (ol r)):=by
 obtain⟨hlen,rfl⟩:=hl;subst y9;subst iA;exact XP (R:=λr=>Eo (ro r) (ol r)) fz hp hF hc hf hb hlen h
def pF{α:Type}{f:FuncId}{F:Option α}{r:α}{ro:α->PV}{ol:α->List PV}(nt:Nat)(io fz hp:List Nat)(rs:List ResultVar)(hF:F=J r)(hc:ax P f)(hf:P.funcs[f]? =J fn)
(h:∀φ:α->Prop,(∀r',φ r'->r'=r)->Rn F φ->True->pw P ⟨nt,io,fz,hp⟩ [.code code] (sg P rs as (Eo (ro r) (ol r))) (qF as))(hb:fn.body=J code:=by rfl)(y9:fn.ntmps=nt:=by rfl)(iA:fn.results.toList=rs:=by rfl)(hl:as.length<=nt/\jA 0 as=io:=by exact⟨by simp,rfl⟩):ap P f as (Eo (ro r) (ol r)):=
 On nt io fz hp rs hF hc hf hb y9 iA hl λφ h1 h2=>h φ h1 h2 trivial
def pL{σ β:Type}{step:σ->Option (fb σ β)}{b:β}{s0:σ}(hb:dJ step s0=J b)(shape:σ->List (Nat×PF))
(sL:∀s (φ:fb σ β->Prop) (N:ah->Prop),(∀b',φ (.out b')->b'=b)->(∀s' pf,gz (shape s') pf->φ (.go s')->N pf)->Rn (step s) φ->pw P c [.code bd] (ru P c N k Q) (ah.ew (shape s)))(ha:gz (shape s0) pf:=by simp[go_sem,g]):pw P c (.code (.loop bd)::k) Q pf:=Vw shape hb ha sL
def Rx(g:G){α β:Type}{l:List α}{f:α->Option β}{φ:β->Prop}(hF:Rn ((ix l i).bind f) φ):∃x,(G/\0<=i/\i<l.length/\l[i.toNat]? =J x/\∀h:i.toNat<l.length,l[i.toNat]'h=x)/\Rn (f x) φ:=
 let⟨x,h1,h2⟩:=Py hF;⟨x,⟨g,h1⟩,h2⟩
def j8(g:G){α β:Type}{l:List α}(n:Nat){f:α->Option β}{φ:β->Prop}(hF:Rn ((ix l i).bind f) φ)(hn:i=n:=by rfl):∃x,(G/\0<=i/\i<l.length/\n<l.length/\l[n]? =J x/\∀h:n<l.length,l[n]'h=x)/\Rn (f x) φ:=
 let⟨x,h1,h2⟩:=zDA n hn hF;⟨x,⟨g,h1⟩,h2⟩
def iy(g:G){α β:Type}{l:List α}{f:α->Option β}{φ:β->Prop}{q:α->Prop}(hF:Rn ((ix l i).bind f) φ)(h:∀x,l[i.toNat]? =J x->q x:=by intro x w;first|(simp[go_sem]at w;exact w)|exact w):∃x,((G/\0<=i/\i<l.length/\l[i.toNat]? =J x/\∀h:i.toNat<l.length,l[i.toNat]'h=x)/\q x)/\Rn (f x) φ:=
 let⟨x,h1,h2⟩:=Py hF;⟨x,⟨⟨g,h1⟩,h x h1.2.2.1⟩,h2⟩
def Rxs(g:G){β:Type}{f:Int->Option β}{φ:β->Prop}{q:Int->Prop}(hF:Rn ((r9 s i).bind f) φ)(h:∀x,(∀(P:Program) (t:TypeId) (j:IntKind),dU P t=Z->rP P t (.string s) (.int j i)=J (.int .u8 x))->q x:=by intro x w;first|(simp[go_sem]at w;exact w)|exact w):∃x,((G/\0<=i/\i<s.size/\∀(P:Program) (t:TypeId) (j:IntKind),dU P t=Z->rP P t (.string s) (.int j i)=J (.int .u8 x))/\q x)/\Rn (f x) φ:=
 let⟨x,h1,h2⟩:=Zd hF;⟨x,⟨⟨g,h1⟩,h x h1.2.2⟩,h2⟩
def zKE(g:G){β:Type}(n:Nat){f:Int->Option β}{φ:β->Prop}{q:Int->Prop}(hF:Rn ((r9 s i).bind f) φ)(hn:i=n:=by rfl)(h:∀x,(∀(P:Program) (t:TypeId) (j:IntKind),dU P t=Z->rP P t (.string s) (.int j i)=J (.int .u8 x))->q x:=by intro x w;first|(simp[go_sem]at w;exact w)|exact w):∃x,((G/\0<=i/\i<s.size/\n<s.size/\∀(P:Program) (t:TypeId) (j:IntKind),dU P t=Z->rP P t (.string s) (.int j i)=J (.int .u8 x))/\q x)/\Rn (f x) φ:=
 let⟨x,h1,h2⟩:=zBk n hn hF;⟨x,⟨⟨g,h1⟩,h x h1.2.2.2⟩,h2⟩
def Rsa(g:G){a b:ByteArray}{α:Type}{e:Option α}{φ:α->Prop}{q:Prop}(hF:Rn (gd (a.size+b.size<=9223372036854775807) e) φ)(h:(∀P t,cW P .add t (.string a) (.string b)=J (.string (a++b)))->q:=by intro w;first|(simp[go_sem]at w;exact w)|exact w):((G/\∀P t,cW P .add t (.string a) (.string b)=J (.string (a++b)))/\q)/\Rn e φ:=
 ⟨⟨⟨g,λ_ _=>Yu (m7 hF).1⟩,h λ_ _=>Yu (m7 hF).1⟩,(m7 hF).2⟩
def Rg{p q:Prop}[Decidable p](g:G){α:Type}{e:Option α}{φ:α->Prop}(hF:Rn (gd p e) φ)(h:p->q:=by intro w;first|(simp at w;exact w)|exact w):((G/\p)/\q)/\Rn e φ:=
 ⟨⟨⟨g,(m7 hF).1⟩,h (m7 hF).1⟩,(m7 hF).2⟩
def Rz(g:G){α:Type}{b:Int}{e:Option α}{φ:α->Prop}(hF:Rn (gd (b≠0) e) φ):(G/\b≠0/\∀x,uX b x=J x)/\Rn e φ:=⟨⟨g,(zz1 hF).1⟩,(zz1 hF).2⟩
def Ld(g:G)(b:Int)(h:b≠0:=by decide):G/\∀x,uX b x=J x:=⟨g,λ_=>QZ h⟩
def Ls(g:G)(b:Int)(h:0<=b:=by decide):G/\∀x,Aj b x=J x:=⟨g,λ_=>W1 h⟩
@[go_sem] def zEa{α β:Type}{f:α->β}{l:List α}{m k:Nat}:(List.take m (List.map f l))[k]? =((List.take m l)[k]?).map f:=by rw[<-List.map_take,Db]
@[go_sem] def zDf{α β:Type}{f:α->β}{l:List α}:List.take l.length (List.map f l)=List.map f l:=KD (by simp)
def Rsh(g:G){α:Type}{b:Int}{e:Option α}{φ:α->Prop}(hF:Rn (gd (0<=b) e) φ):(G/\0<=b/\∀x,Aj b x=J x)/\Rn e φ:=⟨⟨g,(m7 hF).1,λ_=>W1 (m7 hF).1⟩,(m7 hF).2⟩
def ap.nM{f:FuncId}{R':PV->List PV->Prop}(h:ap P f as R)(hr:∀r outs,R r outs->R' (drop r) outs):ap P f as R':=by
 refine⟨h.1,λE vs h1 h2 h3=>(h.2 E vs h1 h2 h3).mono λrv H' ⟨r,outs,E',a,b,c⟩=>⟨drop r,outs,E'.fz (as.length,[]),hr r outs a,b,?_⟩⟩;refine⟨⟨c.ok.wf,λid bY=>?_⟩,c.since.trans EZ,(c.r.freeze pV MK).up,c.len,λk y v hy hv=>?_⟩
 ·obtain⟨g1,g2⟩:=c.ok.fresh id bY;refine⟨g1,?_⟩;rintro(g3|⟨r',g3⟩)
  ·exact g2 g3
  ·rw[g1]at g3;cases g3
 ·have hk:k<as.length:=by
   have:=(cT.1 hy).1;rw[c.len]at this;exact this
  exact(c.o k y v hy hv).move pV (yX (by show k≠as.length;omega))
def DW{α:Type}{f:FuncId}{F:Option α}{r:α}{ro:α->PV}{ol:α->List PV}(nt:Nat)(io fz hp:List Nat)(rs:List ResultVar)(hF:F=J r)(hc:ax P f)(hf:P.funcs[f]? =J fn)
(h:∀φ:α->Prop,(∀r',φ r'->r'=r)->Rn F φ->True->pw P ⟨nt,io,fz,hp⟩ [.code code] (sg P rs as (Ef (ro r) (ol r))) (qF as))(hb:fn.body=J code:=by rfl)(y9:fn.ntmps=nt:=by rfl)(iA:fn.results.toList=rs:=by rfl)(hl:as.length<=nt/\jA 0 as=io:=by exact⟨by simp,rfl⟩):ap P f as (Eo (ro r) (ol r)):=by
 obtain⟨hlen,rfl⟩:=hl;subst y9;subst iA;exact(XP (R:=λr=>Ef (ro r) (ol r)) fz hp hF hc hf hb hlen λφ h1 h2=>h φ h1 h2 trivial).nM λo os ho=>ho
def sq :pw P c (.code (.seq x y)::k) Q pf=pw P c (.code x::.wk y::k) Q pf:=QB
def wW(h:pw P c (.code x::k) Q pf)(e:a=pw P c (.wk x::k) Q pf:=by(try (conv=>lhs;simp[go_sem,g]))<;>rfl):a:=e.mpr (bu h)
def wK(ks:List Nat){l:List (Nat×PF)}(h2:pw P c (.code x::k) Q (ah.ew l))(e:a=pw P c (.wk x::k) Q pf:=by(try (conv=>lhs;simp[go_sem,g]))<;>rfl)(h:(ks.map λs=>(s,pf s))=l:=by simp[go_sem,g];rfl):a:=e.mpr (zDK ks h h2)
def wC{α β:Type}{e:Option α}{F:α->Option β}{φ:β->Prop}(hF:Rn (e.bind F) φ)(ms:List Md){x:Option (FuncId×List (Md×PV)×Bool×ah×Nat)}{ro:α->PV}{ol:α->List PV}
(h:∀{r},e=J r->ap P g ji (Eo (ro r) (ol r)))(hk:∀z,Rn (F z) φ->qv P c co ((back co.nt aQ l ((ol z).drop n)).map λp=>(.v (ro z),p)) d k Q)(eq:a0=pw1 P c co ty (.call ⟨.value f,args,ts⟩) d k Q pf:=by(try (conv=>lhs;simp[go_sem,g]))<;>rfl)(hm:ms.length=args.toList.length:=by rfl)(hl:ms.zip (ij P args.toList ts.toList)=l:=by rfl)(hx:rX ms l f pf=x:=by(try simp[go_sem,rX,g]);first|rfl|done)(kZ:x=J (g,as,ow,aQ,n):=by rfl)(has:as=ji:=by(try simp[go_sem,g]);first|rfl|done)
(ho:∀z,(ow=aa\/(cP (ro z)&&(ol z).all cP)=Z):=by intro z;simp[go_sem]):a0:=
 eq.mpr (zAI hF ms h hm hl hx kZ has λz hz=>⟨ho z,hk z hz⟩)
def wE{α β:Type}{e:Option α}{F:α->Option β}{φ:β->Prop}(hF:Rn (e.bind F) φ){x:Option (FuncId×List (Md×PV)×Bool×ah×Nat)}{ro:α->PV}{ol:α->List PV}
(h:∀{r},e=J r->ap P g ji (Eo (ro r) (ol r)))(hk:∀z,Rn (F z) φ->qv P c co ((back co.nt aQ l ((ol z).drop n)).map λp=>(.v (ro z),p)) d k Q)(eq:a0=pw1 P c co ty (.call ⟨.value f,args,ts⟩) d k Q pf:=by(try (conv=>lhs;simp[go_sem,g]))<;>rfl)(hl:(List.replicate args.toList.length Md.sh).zip (ij P args.toList ts.toList)=l:=by rfl)(hx:rX (List.replicate args.toList.length Md.sh) l f pf=x:=by(try simp[go_sem,rX,g]);first|rfl|done)(kZ:x=J (g,as,ow,aQ,n):=by rfl)(has:as=ji:=by(try simp[go_sem,g]);first|rfl|done)
(ho:∀z,(ow=aa\/(cP (ro z)&&(ol z).all cP)=Z):=by intro z;simp[go_sem];first|done|fail):a0:=
 eq.mpr (zAI hF (List.replicate args.toList.length Md.sh) h a2g hl hx kZ has λz hz=>⟨ho z,hk z hz⟩)
def wD{α β:Type}{e:Option α}{F:α->Option β}{φ:β->Prop}(hF:Rn (e.bind F) φ){x:Option (FuncId×List (Md×PV)×Bool×ah×Nat)}{ro:α->PV}{ol:α->List PV}
(h:∀{r},e=J r->ap P g ji (Eo (ro r) (ol r)))(hk:∀z,Rn (F z) φ->qv P c c ((back c.nt aQ l ((ol z).drop n)).map λp=>(.v (ro z),p)) d k Q)(eq:a0=qp P c Z ty (.call ⟨.value f,args,ts⟩) d k Q pf:=by(try (conv=>lhs;simp[go_sem,g]))<;>rfl)(hl:(List.replicate args.toList.length Md.sh).zip (ij P args.toList ts.toList)=l:=by rfl)(hx:rX (List.replicate args.toList.length Md.sh) l f pf=x:=by(try simp[go_sem,rX,g]);first|rfl|done)(kZ:x=J (g,as,ow,aQ,n):=by rfl)(has:as=ji:=by(try simp[go_sem,g]);first|rfl|done)
(ho:∀z,(ow=aa\/(cP (ro z)&&(ol z).all cP)=Z):=by intro z;simp[go_sem];first|done|fail):a0:=
 eq.mpr (zCH hF h hl hx kZ has λz hz=>⟨ho z,hk z hz⟩)
def Tc(_ms:List Md)(l:List (Md×Nat×Operand))(us:List PV)(pf:ah):Option (List (Md×PV)×Bool×ah):=
 (oe pf l).bind λy=>(eG y.2 l y.1).map λas=>(as++us.map (λx=>(Md.sh,x)),l.any (sj y.2),y.2)
def wY{α β:Type}{e:Option α}{F:α->Option β}{φ:β->Prop}(hF:Rn (e.bind F) φ)(ms:List Md){s:Nat}{us:List PV}{x:Option (List (Md×PV)×Bool×ah)}{ro:α->PV}{ol:α->List PV}
(h:∀{r},e=J r->ap P g ji (Eo (ro r) (ol r)))(hk:∀z,Rn (F z) φ->qv P c co ((back co.nt aQ l (ol z)).map λp=>(.v (ro z),p)) d k Q){y:Option (Nat×FuncId×List PV)}(eq:a0=pw1 P c co ty (.call ⟨.value f,args,ts⟩) d k Q pf:=by(try (conv=>lhs;simp[go_sem,g]))<;>rfl)(hm:ms.length=args.toList.length:=by rfl)
(hy:t8 pf f=y:=by(try simp[go_sem,g]);first|rfl|done)(ie:y=J (s,g,us):=by rfl)(hl:ms.zip (ij P args.toList ts.toList)++[(.io,0,.tmp s)]=l:=by rfl)(hx:Tc ms l us pf=x:=by(try simp[go_sem,Tc,g]);first|rfl|done)(kZ:x=J (as,ow,aQ):=by rfl)
(Ts:t8 aQ f=J (s,g,us):=by simp[go_sem,g])(has:as=ji:=by(try simp[go_sem,g]);first|rfl|done)(ho:∀z,(ow=aa\/(cP (ro z)&&(ol z).all cP)=Z):=by intro z;simp[go_sem]):a0:=by
 obtain⟨a,ha,hr⟩:=mg hF;rw[eq];subst has;rw[kZ]at hx;simp only[Tc,bR,bN]at hx;obtain⟨y0,h1,ZZ,h3,h4⟩:=hx;cases h4;refine zzc ms hm (hy.trans ie) hl h1 Ts h3 rfl (h ha) λr outs hh=>?_
 obtain⟨rfl,rfl⟩:=hh;exact⟨ho a,hk a hr⟩
def wI{α:Type}{v:Bool}{e e':Option α}{φ:α->Prop}(hF:Rn (if v=Z then e else e') φ)(ht:v=Z->Rn e φ->pw P c (.code x::k) Q pf)(he:v=aa->Rn e' φ->pw P c (.code y::k) Q pf)(eq:a=pw P c (.code (.cond b x y)::k) Q pf:=by(try (conv=>lhs;repeat rw[sq]))<;>rfl)(hb:cq pf b=J (.bool v):=by simp[go_sem,g];first|done|fail):a:=eq.mpr (zF6 hF hb ht he)
def wB{b:Code}(h:pw P c (.code b::.bq id::k) Q pf)(e:a=pw P c (.code (.block id b)::k) Q pf:=by(try (conv=>lhs;repeat rw[sq]))<;>rfl):a:=e.mpr (VG.mpr h)
def wZ{ops:Array Oper}(D:List (List Oper->DE)){L:List (DE×Oper)}(h1:P.follows .mixedOrders=Z)(h:pw P c (.iz (ops.toList.map (·.dst)) L::k) Q pf)(e:a=pw P c (.code (.region id ops Z)::k) Q pf:=by(try (conv=>lhs;repeat rw[sq]))<;>rfl)(h2:HV (D.map λf=>f ops.toList) ops.toList=Z:=by kernel_rfl)(hL:(D.map λf=>f ops.toList).map (λx=>(x,ops.toList.getD x.i default))=L:=by rfl):a:=e.mpr (zAY _ h1 h2 hL h)
def wt(ht:pw P c (.code x::k) Q pf)(e:a=pw P c (.code (.cond b x y)::k) Q pf:=by(try (conv=>lhs;repeat rw[sq]))<;>rfl)(hb:cq pf b=J (.bool Z):=by simp[go_sem,g]):a:=e.mpr (Na hb ht)
def wf(ht:pw P c (.code y::k) Q pf)(e:a=pw P c (.code (.cond b x y)::k) Q pf:=by(try (conv=>lhs;repeat rw[sq]))<;>rfl)(hb:cq pf b=J (.bool aa):=by simp[go_sem,g]):a:=e.mpr (RY hb ht)
def wT{pf:ah}(h:∀pf,A pf->B->C pf)(b:B)(e:a0=C pf:=by(try (conv=>lhs;simp[go_sem,g]))<;>rfl)(a:A pf:=by simp[go_sem,g];first|done|fail):a0:=e.mpr (h pf a b)
def wG{α:Type}{y y' b:Bool}{e e':Option α}{φ:α->Prop}(hF:Rn (if y=Z then e else e') φ)(h1:y'=Z->Rn e φ->pwg P c (J (J Z)) b ty op d k Q pf)(h2:y'=aa->Rn e' φ->pwg P c (J (J aa)) b ty op d k Q pf)(eq:a=pwg P c (J (J y')) b ty op d k Q pf:=by(try (conv=>lhs;simp[go_sem,g]))<;>rfl)(hy:y'=y:=by first|rfl|(simp;done)|fail):a:=eq.mpr (by subst hy;exact zGR hF h1 h2)
def wH{α:Type}{y y' b ext:Bool}{e e':Option α}{φ:α->Prop}(hF:Rn (if y=Z then e else e') φ)(h1:y'=Z->Rn e φ->jh P c (J (J Z)) b ext ty op d k Q pf)(h2:y'=aa->Rn e' φ->jh P c (J (J aa)) b ext ty op d k Q pf)(eq:a=jh P c (J (J y')) b ext ty op d k Q pf:=by(try (conv=>lhs;simp[go_sem,g]))<;>rfl)(hy:y'=y:=by first|rfl|(simp;done)|fail):a:=eq.mpr (by subst hy;exact zC2 hF h1 h2)
def wJ{α β:Type}{e:Option α}{f:α->Option β}{φ:β->Prop}{i:iu}(hF:Rn (e.bind f) φ)(l:α->List (Nat×PF))(hr:∀x,Rn (f x) φ->pw P c (.code y::k) Q (ah.ew (l x)))
(hc:∀ψ:α->Prop,(∀x pf,gz (l x) pf->ψ x->pw P c (.wk y::k) Q pf)->Rn e ψ->pw P c (i::.wk y::k) Q pf)(eq:a0=pw P c (i::.wk y::k) Q pf:=by(try (conv=>lhs;repeat rw[sq]))<;>rfl):a0:=eq.mpr (Ws l hF hr hc)
def wS{α β:Type}{e:Option (α ⊕ β)}{f:α->Option β}{φ:β->Prop}{i:iu}(hF:Rn (e.bind (Sum.elim f J)) φ)(l:α->List (Nat×PF))(hr:∀x,Rn (f x) φ->pw P c (.code y::k) Q (ah.ew (l x)))
(hc:∀ψ:α ⊕ β->Prop,(∀x pf,gz (l x) pf->ψ (.inl x)->pw P c (.wk y::k) Q pf)->(∀r,ψ (.inr r)->φ r)->Rn e ψ->pw P c (i::.wk y::k) Q pf)(eq:a0=pw P c (i::.wk y::k) Q pf:=by(try (conv=>lhs;repeat rw[sq]))<;>rfl):a0:=eq.mpr (V5 l hF hr hc)
def bT{α β:Type}{e:Option α}{f:α->Option β}{φ:β->Prop}{i:iu}(hF:Rn (e.bind f) φ)(ks:List Nat)(v:α->List (Nat×PF)){l:α->List (Nat×PF)}(hr:∀x,Rn (f x) φ->pw P c (.code y::k) Q (ah.ew (l x)))
(hc:∀ψ:α->Prop,(∀x pf,gz (l x) pf->ψ x->pw P c (.wk y::k) Q pf)->Rn e ψ->pw P c (i::.wk y::k) Q pf)(eq:a0=pw P c (i::.wk y::k) Q pf:=by(try (conv=>lhs;repeat rw[sq]))<;>rfl)(JI:∀x,(ks.map λs=>(s,pf s))++v x=l x:=by intro x;simp[go_sem,g];rfl):a0:=eq.mpr (Ws l hF hr hc)
def wSK{α β:Type}{e:Option (α ⊕ β)}{f:α->Option β}{φ:β->Prop}{i:iu}(hF:Rn (e.bind (Sum.elim f J)) φ)(ks:List Nat)(v:α->List (Nat×PF)){l:α->List (Nat×PF)}(hr:∀x,Rn (f x) φ->pw P c (.code y::k) Q (ah.ew (l x)))
(hc:∀ψ:α ⊕ β->Prop,(∀x pf,gz (l x) pf->ψ (.inl x)->pw P c (.wk y::k) Q pf)->(∀r,ψ (.inr r)->φ r)->Rn e ψ->pw P c (i::.wk y::k) Q pf)(eq:a0=pw P c (i::.wk y::k) Q pf:=by(try (conv=>lhs;repeat rw[sq]))<;>rfl)(JI:∀x,(ks.map λs=>(s,pf s))++v x=l x:=by intro x;simp[go_sem,g];rfl):a0:=eq.mpr (V5 l hF hr hc)
def jQ{σ β:Type}{step:σ->Option (fb σ β)}{b:β}{s0:σ}(hb:dJ step s0=J b)(ks:List Nat)(v:σ->List (Nat×PF)){shape:σ->List (Nat×PF)}
(sL:∀s (φ:fb σ β->Prop) (N:ah->Prop),(∀b',φ (.out b')->b'=b)->(∀s' pf,gz (shape s') pf->φ (.go s')->N pf)->Rn (step s) φ->pw P c [.code bd] (ru P c N k Q) (ah.ew (shape s)))(JI:∀x,(ks.map λs=>(s,pf s))++v x=shape x:=by intro x;simp[go_sem,g];rfl)(ha:gz (shape s0) pf:=by simp[go_sem,g]):pw P c (.code (.loop bd)::k) Q pf:=Vw shape hb ha sL
def pRK{σ β:Type}{body:Int->σ->Option (fb σ β)}{stop:σ->β}{m:Nat}{b:β}{s0:σ}(hb:aS body stop m 0 s0=J b)(ks:List Nat)(v:Int->σ->List (Nat×PF)){shape:Int->σ->List (Nat×PF)}
(last:∀s (N:ah->Prop),stop s=b->pw P c [.code bd] (ru P c N k Q) (ah.ew (shape (0+m) s)))
(sL:∀(i:Int) s (φ:fb σ β->Prop) (N:ah->Prop),0<=i->i<m->(∀b',φ (.out b')->b'=b)->(∀s' pf,gz (shape (i+1) s') pf->φ (.go s')->N pf)->Rn (body i s) φ->pw P c [.code bd] (ru P c N k Q) (ah.ew (shape i s)))(JI:∀i x,(ks.map λs=>(s,pf s))++v i x=shape i x:=by intro i x;simp[go_sem,g];rfl)(ha:gz (shape 0 s0) pf:=by simp[go_sem,g]):pw P c (.code (.loop bd)::k) Q pf:=
 zzR shape hb ha last λi s φ N h1 h2 ho hg hF=>sL i s φ N h1 (by omega) ho hg hF
def yo(h0:0<=i)(h:i<n)(hn:n<=km):IntKind.i64.wrap (i+1)=i+1:=EW (by simp only[km]at hn;omega)
def wl{α:Type}{φ:α->Prop}{x r:α}{A:Prop}(h:∀r',φ r'->r'=r)(hF:Rn (J x) φ)(k:x=r->A:=by intro e;cases e;refine wW ?_;simp[go_sem,g];first|done|fail):A:=k (h _ (eZ hF))
def wm{α:Type}{φ:α->Prop}{x r:α}{A:Prop}(h:∀r',φ r'->r'=r)(hF:Rn (J x) φ)(k:x=r->A:=by intro e;cases e;simp[go_sem,g];first|done|fail):A:=k (h _ (eZ hF))
def wV{H:Prop}{pf:ah}(hh:H)(h:∀pf,A pf->B->C pf)(b:B)(e:H->a0=C pf:=by intro h;(try (conv=>lhs;simp[go_sem,g,h]))<;>rfl)(a:H->A pf:=by intro h;simp[go_sem,g,h];first|done|fail):a0:=(e hh).mpr (h pf (a hh) b)
def wu{H I:Prop}(h:H)(i:I)(ht:pw P c (.code x::k) Q pf)(e:a=pw P c (.code (.cond b x y)::k) Q pf:=by(try (conv=>lhs;repeat rw[sq]))<;>rfl)(hb:H->I->cq pf b=J (.bool Z):=by intro h i;simp[go_sem,g,h,i];first|done|fail):a:=e.mpr (Na (hb h i) ht)
def wi{pf:ah}(h1:0<=i)(h2:i<n)(h:∀pf,A pf->B->C pf)(b:B)(e:a0=C pf:=by(try (conv=>lhs;simp[go_sem,g]))<;>rfl)(a:IntKind.i64.wrap (i+1)=i+1->A pf:=by intro h;simp[go_sem,g,h];first|done|fail)(hn:n<=km:=by first|assumption|(simp;assumption)|(simp;omega)):a0:=e.mpr (h pf (a (yo h1 h2 hn)) b)
def wn{β:Type}{b b':β}{B:β->Prop}{pf:ah}(hN:b'=b)(h:∀pf,A pf->B b'->C pf)(NO:B b)(k:C pf->a0:=by intro h;refine wW ?_;refine wf ?_;exact Eq.mpr (by(try (conv=>lhs;simp[go_sem,g]))<;>rfl) h)(a:A pf:=by simp[go_sem,g];first|done|fail):a0:=k (h pf a (hN▸NO))
end
def pE{P:Program}{α:Type}{f:FuncId}{fn:Func}{code:Code}{xs:List (Md×PV)}{F:Option α}{r:α}{ro:α->PV}{ol:α->List PV}{nt:Nat}{rs:List ResultVar}(io:List Nat)(hF:F=J r)(hc:ax P f)(hf:P.funcs[f]? =J fn)
(h:∀φ:α->Prop,(∀r',φ r'->r'=r)->Rn F φ->True->pw P ⟨nt,io,[],[]⟩ [.code code] (sg P rs xs (Eo (ro r) (ol r))) (qF xs))(hb:fn.body=J code:=by rfl)(y9:fn.ntmps=nt:=by(conv=>lhs;whnf)<;>rfl)(iA:fn.results.toList=rs:=by(conv=>lhs;whnf)<;>rfl)(hl:xs.length<=nt/\jA 0 xs=io:=by exact⟨by simp,rfl⟩):ap P f xs (Eo (ro r) (ol r)):=
 On nt io [] [] rs hF hc hf hb y9 iA hl λφ h1 h2=>h φ h1 h2 trivial
def pG{p:Prop}[Decidable p]{α:Type}{e:Option α}{φ:α->Prop}(_h:Rn (gd p e) φ):True:=trivial
def pI1{α β:Type}{l:List α}{i:Int}{f:α->Option β}{φ:β->Prop}(_h:Rn ((ix l i).bind f) φ):True:=trivial
def pI2{β:Type}{l:ByteArray}{i:Int}{f:Int->Option β}{φ:β->Prop}(_h:Rn ((r9 l i).bind f) φ):True:=trivial
def pI3{α:Type}{v:Bool}{e e':Option α}{φ:α->Prop}(_h:Rn (if v=Z then e else e') φ):True:=trivial
def mG{α β:Type}{e:Option α}{X:α->Prop}{f:α->Option β}{φ:β->Prop}(_c:∀{r},e=J r->X r)(_h:Rn (e.bind f) φ):True:=trivial
def wL{p:Prop}(ok:p:=by
 first|have e:=h|have h:=trivial
 repeat' first|((with_reducible have e:=eZ hF);first|exact wm ak hF|exact wl ak hF|exact wV h (hj0 _) e|exact wV h (kg _) e|exact wV h (rU _) e|exact wi aO aN (ba _) e|exact wi cF Gj (ba _) e|exact wi SU PH (ba _) e|exact wV h (ba _) e|exact wi aO aN (qw _) e|exact wi cF Gj (qw _) e|exact wi SU PH (qw _) e|exact wV h (qw _) e|exact wi aO aN (BC _) e|exact wi cF Gj (BC _) e|exact wi SU PH (BC _) e|exact wV h (BC _) e|((first|cases bp _ e|cases Tp _ e|cases Dp _ e|cases bp _ (dD _ e)|cases bp _ (zg _ e)|cases Tp _ (dD _ e)|cases Tp _ (zg _ e)|cases Dp _ (dD _ e)|cases Dp _ (zg _ e));first|exact wV h (hj0 _) bg|exact wV h (hj0 _) MS|exact wV h (kg _) bg|exact wV h (kg _) MS|exact wV h (rU _) bg|exact wV h (rU _) MS|(cases ak _ bg;first|(refine wW ?_;simp[go_sem,g];done)|(simp[go_sem,g];done))|(cases ak _ MS;first|(refine wW ?_;simp[go_sem,g];done)|(simp[go_sem,g];done))|(cases ak _ (dD _ (by assumption));first|(refine wW ?_;simp[go_sem,g];done)|(simp[go_sem,g];done))|(cases ak _ (zg _ (by assumption));first|(refine wW ?_;simp[go_sem,g];done)|(simp[go_sem,g];done)))|((first|cases ak _ e|cases ak _ (dD _ e)|cases ak _ (zg _ e));first|(refine wW ?_;simp[go_sem,g];done)|(refine wW ?_;refine wW ?_;simp[go_sem,g];done)|(simp[go_sem,g];done)))|((with_reducible have e:=pG hF);first|obtain⟨g,hF⟩:=Rz g hF|obtain⟨g,hF⟩:=Rsa g hF|obtain⟨g,hF⟩:=Rsh g hF|obtain⟨g,hF⟩:=Rg g hF)|((with_reducible have e:=pI1 hF);first|obtain⟨x,g,hF⟩:=j8 g 0 hF|obtain⟨x,g,hF⟩:=j8 g 1 hF|obtain⟨x,g,hF⟩:=j8 g 2 hF|obtain⟨x,g,hF⟩:=j8 g 3 hF|obtain⟨x,g,hF⟩:=Rx g hF)|((with_reducible have e:=pI2 hF);first|obtain⟨x,g,hF⟩:=zKE g 0 hF|obtain⟨x,g,hF⟩:=Rxs g hF)|((with_reducible have e:=pI3 hF);first|refine bu ?_|refine wB ?_|refine wI hF (λh hF=>?_) (λh hF=>?_)|refine wG hF (λh hF=>?_) λh hF=>?_|refine wH hF (λh hF=>?_) λh hF=>?_)|(with_reducible exact(Wl hF).elim)|refine bu ?_|refine wB ?_|(((with_reducible have e:=mG c0 hF));first|refine wE hF c0 (λz hF=>?_)|refine wD hF c0 (λz hF=>?_))|(((with_reducible have e:=mG c1 hF));first|refine wE hF c1 (λz hF=>?_)|refine wD hF c1 (λz hF=>?_))|(((with_reducible have e:=mG c2 hF));first|refine wE hF c2 (λz hF=>?_)|refine wD hF c2 (λz hF=>?_))|(((with_reducible have e:=mG c3 hF));first|refine wE hF c3 (λz hF=>?_)|refine wD hF c3 (λz hF=>?_))|(((with_reducible have e:=mG c4 hF));first|refine wE hF c4 (λz hF=>?_)|refine wD hF c4 (λz hF=>?_))|(((with_reducible have e:=mG c5 hF));first|refine wE hF c5 (λz hF=>?_)|refine wD hF c5 (λz hF=>?_))|((with_reducible have e:=mG AQ hF);refine wC hF [.io] AQ (λz hF=>?_))|((with_reducible have e:=mG ci1 hF);refine wC hF [.io] ci1 (λz hF=>?_))|((with_reducible have e:=mG ci2 hF);refine wC hF [.io] ci2 (λz hF=>?_))|((with_reducible have e:=mG jc hF);refine wC hF [.io,.sh] jc (λz hF=>?_))|((with_reducible have e:=mG BJ hF);refine wC hF [.io,.sh] BJ (λz hF=>?_))|((with_reducible have e:=mG cj2 hF);refine wC hF [.io,.sh] cj2 (λz hF=>?_))|((with_reducible have e:=mG xd hF);refine wC hF [.io,.mv] xd (λz hF=>?_))|((with_reducible have e:=mG ck1 hF);refine wC hF [.io,.mv] ck1 (λz hF=>?_))|((with_reducible have e:=mG ck2 hF);refine wC hF [.io,.mv] ck2 (λz hF=>?_))|((with_reducible have e:=mG Pl hF);refine wC hF [.io,.sh,.sh] Pl (λz hF=>?_))|((with_reducible have e:=mG cm1 hF);refine wC hF [.io,.sh,.sh] cm1 (λz hF=>?_))|((with_reducible have e:=mG cm2 hF);refine wC hF [.io,.sh,.sh] cm2 (λz hF=>?_))|refine wu aO aN ?_|refine wu cF Gj ?_|refine wu SU PH ?_|refine wW ?_|simp[go_sem,g,h]|intro e):p:=ok
section
variable {P:Program}{c:aY}{k:List iu}{Q:Exit->ah->Prop}{pf:ah}
def wR{σ β:Type}{a:Prop}{id:Nat}{body:Int->σ->Option (fb σ β)}{stop:σ->β}{m:Nat}{bd:Code}{s0:σ}{ψ:β->Prop}(hF:Rn (aS body stop m 0 s0) ψ)(ks:List Nat)(v:Int->σ->List (Nat×PF)){shape:Int->σ->List (Nat×PF)}
(sL:∀b,ψ b->∀(i:Int) s (φ:fb σ β->Prop) (N:ah->Prop),0<=i->i<m->(∀b',φ (.out b')->b'=b)->(∀s' pf,gz (shape (i+1) s') pf->φ (.go s')->N pf)->Rn (body i s) φ->pw P c [.code bd] (ru P c N (.bq id::k) Q) (ah.ew (shape i s)))
(e:a=pw P c (.code (.block id (.loop bd))::k) Q pf:=by(try (conv=>lhs;repeat rw[sq]))<;>rfl)(JI:∀i x,(ks.map λs=>(s,pf s))++v i x=shape i x:=by intro i x;simp[go_sem,g];rfl)(ha:gz (shape 0 s0) pf:=by simp[go_sem,g])
(last:∀b,ψ b->∀s (N:ah->Prop),stop s=b->pw P c [.code bd] (ru P c N (.bq id::k) Q) (ah.ew (shape (0+m) s)):=by intro b bg s N Ru;first|exact wn Ru (hj0 _) bg|exact wn Ru (kg _) bg|exact wn Ru (rU _) bg):a:=by
 obtain⟨b,hb,NO⟩:=hF;exact e.mpr (VG.mpr (pRK hb ks v (λs N h=>last b NO s N h) (λi s φ N h1 h2 ho hg hF=>sL b NO i s φ N h1 h2 ho hg hF) JI ha))
end
end Go.Pm
