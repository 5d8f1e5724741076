import Derived.Test.YtnojafnlicbhpaaGreatPmV
open Bool renaming false→aa,true→Z
open Option renaming none→ae,some→J
set_option linter.defProp false
namespace Go.Pm
open Go.Am
def d0(i:Nat)(s:List Nat):DE:=⟨i,s,[],ae,aa,aa,aa⟩
def d1(i:Nat)(s:List Nat)(r:Nat):DE:=⟨i,s,[r],ae,aa,aa,aa⟩
def d2(i:Nat)(s:List Nat)(r m:Nat):DE:=⟨i,s,[r],J m,aa,aa,aa⟩
def d3(i:Nat)(s:List Nat):DE:=⟨i,s,[],ae,aa,Z,Z⟩
def Nb:Option Tmp->List Nat
 |some d=>[d]
 |none=>[]
def kS(o:List Oper)(x:Oper):List Nat:=DF x.op++match x.guard with
 |some (j,_)=>Nb (o.getD j default).dst
 |none=>[]
def k0(i:Nat)(o:List Oper):DE:=⟨i,kS o (o.getD i default),[],ae,aa,aa,aa⟩
def k1(i r:Nat)(o:List Oper):DE:=⟨i,kS o (o.getD i default),[r],ae,aa,aa,aa⟩
def k2(i r:Nat)(o:List Oper):DE:=⟨i,kS o (o.getD i default),[r],(DF (o.getD i default).op).head?,aa,aa,aa⟩
def k3(i:Nat)(o:List Oper):DE:=⟨i,kS o (o.getD i default),[],ae,aa,Z,Z⟩
def k4(b c d:Bool)(i:Nat)(o:List Oper):DE:=⟨i,kS o (o.getD i default),[],ae,b,c,d⟩
def kN(x i:Nat)(o:List Oper):DE:=if x%8=0 then k0 i o else if x%8=1 then k1 i (x/8) o else if x%8=2 then k2 i (x/8) o else if x%8=3 then k3 i o else k4 (x%8 !=4) (x%8 !=5) (x%8==6) i o
def kE:List Nat->List Nat->List (List Oper->DE)
 |i::is,x::xs=>kN x i::kE is xs
 |_,_=>[]
def kD:Nat->List Nat->List (List Oper->DE)
 |i,x::xs=>kN x i::kD (i+1) xs
 |_,[]=>[]
variable{i r x:Nat}{o:List Oper}{s:List Nat}
@[go_sem] def zUW{b c d:Bool}:k4 b c d i o=⟨i,kS o (o.getD i default),[],ae,b,c,d⟩:=(rfl)
@[go_sem] def zT6 :kN x i o=if x%8=0 then k0 i o else if x%8=1 then k1 i (x/8) o else if x%8=2 then k2 i (x/8) o else if x%8=3 then k3 i o else k4 (x%8 !=4) (x%8 !=5) (x%8==6) i o:=(rfl)
@[go_sem] def zWR{is xs:List Nat}:kE (i::is) (x::xs)=kN x i::kE is xs:=(rfl)
@[go_sem] def zWO:kE [] []=[]:=(rfl)
@[go_sem] def zWx{xs:List Nat}:kD i (x::xs)=kN x i::kD (i+1) xs:=(rfl)
@[go_sem] def zWy :kD i []=[]:=(rfl)
@[go_sem] def zUC :k0 i o=⟨i,kS o (o.getD i default),[],ae,aa,aa,aa⟩:=(rfl)
@[go_sem] def zVO :k1 i r o=⟨i,kS o (o.getD i default),[r],ae,aa,aa,aa⟩:=(rfl)
@[go_sem] def zUX :k2 i r o=⟨i,kS o (o.getD i default),[r],(DF (o.getD i default).op).head?,aa,aa,aa⟩:=(rfl)
@[go_sem] def zVg :k3 i o=⟨i,kS o (o.getD i default),[],ae,aa,Z,Z⟩:=(rfl)
@[go_sem] def zWe{d:Option Tmp}{op:Op}{ty:TypeId}{ps:String}{af:Array Edge}:kS o ⟨d,op,ty,ps,af,ae⟩=DF op:=by simp[kS]
@[go_sem] def zWI{d:Option Tmp}{op:Op}{ty:TypeId}{ps:String}{af:Array Edge}{j:Nat}{b:Bool}:kS o ⟨d,op,ty,ps,af,J (j,b)⟩=DF op++Nb (o.getD j default).dst:=(rfl)
@[go_sem] def zVo{d:Nat}:Nb (J d)=[d]:=(rfl)
@[go_sem] def zTQ:Nb ae=[]:=(rfl)
@[go_sem] def zPJ{o:Op}:DF o=o.operands.toList.flatMap dZ:=(rfl)
@[go_sem] def zTW{t:Tmp}:dZ (.tmp t)=[t]:=(rfl)
@[go_sem] def zTU{v:Value}:dZ (.const v)=[]:=(rfl)
@[go_sem] def zVb{f:FuncId}:dZ (.func f)=[]:=(rfl)
@[go_sem] def zTS{f:Nat}:dZ (.global f)=[]:=(rfl)
attribute [go_sem] Op.operands Call.operands
@[go_sem] def zTv :d0 i s=⟨i,s,[],ae,aa,aa,aa⟩:=(rfl)
@[go_sem] def zTO :d1 i s r=⟨i,s,[r],ae,aa,aa,aa⟩:=(rfl)
@[go_sem] def zU9{m:Nat}:d2 i s r m=⟨i,s,[r],J m,aa,aa,aa⟩:=(rfl)
@[go_sem] def zUV :d3 i s=⟨i,s,[],ae,aa,Z,Z⟩:=(rfl)
def Rn{α:Type}(e:Option α)(φ:α->Prop):Prop:=∃a,e=J a/\φ a
def mM{α β:Type}{e:Option α}{f:α->Option β}{φ:β->Prop}(h:Rn (e.bind f) φ):∃a,e=J a/\Rn (f a) φ:=by
 obtain⟨b,h1,h2⟩:=h;rw[bW]at h1;obtain⟨a,h3,h4⟩:=h1;exact⟨a,h3,b,h4,h2⟩
def aj{α:Type}{a:α}{φ:α->Prop}(h:Rn (J a) φ):φ a:=by
 obtain⟨b,h1,h2⟩:=h;cases h1;exact h2
def NR{α:Type}{φ:α->Prop}(h:Rn ae φ):False:=by
 obtain⟨b,h1,_⟩:=h;cases h1
def gd{α:Type}(p:Prop)[Decidable p](e:Option α):Option α:=if p then e else ae
def ut{α:Type}{p:Prop}[Decidable p]{e:Option α}{φ:α->Prop}(h:Rn (gd p e) φ):p/\Rn e φ:=by
 unfold gd at h;by_cases hp:p
 ·rw[aD hp]at h;exact⟨hp,h⟩
 ·rw[aB hp]at h;exact(NR h).elim
def S5{α:Type}{v:Bool}{e e':Option α}{φ:α->Prop}(h:Rn (if v=Z then e else e') φ)(hv:v=Z):Rn e φ:=by rwa [aD hv]at h
def VS{α:Type}{v:Bool}{e e':Option α}{φ:α->Prop}(h:Rn (if v=Z then e else e') φ)(hv:v=aa):Rn e' φ:=by rwa [aB (by simp[hv])]at h
def zBl{α:Type}{e:Option α}{φ ψ:α->Prop}(h:Rn e φ)(hm:∀a,φ a->ψ a):Rn e ψ:=by
 obtain⟨a,h1,h2⟩:=h;exact⟨a,h1,hm a h2⟩
def ix{α:Type}(l:List α)(i:Int):Option α:=if 0<=i then l[i.toNat]? else ae
def M3{α:Type}{l:List α}{i:Int}{x:α}(h:ix l i=J x):0<=i/\i<l.length/\l[i.toNat]? =J x:=by
 unfold ix at h;by_cases hi:0<=i
 ·rw[aD hi]at h;have:=(cY.1 h).1;exact⟨hi,by omega,h⟩
 ·rw[aB hi]at h;cases h
def zC3{α:Type}{l:List α}{i:Int}{x:α}(h:ix l i=J x):∀h:i.toNat<l.length,l[i.toNat]'h=x:=λh'=>by
 have:=(M3 h).2.2;rw[cJ h']at this;exact zC this
def Zi{α:Type}{l:List α}:ix l (i:Int)=l[i]? :=by simp[ix]
def Hi{n:Int}(h: -9223372036854775808<=n/\n<=9223372036854775807):IntKind.i64.wrap n=n:=by rw[IntKind.wrap_i64];omega
inductive fO (σ β:Type) where
 |go (s:σ)
 |out (b:β)
def nS{σ β:Type}(step:σ->Option (fO σ β)):Nat->σ->Option β
 |0,_=>ae
 |n+1,s=>(step s).bind λ
  | .go s'=>nS step n s'
  | .out b=>J b
open Classical in
noncomputable def dP{σ β:Type}(step:σ->Option (fO σ β))(s:σ):Option β:=if h:∃b n,nS step n s=J b then J h.choose else ae
def Ya{σ β:Type}{step:σ->Option (fO σ β)}:∀{n m:Nat}{s:σ}{b:β},nS step n s=J b->n<=m->nS step m s=J b:=by
 intro n;induction n with
 |zero=>intro m s b h;simp[nS]at h
 |succ n ih=>
  intro m s b h hm;cases m with
  |zero=>omega
  |succ m=>
   simp only[nS]at h⊢;cases hs:step s with
   |none=>rw[hs]at h;exact h
   |some x=>
    rw[hs]at h;cases x with
    |go s'=>exact ih h (by omega)
    |out b=>exact h
def MP{σ β:Type}{step:σ->Option (fO σ β)}{s:σ}{b:β}:dP step s=J b↔∃n,nS step n s=J b:=by
 constructor
 ·intro h;unfold dP at h;split at h
  ·rename_i hx;cases h;exact hx.choose_spec
  ·cases h
 ·rintro⟨n,h⟩;have hx:∃b n,nS step n s=J b:=⟨b,n,h⟩
  unfold dP;rw[dif_pos hx];obtain⟨m,hm⟩:=hx.choose_spec;have a1:=Ya hm (Nat.le_max_right n m);have a2:=Ya h (Nat.le_max_left n m);rw[a1]at a2;exact a2
theorem PT{σ β:Type}{step:σ->Option (fO σ β)}{s:σ}:dP step s=(step s).bind λ
 | .go s'=>dP step s'
 | .out b=>J b:=by
 apply Option.ext;intro b;rw[MP];constructor
 ·rintro⟨n,h⟩;cases n with
  |zero=>simp[nS]at h
  |succ n=>
   simp only[nS]at h;cases hs:step s with
   |none=>rw[hs]at h;exact h
   |some x=>
    rw[hs]at h;cases x with
    |go s'=>exact MP.2 ⟨n,h⟩
    |out b=>exact h
 ·intro h;cases hs:step s with
  |none=>rw[hs]at h;cases h
  |some x=>
   rw[hs]at h;cases x with
   |go s'=>
    obtain⟨n,hn⟩:=MP.1 (show dP step s'=J b from h);exact⟨n+1,by simp only[nS,hs];exact hn⟩
   |out b'=>exact⟨1,by simp only[nS,hs];exact h⟩
open Classical in
noncomputable def zWj{β:Type}(f:Nat->Option β):Option β:=if h:∃b n,f n=J b then J h.choose else ae
def aU{σ β:Type}(body:Int->σ->Option (fO σ β))(stop:σ->β):Nat->Int->σ->Option β
 |0,_,s=>J (stop s)
 |k+1,i,s=>(body i s).bind λ
  | .go s'=>aU body stop k (i+1) s'
  | .out b=>J b
section
variable {P:Program}{c:aY}{k:List iO}{Q:Exit->ah->Prop}{pf:ah}
def vg(P:Program)(c:aY)(N:ah->Prop)(k:List iO)(Q:Exit->ah->Prop):Exit->ah->Prop
 | .normal,pf=>N pf
 |e,pf=>fN P c k Q e pf
variable{A C N:ah->Prop}{B G a a0:Prop}{R:PV->List PV->Prop}{args:Array Operand}{as jH:List (Md×PV)}{b f:Operand}{bd code x y:Code}{co:aY}{d:Option Tmp}{fn:Func}{g:FuncId}{i:Int}{id n:Nat}{l:List (Md×Nat×Operand)}{op:Op}{ow:Bool}{aR:ah}{s:ByteArray}{ts:Array TypeId}{ty:TypeId}
@[go_sem] theorem zED :vg P c N k Q .normal pf=N pf:=rfl
@[go_sem] theorem zNw :vg P c N k Q (.exit id) pf=pwx P c id k Q pf:=rfl
@[go_sem] def zQM :vg P c N k Q .ret pf=Q .ret pf:=by
 show fN P c k Q .ret pf=_;rw[UW]
def ztX{σ β:Type}(shape:σ->List (Nat×PF)){step:σ->Option (fO σ β)}{b:β}{s0:σ}(hb:dP step s0=J b)(ha:ii (shape s0) pf)
(yf:∀s (φ:fO σ β->Prop) (N:ah->Prop),(∀b',φ (.out b')->b'=b)->(∀s' pf,ii (shape s') pf->φ (.go s')->N pf)->Rn (step s) φ->pw P c [.code bd] (vg P c N k Q) (ah.eU (shape s))):pw P c (.code (.loop bd)::k) Q pf:=by
 obtain⟨n,hn⟩:=MP.1 hb;refine⟨n,?_⟩
 have key:∀n s pf,nS step n s=J b->ii (shape s) pf->Di (gJ P c bd) (fN P c k Q) n pf:=by
  intro n;induction n with
  |zero=>intro s pf h;simp[nS]at h
  |succ n ih=>
   intro s pf h hA;refine⟨ah.eU (shape s),Pj hA,?_⟩
   have hr:=yf s (λx=>match x with| .go s'=>nS step n s'=J b| .out b'=>b'=b) (λpf=>Di (gJ P c bd) (fN P c k Q) n pf) (λb' h=>h) (λs' pf hp h=>ih s' pf h hp) (by
    simp only[nS]at h;rw[bW]at h;obtain⟨x,h1,h2⟩:=h;refine⟨x,h1,?_⟩;cases x with
    |go s'=>exact h2
    |out b'=>exact zC h2)
   refine TA bd ?_ hr;intro e pf' hq;cases e<;>exact hq
 exact key n s0 pf hn ha
def zzQ{σ β:Type}(shape:Int->σ->List (Nat×PF)){body:Int->σ->Option (fO σ β)}{stop:σ->β}{m:Nat}{i0:Int}{b:β}{s0:σ}(hb:aU body stop m i0 s0=J b)(ha:ii (shape i0 s0) pf)
(last:∀s (N:ah->Prop),stop s=b->pw P c [.code bd] (vg P c N k Q) (ah.eU (shape (i0+m) s)))
(yf:∀i s (φ:fO σ β->Prop) (N:ah->Prop),i0<=i->i<i0+m->(∀b',φ (.out b')->b'=b)->(∀s' pf,ii (shape (i+1) s') pf->φ (.go s')->N pf)->Rn (body i s) φ->pw P c [.code bd] (vg P c N k Q) (ah.eU (shape i s))):pw P c (.code (.loop bd)::k) Q pf:=by
 refine⟨m+1,?_⟩
 have key:∀n i s pf,aU body stop n i s=J b->i0<=i->i+n=i0+m->ii (shape i s) pf->Di (gJ P c bd) (fN P c k Q) (n+1) pf:=by
  intro n;induction n with
  |zero=>
   intro i s pf h h0 hi hA;refine⟨ah.eU (shape i s),Pj hA,?_⟩;have e:i=i0+m:=by omega
   subst e;have hr:=last s (λpf=>Di (gJ P c bd) (fN P c k Q) 0 pf) (by simpa[aU]using h);refine TA bd ?_ hr;intro e pf' hq;cases e<;>exact hq
  |succ n ih=>
   intro i s pf h h0 hi hA;refine⟨ah.eU (shape i s),Pj hA,?_⟩
   have hr:=yf i s (λx=>match x with| .go s'=>aU body stop n (i+1) s'=J b| .out b'=>b'=b) (λpf=>Di (gJ P c bd) (fN P c k Q) (n+1) pf) h0 (by omega) (λb' h=>h)
    (λs' pf hp h=>ih (i+1) s' pf h (by omega) (by omega) hp) (by
    simp only[aU]at h;rw[bW]at h;obtain⟨x,h1,h2⟩:=h;refine⟨x,h1,?_⟩;cases x with
    |go s'=>exact h2
    |out b'=>exact zC h2)
   refine TA bd ?_ hr;intro e pf' hq;cases e<;>exact hq
 exact key m i0 s0 pf hb (by omega) (by omega) ha
def rW(_ms:List Md)(l:List (Md×Nat×Operand))(f:Operand)(pf:ah):Option (FuncId×List (Md×PV)×Bool×ah×Nat):=
 (pd pf l).bind λy=>(pU y.2 f).bind λg=>(eT y.2 l y.1).map λas=>(g.1,g.2.1.map (λx=>(Md.sh,x))++as++g.2.2.map (λx=>(Md.sh,x)),l.any (rX y.2),y.2,g.2.1.length)
def zzu(ms:List Md){x:Option (FuncId×List (Md×PV)×Bool×ah×Nat)}
(hm:ms.length=args.toList.length)(hl:ms.zip (iQ P args.toList ts.toList)=l)(hx:rW ms l f pf=x)(lI:x=J (g,as,ow,aR,n))(h:au P g jH R)(has:as=jH)
(hk:∀r outs,R r outs->(ow=aa\/(cV r&&outs.all cV)=Z)/\qv P c co ((back co.nt aR l (outs.drop n)).map λp=>(.v r,p)) d k Q):pw1 P c co ty (.call ⟨.value f,args,ts⟩) d k Q pf:=by
 subst has;rw[lI]at hx;simp only[rW,bW,bP]at hx;obtain⟨y,h1,g',h2,Xp,h3,h4⟩:=hx;cases h4;exact zBN ms hm hl h1 (show pU y.2 f=J (g'.1,g'.2.1,g'.2.2)from h2) h3 rfl h hk
def zxs{x:Option (FuncId×List (Md×PV)×Bool×ah×Nat)}
(hl:(List.replicate args.toList.length Md.sh).zip (iQ P args.toList ts.toList)=l)(hx:rW (List.replicate args.toList.length Md.sh) l f pf=x)(lI:x=J (g,as,ow,aR,n))(h:au P g jH R)(has:as=jH)
(hk:∀r outs,R r outs->(ow=aa\/(cV r&&outs.all cV)=Z)/\qv P c c ((back c.nt aR l (outs.drop n)).map λp=>(.v r,p)) d k Q):rk P c Z ty (.call ⟨.value f,args,ts⟩) d k Q pf:=by
 subst has;rw[lI]at hx;simp only[rW,bW,bP]at hx;obtain⟨y,h1,g',h2,Xp,h3,h4⟩:=hx;cases h4;exact zy2 hl h1 (show pU y.2 f=J (g'.1,g'.2.1,g'.2.2)from h2) h3 rfl h hk
def ztQ{α β:Type}{e:Option α}{f:α->Option β}{φ:β->Prop}{i:iO}(l:α->List (Nat×PF))(hF:Rn (e.bind f) φ)(hr:∀x,Rn (f x) φ->pw P c (.code y::k) Q (ah.eU (l x)))
(hc:∀ψ:α->Prop,(∀x pf,ii (l x) pf->ψ x->pw P c (.wk y::k) Q pf)->Rn e ψ->pw P c (i::.wk y::k) Q pf):pw P c (i::.wk y::k) Q pf:=by
 obtain⟨a,h1,h2⟩:=mM hF;exact hc (λa=>Rn (f a) φ) (λx _ ha hj=>Is (l x) ha (hr x hj)) ⟨a,h1,h2⟩
def zto{α β:Type}{e:Option (α ⊕ β)}{f:α->Option β}{φ:β->Prop}{i:iO}(l:α->List (Nat×PF))(hF:Rn (e.bind (Sum.elim f J)) φ)(hr:∀x,Rn (f x) φ->pw P c (.code y::k) Q (ah.eU (l x)))
(hc:∀ψ:α ⊕ β->Prop,(∀x pf,ii (l x) pf->ψ (.inl x)->pw P c (.wk y::k) Q pf)->(∀r,ψ (.inr r)->φ r)->Rn e ψ->pw P c (i::.wk y::k) Q pf):pw P c (i::.wk y::k) Q pf:=by
 obtain⟨a,h1,h2⟩:=mM hF;exact hc (λa=>Rn (Sum.elim f J a) φ) (λx _ ha hj=>Is (l x) ha (hr x hj)) (λr h=>aj h) ⟨a,h1,h2⟩
def Wx{α:Type}{f:FuncId}{F:Option α}{r:α}{R:α->PV->List PV->Prop}(fz hp:List Nat)(hF:F=J r)(hc:aA P f)(hf:P.funcs[f]? =J fn)(hb:fn.body=J code)(hlen:as.length<=fn.ntmps)
(h:∀φ:α->Prop,(∀r',φ r'->r'=r)->Rn F φ->pw P ⟨fn.ntmps,j3 0 as,fz,hp⟩ [.code code] (uc P fn.results.toList as (R r)) (r8 as)):au P f as (R r):=
 zt9 fz hp hc hf hb hlen (h (λr'=>r'=r) (λ_ h=>h) ⟨r,hF,rfl⟩)
def Eo(x:PV)(l:List PV):PV->List PV->Prop:=λo os=>o=x/\os=l
def Ef(x:PV)(l:List PV):PV->List PV->Prop:=λo os=>drop o=x/\os=l
@[go_sem,reducible] def cO:List PV:=[.ax,.ax]
@[go_sem,reducible] def gH:List PV:=[.ax,.ax,.ax]
@[go_sem,reducible] def kY:List PV:=[.ax,.ax,.ax,.ax]
@[go_sem,reducible] def rU:List PV:=[.ax,.ax,.ax,.ax,.ax]
@[go_sem,reducible] def sH:List PV:=[.ax,.ax,.ax,.ax,.ax,.ax]
@[go_sem,reducible] def Qa:List PV:=[.ax,.ax,.ax,.ax,.ax,.ax,.ax]
@[go_sem,reducible] def zS0:List PV:=[.ax,.ax,.ax,.ax,.ax,.ax,.ax,.ax]
@[go_sem,reducible] def zR1:List PV:=[.ax,.ax,.ax,.ax,.ax,.ax,.ax,.ax,.ax]
@[go_sem] theorem zTY{x o:PV}{l os:List PV}:Ef x l o os=(drop o=x/\os=l):=rfl
@[go_sem] theorem zVj{x o:PV}{l os:List PV}:Eo x l o os=(o=x/\os=l):=rfl
@[go_sem ↓] theorem zRT{rows:List (List PV)}:ur P c co (J rows) d k Q pf=(rows.length<=kK->qv P c co (J (.v (.int .i64 rows.length),pf)) d k Q):=rfl
def zv3(ks:List Nat):ii (ks.map λs=>(s,pf s)) pf:=by
 induction ks with
 |nil=>trivial
 |cons s ks ih=>exact⟨rfl,ih⟩
def zCF(ks:List Nat){l:List (Nat×PF)}(h:(ks.map λs=>(s,pf s))=l)(h2:pw P c (.code x::k) Q (ah.eU l)):pw P c (.wk x::k) Q pf:=by
 subst h;exact Is _ (zv3 ks) h2
def zGY{α:Type}{v:Bool}{e e':Option α}{φ:α->Prop}(hF:Rn (if v=Z then e else e') φ)(hb:cu pf b=J (.bool v))(ht:v=Z->Rn e φ->pw P c (.code x::k) Q pf)(he:v=aa->Rn e' φ->pw P c (.code y::k) Q pf):
 pw P c (.code (.cond b x y)::k) Q pf:=Vp hb (λh=>ht h (S5 hF h)) λh=>he h (VS hF h)
def zFb{α:Type}{y b:Bool}{e e':Option α}{φ:α->Prop}(hF:Rn (if y=Z then e else e') φ)(h1:y=Z->Rn e φ->pwg P c (J (J Z)) b ty op d k Q pf)(h2:y=aa->Rn e' φ->pwg P c (J (J aa)) b ty op d k Q pf):pwg P c (J (J y)) b ty op d k Q pf:=
 zxM (λh=>h1 h (S5 hF h)) λh=>h2 h (VS hF h)
def zC1{α:Type}{y b ext:Bool}{e e':Option α}{φ:α->Prop}(hF:Rn (if y=Z then e else e') φ)(h1:y=Z->Rn e φ->jR P c (J (J Z)) b ext ty op d k Q pf)(h2:y=aa->Rn e' φ->jR P c (J (J aa)) b ext ty op d k Q pf):jR P c (J (J y)) b ext ty op d k Q pf:=
 zvW (λh=>h1 h (S5 hF h)) λh=>h2 h (VS hF h)
def zAB{α β:Type}{e:Option α}{F:α->Option β}{φ:β->Prop}(hF:Rn (e.bind F) φ)(ms:List Md){x:Option (FuncId×List (Md×PV)×Bool×ah×Nat)}{ro:α->PV}{ol:α->List PV}
(h:∀{r},e=J r->au P g jH (Eo (ro r) (ol r)))(hm:ms.length=args.toList.length)(hl:ms.zip (iQ P args.toList ts.toList)=l)(hx:rW ms l f pf=x)(lI:x=J (g,as,ow,aR,n))(has:as=jH)
(hk:∀z,Rn (F z) φ->(ow=aa\/(cV (ro z)&&(ol z).all cV)=Z)/\qv P c co ((back co.nt aR l ((ol z).drop n)).map λp=>(.v (ro z),p)) d k Q):pw1 P c co ty (.call ⟨.value f,args,ts⟩) d k Q pf:=by
 obtain⟨a,ha,hr⟩:=mM hF;refine zzu ms hm hl hx lI (h ha) has λr outs ho=>?_
 obtain⟨rfl,rfl⟩:=ho;exact hk a hr
def zDl{α β:Type}{e:Option α}{F:α->Option β}{φ:β->Prop}(hF:Rn (e.bind F) φ){x:Option (FuncId×List (Md×PV)×Bool×ah×Nat)}{ro:α->PV}{ol:α->List PV}
(h:∀{r},e=J r->au P g jH (Eo (ro r) (ol r)))(hl:(List.replicate args.toList.length Md.sh).zip (iQ P args.toList ts.toList)=l)(hx:rW (List.replicate args.toList.length Md.sh) l f pf=x)(lI:x=J (g,as,ow,aR,n))(has:as=jH)
(hk:∀z,Rn (F z) φ->(ow=aa\/(cV (ro z)&&(ol z).all cV)=Z)/\qv P c c ((back c.nt aR l ((ol z).drop n)).map λp=>(.v (ro z),p)) d k Q):rk P c Z ty (.call ⟨.value f,args,ts⟩) d k Q pf:=by
 obtain⟨a,ha,hr⟩:=mM hF;refine zxs hl hx lI (h ha) has λr outs ho=>?_
 obtain⟨rfl,rfl⟩:=ho;exact hk a hr
def Sb{α β:Type}{l:List α}{f:α->Option β}{φ:β->Prop}(hF:Rn ((ix l i).bind f) φ):∃x,(0<=i/\i<l.length/\l[i.toNat]? =J x/\∀h:i.toNat<l.length,l[i.toNat]'h=x)/\Rn (f x) φ:=by
 obtain⟨x,h1,h2⟩:=mM hF;exact⟨x,⟨(M3 h1).1,(M3 h1).2.1,(M3 h1).2.2,zC3 h1⟩,h2⟩
def zDG{α β:Type}{l:List α}(n:Nat)(hn:i=n){f:α->Option β}{φ:β->Prop}(hF:Rn ((ix l i).bind f) φ):∃x,(0<=i/\i<l.length/\n<l.length/\l[n]? =J x/\∀h:n<l.length,l[n]'h=x)/\Rn (f x) φ:=by
 subst hn;obtain⟨x,⟨h1,h2,h3,h4⟩,h5⟩:=Sb hF;rw[dL]at h3;exact⟨x,⟨h1,h2,by omega,h3,λh=>by have:=h4 (by simpa using h);simpa using this⟩,h5⟩
def xX(s:ByteArray)(i:Int):Option Int:=if 0<=i then(s[i.toNat]?).map λb=>(b.toNat:Int)else ae
def Ri{x:Int}(h:xX s i=J x):0<=i/\i<s.size/\((s[i.toNat]?).map λb=>(b.toNat:Int))=J x:=by
 unfold xX at h;by_cases hi:0<=i
 ·rw[aD hi]at h;cases hb:s[i.toNat]? with
  |none=>rw[hb]at h;cases h
  |some b=>
   have:i.toNat<s.size:=by
    rcases dQ i.toNat s.size with h'|h'
    ·exact h'
    ·rw[getElem?_neg s i.toNat (by simpa using h')]at hb;cases hb
   rw[hb]at h;exact⟨hi,by omega,h⟩
 ·rw[aB hi]at h;cases h
def zBO{P:Program}{t:TypeId}{j:IntKind}{x:Int}(ht:eC P t=Z)(h:xX s i=J x):yK P t (.string s) (.int j i)=J (.int .u8 x):=by
 obtain⟨h0,_,h2⟩:=Ri h;simp only[yK,ht,h0,and_self,e9];cases hb:s[i.toNat]? with
 |none=>rw[hb]at h2;cases h2
 |some b=>rw[hb]at h2;simpa using h2
def zDK{β:Type}{f:Int->Option β}{φ:β->Prop}(hF:Rn ((xX s i).bind f) φ):∃x,(0<=i/\i<s.size/\∀(P:Program) (t:TypeId) (j:IntKind),eC P t=Z->yK P t (.string s) (.int j i)=J (.int .u8 x))/\Rn (f x) φ:=by
 obtain⟨x,h1,h2⟩:=mM hF;exact⟨x,⟨(Ri h1).1,(Ri h1).2.1,λ_ _ _ ht=>zBO ht h1⟩,h2⟩
def W8{α:Type}{b:Int}{e:Option α}{φ:α->Prop}(hF:Rn (gd (b≠0) e) φ):(b≠0/\∀x,wa b x=J x)/\Rn e φ:=⟨⟨(ut hF).1,λ_=>Rc (ut hF).1⟩,(ut hF).2⟩
def Sy{α:Type}{f:FuncId}{F:Option α}{r:α}{ro:α->PV}{ol:α->List PV}(nt:Nat)(io fz hp:List Nat)(rs:List ResultVar)(hF:F=J r)(hc:aA P f)(hf:P.funcs[f]? =J fn)(hb:fn.body=J code)(G5:fn.ntmps=nt)(jr:fn.results.toList=rs)(hl:as.length<=nt/\j3 0 as=io)
(h:∀φ:α->Prop,(∀r',φ r'->r'=r)->Rn F φ->pw P ⟨nt,io,fz,hp⟩ [.code code] (uc P rs as (Eo (ro r) (ol r))) (r8 as)):au P f as (Eo (ro r) (ol r)):=by
 obtain⟨hlen,rfl⟩:=hl;subst G5;subst jr;exact Wx (R:=λr=>Eo (ro r) (ol r)) fz hp hF hc hf hb hlen h
def pF{α:Type}{f:FuncId}{F:Option α}{r:α}{ro:α->PV}{ol:α->List PV}(nt:Nat)(io fz hp:List Nat)(rs:List ResultVar)(hF:F=J r)(hc:aA P f)(hf:P.funcs[f]? =J fn)
(h:∀φ:α->Prop,(∀r',φ r'->r'=r)->Rn F φ->True->pw P ⟨nt,io,fz,hp⟩ [.code code] (uc P rs as (Eo (ro r) (ol r))) (r8 as))(hb:fn.body=J code:=by rfl)(G5:fn.ntmps=nt:=by rfl)(jr:fn.results.toList=rs:=by rfl)(hl:as.length<=nt/\j3 0 as=io:=by exact⟨by simp,rfl⟩):au P f as (Eo (ro r) (ol r)):=
 Sy nt io fz hp rs hF hc hf hb G5 jr hl λφ h1 h2=>h φ h1 h2 trivial
def pL{σ β:Type}{step:σ->Option (fO σ β)}{b:β}{s0:σ}(hb:dP step s0=J b)(shape:σ->List (Nat×PF))
(yf:∀s (φ:fO σ β->Prop) (N:ah->Prop),(∀b',φ (.out b')->b'=b)->(∀s' pf,ii (shape s') pf->φ (.go s')->N pf)->Rn (step s) φ->pw P c [.code bd] (vg P c N k Q) (ah.eU (shape s)))(ha:ii (shape s0) pf:=by simp[go_sem,g]):pw P c (.code (.loop bd)::k) Q pf:=ztX shape hb ha yf
def Rx(g:G){α β:Type}{l:List α}{f:α->Option β}{φ:β->Prop}(hF:Rn ((ix l i).bind f) φ):∃x,(G/\0<=i/\i<l.length/\l[i.toNat]? =J x/\∀h:i.toNat<l.length,l[i.toNat]'h=x)/\Rn (f x) φ:=
 let⟨x,h1,h2⟩:=Sb hF;⟨x,⟨g,h1⟩,h2⟩
def fj(g:G){α β:Type}{l:List α}(n:Nat){f:α->Option β}{φ:β->Prop}(hF:Rn ((ix l i).bind f) φ)(hn:i=n:=by rfl):∃x,(G/\0<=i/\i<l.length/\n<l.length/\l[n]? =J x/\∀h:n<l.length,l[n]'h=x)/\Rn (f x) φ:=
 let⟨x,h1,h2⟩:=zDG n hn hF;⟨x,⟨g,h1⟩,h2⟩
def iA(g:G){α β:Type}{l:List α}{f:α->Option β}{φ:β->Prop}{q:α->Prop}(hF:Rn ((ix l i).bind f) φ)(h:∀x,l[i.toNat]? =J x->q x:=by intro x w;first|(simp[go_sem]at w;exact w)|exact w):∃x,((G/\0<=i/\i<l.length/\l[i.toNat]? =J x/\∀h:i.toNat<l.length,l[i.toNat]'h=x)/\q x)/\Rn (f x) φ:=
 let⟨x,h1,h2⟩:=Sb hF;⟨x,⟨⟨g,h1⟩,h x h1.2.2.1⟩,h2⟩
def Rxs(g:G){β:Type}{f:Int->Option β}{φ:β->Prop}{q:Int->Prop}(hF:Rn ((xX s i).bind f) φ)(h:∀x,(∀(P:Program) (t:TypeId) (j:IntKind),eC P t=Z->yK P t (.string s) (.int j i)=J (.int .u8 x))->q x:=by intro x w;first|(simp[go_sem]at w;exact w)|exact w):∃x,((G/\0<=i/\i<s.size/\∀(P:Program) (t:TypeId) (j:IntKind),eC P t=Z->yK P t (.string s) (.int j i)=J (.int .u8 x))/\q x)/\Rn (f x) φ:=
 let⟨x,h1,h2⟩:=zDK hF;⟨x,⟨⟨g,h1⟩,h x h1.2.2⟩,h2⟩
def Rg{p q:Prop}[Decidable p](g:G){α:Type}{e:Option α}{φ:α->Prop}(hF:Rn (gd p e) φ)(h:p->q:=by intro w;first|(simp at w;exact w)|exact w):((G/\p)/\q)/\Rn e φ:=
 ⟨⟨⟨g,(ut hF).1⟩,h (ut hF).1⟩,(ut hF).2⟩
def Rz(g:G){α:Type}{b:Int}{e:Option α}{φ:α->Prop}(hF:Rn (gd (b≠0) e) φ):(G/\b≠0/\∀x,wa b x=J x)/\Rn e φ:=⟨⟨g,(W8 hF).1⟩,(W8 hF).2⟩
def Ld(g:G)(b:Int)(h:b≠0:=by decide):G/\∀x,wa b x=J x:=⟨g,λ_=>Rc h⟩
def Ls(g:G)(b:Int)(h:0<=b:=by decide):G/\∀x,CH b x=J x:=⟨g,λ_=>zAM h⟩
@[go_sem] def zD4{α β:Type}{f:α->β}{l:List α}{m k:Nat}:(List.take m (List.map f l))[k]? =((List.take m l)[k]?).map f:=by rw[<-List.map_take,Ew]
@[go_sem] def zDr{α β:Type}{f:α->β}{l:List α}:List.take l.length (List.map f l)=List.map f l:=L5 (by simp)
def au.nX{f:FuncId}{R':PV->List PV->Prop}(h:au P f as R)(hr:∀r outs,R r outs->R' (drop r) outs):au P f as R':=by
 refine⟨h.1,λE vs h1 h2 h3=>(h.2 E vs h1 h2 h3).mono λrv H' ⟨r,outs,E',a,b,c⟩=>⟨drop r,outs,E'.fz (as.length,[]),hr r outs a,b,?_⟩⟩;refine⟨⟨c.ok.wf,λid b9=>?_⟩,c.since.trans Gv,(c.r.freeze p9 Oj).up,c.len,λk y v hy hv=>?_⟩
 ·obtain⟨g1,g2⟩:=c.ok.fresh id b9;refine⟨g1,?_⟩;rintro(g3|⟨r',g3⟩)
  ·exact g2 g3
  ·rw[g1]at g3;cases g3
 ·have hk:k<as.length:=by
   have:=(cY.1 hy).1;rw[c.len]at this;exact this
  exact(c.o k y v hy hv).move p9 (Bb (by show k≠as.length;omega))
def EJ{α:Type}{f:FuncId}{F:Option α}{r:α}{ro:α->PV}{ol:α->List PV}(nt:Nat)(io fz hp:List Nat)(rs:List ResultVar)(hF:F=J r)(hc:aA P f)(hf:P.funcs[f]? =J fn)
(h:∀φ:α->Prop,(∀r',φ r'->r'=r)->Rn F φ->True->pw P ⟨nt,io,fz,hp⟩ [.code code] (uc P rs as (Ef (ro r) (ol r))) (r8 as))(hb:fn.body=J code:=by rfl)(G5:fn.ntmps=nt:=by rfl)(jr:fn.results.toList=rs:=by rfl)(hl:as.length<=nt/\j3 0 as=io:=by exact⟨by simp,rfl⟩):au P f as (Eo (ro r) (ol r)):=by
 obtain⟨hlen,rfl⟩:=hl;subst G5;subst jr;exact(Wx (R:=λr=>Ef (ro r) (ol r)) fz hp hF hc hf hb hlen λφ h1 h2=>h φ h1 h2 trivial).nX λo os ho=>ho
def sq :pw P c (.code (.seq x y)::k) Q pf=pw P c (.code x::.wk y::k) Q pf:=Q1
def wW(h:pw P c (.code x::k) Q pf)(e:a=pw P c (.wk x::k) Q pf:=by(try (conv=>lhs;simp[go_sem,g]))<;>rfl):a:=e.mpr (bh h)
def wK(ks:List Nat){l:List (Nat×PF)}(h2:pw P c (.code x::k) Q (ah.eU l))(e:a=pw P c (.wk x::k) Q pf:=by(try (conv=>lhs;simp[go_sem,g]))<;>rfl)(h:(ks.map λs=>(s,pf s))=l:=by simp[go_sem,g];rfl):a:=e.mpr (zCF ks h h2)
def wC{α β:Type}{e:Option α}{F:α->Option β}{φ:β->Prop}(hF:Rn (e.bind F) φ)(ms:List Md){x:Option (FuncId×List (Md×PV)×Bool×ah×Nat)}{ro:α->PV}{ol:α->List PV}
(h:∀{r},e=J r->au P g jH (Eo (ro r) (ol r)))(hk:∀z,Rn (F z) φ->qv P c co ((back co.nt aR l ((ol z).drop n)).map λp=>(.v (ro z),p)) d k Q)(eq:a0=pw1 P c co ty (.call ⟨.value f,args,ts⟩) d k Q pf:=by(try (conv=>lhs;simp[go_sem,g]))<;>rfl)(hm:ms.length=args.toList.length:=by rfl)(hl:ms.zip (iQ P args.toList ts.toList)=l:=by rfl)(hx:rW ms l f pf=x:=by(try simp[go_sem,rW,g]);first|rfl|done)(lI:x=J (g,as,ow,aR,n):=by rfl)(has:as=jH:=by(try simp[go_sem,g]);first|rfl|done)
(ho:∀z,(ow=aa\/(cV (ro z)&&(ol z).all cV)=Z):=by intro z;simp[go_sem]):a0:=
 eq.mpr (zAB hF ms h hm hl hx lI has λz hz=>⟨ho z,hk z hz⟩)
def wE{α β:Type}{e:Option α}{F:α->Option β}{φ:β->Prop}(hF:Rn (e.bind F) φ){x:Option (FuncId×List (Md×PV)×Bool×ah×Nat)}{ro:α->PV}{ol:α->List PV}
(h:∀{r},e=J r->au P g jH (Eo (ro r) (ol r)))(hk:∀z,Rn (F z) φ->qv P c co ((back co.nt aR l ((ol z).drop n)).map λp=>(.v (ro z),p)) d k Q)(eq:a0=pw1 P c co ty (.call ⟨.value f,args,ts⟩) d k Q pf:=by(try (conv=>lhs;simp[go_sem,g]))<;>rfl)(hl:(List.replicate args.toList.length Md.sh).zip (iQ P args.toList ts.toList)=l:=by rfl)(hx:rW (List.replicate args.toList.length Md.sh) l f pf=x:=by(try simp[go_sem,rW,g]);first|rfl|done)(lI:x=J (g,as,ow,aR,n):=by rfl)(has:as=jH:=by(try simp[go_sem,g]);first|rfl|done)
(ho:∀z,(ow=aa\/(cV (ro z)&&(ol z).all cV)=Z):=by intro z;simp[go_sem];first|done|fail):a0:=
 eq.mpr (zAB hF (List.replicate args.toList.length Md.sh) h a5v hl hx lI has λz hz=>⟨ho z,hk z hz⟩)
def wD{α β:Type}{e:Option α}{F:α->Option β}{φ:β->Prop}(hF:Rn (e.bind F) φ){x:Option (FuncId×List (Md×PV)×Bool×ah×Nat)}{ro:α->PV}{ol:α->List PV}
(h:∀{r},e=J r->au P g jH (Eo (ro r) (ol r)))(hk:∀z,Rn (F z) φ->qv P c c ((back c.nt aR l ((ol z).drop n)).map λp=>(.v (ro z),p)) d k Q)(eq:a0=rk P c Z ty (.call ⟨.value f,args,ts⟩) d k Q pf:=by(try (conv=>lhs;simp[go_sem,g]))<;>rfl)(hl:(List.replicate args.toList.length Md.sh).zip (iQ P args.toList ts.toList)=l:=by rfl)(hx:rW (List.replicate args.toList.length Md.sh) l f pf=x:=by(try simp[go_sem,rW,g]);first|rfl|done)(lI:x=J (g,as,ow,aR,n):=by rfl)(has:as=jH:=by(try simp[go_sem,g]);first|rfl|done)
(ho:∀z,(ow=aa\/(cV (ro z)&&(ol z).all cV)=Z):=by intro z;simp[go_sem];first|done|fail):a0:=
 eq.mpr (zDl hF h hl hx lI has λz hz=>⟨ho z,hk z hz⟩)
def Up(_ms:List Md)(l:List (Md×Nat×Operand))(us:List PV)(pf:ah):Option (List (Md×PV)×Bool×ah):=
 (pd pf l).bind λy=>(eT y.2 l y.1).map λas=>(as++us.map (λx=>(Md.sh,x)),l.any (rX y.2),y.2)
def wY{α β:Type}{e:Option α}{F:α->Option β}{φ:β->Prop}(hF:Rn (e.bind F) φ)(ms:List Md){s:Nat}{us:List PV}{x:Option (List (Md×PV)×Bool×ah)}{ro:α->PV}{ol:α->List PV}
(h:∀{r},e=J r->au P g jH (Eo (ro r) (ol r)))(hk:∀z,Rn (F z) φ->qv P c co ((back co.nt aR l (ol z)).map λp=>(.v (ro z),p)) d k Q){y:Option (Nat×FuncId×List PV)}(eq:a0=pw1 P c co ty (.call ⟨.value f,args,ts⟩) d k Q pf:=by(try (conv=>lhs;simp[go_sem,g]))<;>rfl)(hm:ms.length=args.toList.length:=by rfl)
(hy:uZ pf f=y:=by(try simp[go_sem,g]);first|rfl|done)(iL:y=J (s,g,us):=by rfl)(hl:ms.zip (iQ P args.toList ts.toList)++[(.io,0,.tmp s)]=l:=by rfl)(hx:Up ms l us pf=x:=by(try simp[go_sem,Up,g]);first|rfl|done)(lI:x=J (as,ow,aR):=by rfl)
(Tp:uZ aR f=J (s,g,us):=by simp[go_sem,g])(has:as=jH:=by(try simp[go_sem,g]);first|rfl|done)(ho:∀z,(ow=aa\/(cV (ro z)&&(ol z).all cV)=Z):=by intro z;simp[go_sem]):a0:=by
 obtain⟨a,ha,hr⟩:=mM hF;rw[eq];subst has;rw[lI]at hx;simp only[Up,bW,bP]at hx;obtain⟨y0,h1,Xp,h3,h4⟩:=hx;cases h4;refine zzg ms hm (hy.trans iL) hl h1 Tp h3 rfl (h ha) λr outs hh=>?_
 obtain⟨rfl,rfl⟩:=hh;exact⟨ho a,hk a hr⟩
def wI{α:Type}{v:Bool}{e e':Option α}{φ:α->Prop}(hF:Rn (if v=Z then e else e') φ)(ht:v=Z->Rn e φ->pw P c (.code x::k) Q pf)(he:v=aa->Rn e' φ->pw P c (.code y::k) Q pf)(eq:a=pw P c (.code (.cond b x y)::k) Q pf:=by(try (conv=>lhs;repeat rw[sq]))<;>rfl)(hb:cu pf b=J (.bool v):=by simp[go_sem,g];first|done|fail):a:=eq.mpr (zGY hF hb ht he)
def wB{b:Code}(h:pw P c (.code b::.bu id::k) Q pf)(e:a=pw P c (.code (.block id b)::k) Q pf:=by(try (conv=>lhs;repeat rw[sq]))<;>rfl):a:=e.mpr (a3Q.mpr h)
def wZ{ops:Array Oper}(D:List (List Oper->DE)){L:List (DE×Oper)}(h1:P.follows .mixedOrders=Z)(h:pw P c (.iF (ops.toList.map (·.dst)) L::k) Q pf)(e:a=pw P c (.code (.region id ops Z)::k) Q pf:=by(try (conv=>lhs;repeat rw[sq]))<;>rfl)(h2:H9 (D.map λf=>f ops.toList) ops.toList=Z:=by kernel_rfl)(hL:(D.map λf=>f ops.toList).map (λx=>(x,ops.toList.getD x.i default))=L:=by rfl):a:=e.mpr (zBu _ h1 h2 hL h)
def wt(ht:pw P c (.code x::k) Q pf)(e:a=pw P c (.code (.cond b x y)::k) Q pf:=by(try (conv=>lhs;repeat rw[sq]))<;>rfl)(hb:cu pf b=J (.bool Z):=by simp[go_sem,g]):a:=e.mpr (MF hb ht)
def wf(ht:pw P c (.code y::k) Q pf)(e:a=pw P c (.code (.cond b x y)::k) Q pf:=by(try (conv=>lhs;repeat rw[sq]))<;>rfl)(hb:cu pf b=J (.bool aa):=by simp[go_sem,g]):a:=e.mpr (Vy hb ht)
def wT{pf:ah}(h:∀pf,A pf->B->C pf)(b:B)(e:a0=C pf:=by(try (conv=>lhs;simp[go_sem,g]))<;>rfl)(a:A pf:=by simp[go_sem,g];first|done|fail):a0:=e.mpr (h pf a b)
def wG{α:Type}{y y' b:Bool}{e e':Option α}{φ:α->Prop}(hF:Rn (if y=Z then e else e') φ)(h1:y'=Z->Rn e φ->pwg P c (J (J Z)) b ty op d k Q pf)(h2:y'=aa->Rn e' φ->pwg P c (J (J aa)) b ty op d k Q pf)(eq:a=pwg P c (J (J y')) b ty op d k Q pf:=by(try (conv=>lhs;simp[go_sem,g]))<;>rfl)(hy:y'=y:=by first|rfl|(simp;done)|fail):a:=eq.mpr (by subst hy;exact zFb hF h1 h2)
def wH{α:Type}{y y' b ext:Bool}{e e':Option α}{φ:α->Prop}(hF:Rn (if y=Z then e else e') φ)(h1:y'=Z->Rn e φ->jR P c (J (J Z)) b ext ty op d k Q pf)(h2:y'=aa->Rn e' φ->jR P c (J (J aa)) b ext ty op d k Q pf)(eq:a=jR P c (J (J y')) b ext ty op d k Q pf:=by(try (conv=>lhs;simp[go_sem,g]))<;>rfl)(hy:y'=y:=by first|rfl|(simp;done)|fail):a:=eq.mpr (by subst hy;exact zC1 hF h1 h2)
def wJ{α β:Type}{e:Option α}{f:α->Option β}{φ:β->Prop}{i:iO}(hF:Rn (e.bind f) φ)(l:α->List (Nat×PF))(hr:∀x,Rn (f x) φ->pw P c (.code y::k) Q (ah.eU (l x)))
(hc:∀ψ:α->Prop,(∀x pf,ii (l x) pf->ψ x->pw P c (.wk y::k) Q pf)->Rn e ψ->pw P c (i::.wk y::k) Q pf)(eq:a0=pw P c (i::.wk y::k) Q pf:=by(try (conv=>lhs;repeat rw[sq]))<;>rfl):a0:=eq.mpr (ztQ l hF hr hc)
def wS{α β:Type}{e:Option (α ⊕ β)}{f:α->Option β}{φ:β->Prop}{i:iO}(hF:Rn (e.bind (Sum.elim f J)) φ)(l:α->List (Nat×PF))(hr:∀x,Rn (f x) φ->pw P c (.code y::k) Q (ah.eU (l x)))
(hc:∀ψ:α ⊕ β->Prop,(∀x pf,ii (l x) pf->ψ (.inl x)->pw P c (.wk y::k) Q pf)->(∀r,ψ (.inr r)->φ r)->Rn e ψ->pw P c (i::.wk y::k) Q pf)(eq:a0=pw P c (i::.wk y::k) Q pf:=by(try (conv=>lhs;repeat rw[sq]))<;>rfl):a0:=eq.mpr (zto l hF hr hc)
def bX{α β:Type}{e:Option α}{f:α->Option β}{φ:β->Prop}{i:iO}(hF:Rn (e.bind f) φ)(ks:List Nat)(v:α->List (Nat×PF)){l:α->List (Nat×PF)}(hr:∀x,Rn (f x) φ->pw P c (.code y::k) Q (ah.eU (l x)))
(hc:∀ψ:α->Prop,(∀x pf,ii (l x) pf->ψ x->pw P c (.wk y::k) Q pf)->Rn e ψ->pw P c (i::.wk y::k) Q pf)(eq:a0=pw P c (i::.wk y::k) Q pf:=by(try (conv=>lhs;repeat rw[sq]))<;>rfl)(Va:∀x,(ks.map λs=>(s,pf s))++v x=l x:=by intro x;simp[go_sem,g];rfl):a0:=eq.mpr (ztQ l hF hr hc)
def wSK{α β:Type}{e:Option (α ⊕ β)}{f:α->Option β}{φ:β->Prop}{i:iO}(hF:Rn (e.bind (Sum.elim f J)) φ)(ks:List Nat)(v:α->List (Nat×PF)){l:α->List (Nat×PF)}(hr:∀x,Rn (f x) φ->pw P c (.code y::k) Q (ah.eU (l x)))
(hc:∀ψ:α ⊕ β->Prop,(∀x pf,ii (l x) pf->ψ (.inl x)->pw P c (.wk y::k) Q pf)->(∀r,ψ (.inr r)->φ r)->Rn e ψ->pw P c (i::.wk y::k) Q pf)(eq:a0=pw P c (i::.wk y::k) Q pf:=by(try (conv=>lhs;repeat rw[sq]))<;>rfl)(Va:∀x,(ks.map λs=>(s,pf s))++v x=l x:=by intro x;simp[go_sem,g];rfl):a0:=eq.mpr (zto l hF hr hc)
def jW{σ β:Type}{step:σ->Option (fO σ β)}{b:β}{s0:σ}(hb:dP step s0=J b)(ks:List Nat)(v:σ->List (Nat×PF)){shape:σ->List (Nat×PF)}
(yf:∀s (φ:fO σ β->Prop) (N:ah->Prop),(∀b',φ (.out b')->b'=b)->(∀s' pf,ii (shape s') pf->φ (.go s')->N pf)->Rn (step s) φ->pw P c [.code bd] (vg P c N k Q) (ah.eU (shape s)))(Va:∀x,(ks.map λs=>(s,pf s))++v x=shape x:=by intro x;simp[go_sem,g];rfl)(ha:ii (shape s0) pf:=by simp[go_sem,g]):pw P c (.code (.loop bd)::k) Q pf:=ztX shape hb ha yf
def bU{σ β:Type}{body:Int->σ->Option (fO σ β)}{stop:σ->β}{m:Nat}{b:β}{s0:σ}(hb:aU body stop m 0 s0=J b)(ks:List Nat)(v:Int->σ->List (Nat×PF)){shape:Int->σ->List (Nat×PF)}
(last:∀s (N:ah->Prop),stop s=b->pw P c [.code bd] (vg P c N k Q) (ah.eU (shape (0+m) s)))
(yf:∀(i:Int) s (φ:fO σ β->Prop) (N:ah->Prop),0<=i->i<m->(∀b',φ (.out b')->b'=b)->(∀s' pf,ii (shape (i+1) s') pf->φ (.go s')->N pf)->Rn (body i s) φ->pw P c [.code bd] (vg P c N k Q) (ah.eU (shape i s)))(Va:∀i x,(ks.map λs=>(s,pf s))++v i x=shape i x:=by intro i x;simp[go_sem,g];rfl)(ha:ii (shape 0 s0) pf:=by simp[go_sem,g]):pw P c (.code (.loop bd)::k) Q pf:=
 zzQ shape hb ha last λi s φ N h1 h2 ho hg hF=>yf i s φ N h1 (by omega) ho hg hF
def zx(h0:0<=i)(h:i<n)(hn:n<=kK):IntKind.i64.wrap (i+1)=i+1:=Hi (by simp only[kK]at hn;omega)
def wl{α:Type}{φ:α->Prop}{x r:α}{A:Prop}(h:∀r',φ r'->r'=r)(hF:Rn (J x) φ)(k:x=r->A:=by intro e;cases e;refine wW ?_;simp[go_sem,g];first|done|fail):A:=k (h _ (aj hF))
def wm{α:Type}{φ:α->Prop}{x r:α}{A:Prop}(h:∀r',φ r'->r'=r)(hF:Rn (J x) φ)(k:x=r->A:=by intro e;cases e;simp[go_sem,g];first|done|fail):A:=k (h _ (aj hF))
def wV{H:Prop}{pf:ah}(hh:H)(h:∀pf,A pf->B->C pf)(b:B)(e:H->a0=C pf:=by intro h;(try (conv=>lhs;simp[go_sem,g,h]))<;>rfl)(a:H->A pf:=by intro h;simp[go_sem,g,h];first|done|fail):a0:=(e hh).mpr (h pf (a hh) b)
def wu{H I:Prop}(h:H)(i:I)(ht:pw P c (.code x::k) Q pf)(e:a=pw P c (.code (.cond b x y)::k) Q pf:=by(try (conv=>lhs;repeat rw[sq]))<;>rfl)(hb:H->I->cu pf b=J (.bool Z):=by intro h i;simp[go_sem,g,h,i];first|done|fail):a:=e.mpr (MF (hb h i) ht)
def wi{pf:ah}(h1:0<=i)(h2:i<n)(h:∀pf,A pf->B->C pf)(b:B)(e:a0=C pf:=by(try (conv=>lhs;simp[go_sem,g]))<;>rfl)(a:IntKind.i64.wrap (i+1)=i+1->A pf:=by intro h;simp[go_sem,g,h];first|done|fail)(hn:n<=kK:=by first|assumption|(simp;assumption)|(simp;omega)):a0:=e.mpr (h pf (a (zx h1 h2 hn)) b)
def wn{β:Type}{b b':β}{B:β->Prop}{pf:ah}(hN:b'=b)(h:∀pf,A pf->B b'->C pf)(hψ:B b)(k:C pf->a0:=by intro h;refine wW ?_;refine wf ?_;exact Eq.mpr (by(try (conv=>lhs;simp[go_sem,g]))<;>rfl) h)(a:A pf:=by simp[go_sem,g];first|done|fail):a0:=k (h pf a (hN▸hψ))
end
section
variable {P:Program}{c:aY}{k:List iO}{Q:Exit->ah->Prop}{pf:ah}
end
end Go.Pm
