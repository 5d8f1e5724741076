import Derived.Test.YtjnidpmkglobfaaGreatPmV
open Bool renaming false→Z,true→O
open Option renaming none→aa,some→J
set_option linter.defProp false
namespace Go.Pm
open Go.Am
def d0(i:Nat)(s:List Nat):DE:=⟨i,s,[],aa,Z,Z,Z⟩
def d1(i:Nat)(s:List Nat)(r:Nat):DE:=⟨i,s,[r],aa,Z,Z,Z⟩
def d2(i:Nat)(s:List Nat)(r m:Nat):DE:=⟨i,s,[r],J m,Z,Z,Z⟩
def d3(i:Nat)(s:List Nat):DE:=⟨i,s,[],aa,Z,O,O⟩
def NH:Option Tmp->List Nat
 |some d=>[d]
 |none=>[]
def kS(o:List Oper)(x:Oper):List Nat:=CJ x.op++match x.guard with
 |some (j,_)=>NH (o.getD j default).dst
 |none=>[]
def k0(i:Nat)(o:List Oper):DE:=⟨i,kS o (o.getD i default),[],aa,Z,Z,Z⟩
def k1(i r:Nat)(o:List Oper):DE:=⟨i,kS o (o.getD i default),[r],aa,Z,Z,Z⟩
def k2(i r:Nat)(o:List Oper):DE:=⟨i,kS o (o.getD i default),[r],(CJ (o.getD i default).op).head?,Z,Z,Z⟩
def k3(i:Nat)(o:List Oper):DE:=⟨i,kS o (o.getD i default),[],aa,Z,O,O⟩
def k4(b c d:Bool)(i:Nat)(o:List Oper):DE:=⟨i,kS o (o.getD i default),[],aa,b,c,d⟩
def kN(x i:Nat)(o:List Oper):DE:=if x%8=0 then k0 i o else if x%8=1 then k1 i (x/8) o else if x%8=2 then k2 i (x/8) o else if x%8=3 then k3 i o else k4 (x%8 !=4) (x%8 !=5) (x%8==6) i o
def kE:List Nat->List Nat->List (List Oper->DE)
 |i::e,x::h=>kN x i::kE e h
 |_,_=>[]
def kD:Nat->List Nat->List (List Oper->DE)
 |i,x::e=>kN x i::kD (i+1) e
 |_,[]=>[]
variable{i r x:Nat}{o:List Oper}{s:List Nat}
@[go_sem] def zTB{b c d:Bool}:k4 b c d i o=⟨i,kS o (o.getD i default),[],aa,b,c,d⟩:=(rfl)
@[go_sem] def zTy :kN x i o=if x%8=0 then k0 i o else if x%8=1 then k1 i (x/8) o else if x%8=2 then k2 i (x/8) o else if x%8=3 then k3 i o else k4 (x%8 !=4) (x%8 !=5) (x%8==6) i o:=(rfl)
@[go_sem] def zVr{e h:List Nat}:kE (i::e) (x::h)=kN x i::kE e h:=(rfl)
@[go_sem] def zVe:kE [] []=[]:=(rfl)
@[go_sem] def zVm{e:List Nat}:kD i (x::e)=kN x i::kD (i+1) e:=(rfl)
@[go_sem] def zU3 :kD i []=[]:=(rfl)
@[go_sem] def zSZ :k0 i o=⟨i,kS o (o.getD i default),[],aa,Z,Z,Z⟩:=(rfl)
@[go_sem] def zTm :k1 i r o=⟨i,kS o (o.getD i default),[r],aa,Z,Z,Z⟩:=(rfl)
@[go_sem] def zSM :k2 i r o=⟨i,kS o (o.getD i default),[r],(CJ (o.getD i default).op).head?,Z,Z,Z⟩:=(rfl)
@[go_sem] def zT0 :k3 i o=⟨i,kS o (o.getD i default),[],aa,Z,O,O⟩:=(rfl)
@[go_sem] def zVa{d:Option Tmp}{S:Op}{W:TypeId}{h:String}{e:Array Edge}:kS o ⟨d,S,W,h,e,aa⟩=CJ S:=by simp[kS]
@[go_sem] def zVt{d:Option Tmp}{S:Op}{W:TypeId}{h:String}{e:Array Edge}{j:Nat}{b:Bool}:kS o ⟨d,S,W,h,e,J (j,b)⟩=CJ S++NH (o.getD j default).dst:=(rfl)
@[go_sem] def zSv{d:Nat}:NH (J d)=[d]:=(rfl)
@[go_sem] def zUa:NH aa=[]:=(rfl)
@[go_sem] def zOs{o:Op}:CJ o=o.operands.toList.flatMap ec:=(rfl)
@[go_sem] def zSO{t:Tmp}:ec (.tmp t)=[t]:=(rfl)
@[go_sem] def zUd{v:Value}:ec (.const v)=[]:=(rfl)
@[go_sem] def zTX{f:FuncId}:ec (.func f)=[]:=(rfl)
@[go_sem] def zTL{f:Nat}:ec (.global f)=[]:=(rfl)
attribute [go_sem] Op.operands Call.operands
@[go_sem] def zSF :d0 i s=⟨i,s,[],aa,Z,Z,Z⟩:=(rfl)
@[go_sem] def zUf :d1 i s r=⟨i,s,[r],aa,Z,Z,Z⟩:=(rfl)
@[go_sem] def zUF{m:Nat}:d2 i s r m=⟨i,s,[r],J m,Z,Z,Z⟩:=(rfl)
@[go_sem] def zTP :d3 i s=⟨i,s,[],aa,Z,O,O⟩:=(rfl)
def Rn{h:Type}(e:Option h)(j:h->Prop):Prop:=∃a,e=J a/\j a
def mn{m p:Type}{e:Option m}{f:m->Option p}{q:p->Prop}(h:Rn (e.bind f) q):∃a,e=J a/\Rn (f a) q:=by
 obtain⟨b,j,t⟩:=h;rw[bT]at j;obtain⟨a,u,v⟩:=j;exact⟨a,u,b,v,t⟩
def ai{e:Type}{a:e}{j:e->Prop}(h:Rn (J a) j):j a:=by
 obtain⟨b,m,p⟩:=h;cases m;exact p
def ZJ{j:Type}{m:j->Prop}(h:Rn aa m):False:=by
 obtain⟨b,e,_⟩:=h;cases e
def gd{h:Type}(p:Prop)[Decidable p](e:Option h):Option h:=if p then e else aa
def yW{m:Type}{p:Prop}[Decidable p]{e:Option m}{q:m->Prop}(h:Rn (gd p e) q):p/\Rn e q:=by
 unfold gd at h;by_cases j:p
 ·rw[aE j]at h;exact⟨j,h⟩
 ·rw[aA j]at h;exact(ZJ h).elim
def Vb{j:Type}{v:Bool}{e p:Option j}{m:j->Prop}(h:Rn (if v=O then e else p) m)(q:v=O):Rn e m:=by rwa [aE q]at h
def VZ{m:Type}{v:Bool}{e j:Option m}{p:m->Prop}(h:Rn (if v=O then e else j) p)(q:v=Z):Rn j p:=by rwa [aA (by simp[q])]at h
def zAm{j:Type}{e:Option j}{m p:j->Prop}(h:Rn e m)(u:∀a,m a->p a):Rn e p:=by
 obtain⟨a,q,t⟩:=h;exact⟨a,q,u a t⟩
def ix{e:Type}(l:List e)(i:Int):Option e:=if 0<=i then l[i.toNat]? else aa
def PX{j:Type}{l:List j}{i:Int}{x:j}(h:ix l i=J x):0<=i/\i<l.length/\l[i.toNat]? =J x:=by
 unfold ix at h;by_cases e:0<=i
 ·rw[aE e]at h;have:=(cY.1 h).1;exact⟨e,by omega,h⟩
 ·rw[aA e]at h;cases h
def zCx{e:Type}{l:List e}{i:Int}{x:e}(h:ix l i=J x):∀h:i.toNat<l.length,l[i.toNat]'h=x:=λj=>by
 have:=(PX h).2.2;rw[cI j]at this;exact zt this
def zxM{e:Type}{l:List e}:ix l (i:Int)=l[i]? :=by simp[ix]
def PG{n:Int}(h: -9223372036854775808<=n/\n<=9223372036854775807):IntKind.i64.wrap n=n:=by rw[IntKind.wrap_i64];omega
inductive fi (σ β:Type) where
 |go (s:σ)
 |out (b:β)
def om{e h:Type}(step:e->Option (fi e h)):Nat->e->Option h
 |0,_=>aa
 |n+1,s=>(step s).bind λ
  | .go j=>om step n j
  | .out b=>J b
open Classical in
noncomputable def dO{σ β:Type}(step:σ->Option (fi σ β))(s:σ):Option β:=if h:∃b n,om step n s=J b then J h.choose else aa
def zrb{e p:Type}{step:e->Option (fi e p)}:∀{n m:Nat}{s:e}{b:p},om step n s=J b->n<=m->om step m s=J b:=by
 intro n;induction n with
 |zero=>intro m s b h;simp[om]at h
 |succ n ih=>
  intro m s b h q;cases m with
  |zero=>omega
  |succ m=>
   simp only[om]at h⊢;cases j:step s with
   |none=>rw[j]at h;exact h
   |some x=>
    rw[j]at h;cases x with
    |go t=>exact ih h (by omega)
    |out b=>exact h
def Nc{j q:Type}{step:j->Option (fi j q)}{s:j}{b:q}:dO step s=J b↔∃n,om step n s=J b:=by
 constructor
 ·intro h;unfold dO at h;split at h
  ·rename_i e;cases h;exact e.choose_spec
  ·cases h
 ·rintro⟨n,h⟩;have e:∃b n,om step n s=J b:=⟨b,n,h⟩
  unfold dO;rw[dif_pos e];obtain⟨m,u⟩:=e.choose_spec;have t:=zrb u (Nat.le_max_right n m);have p:=zrb h (Nat.le_max_left n m);rw[t]at p;exact p
theorem O2{m q:Type}{step:m->Option (fi m q)}{s:m}:dO step s=(step s).bind λ
 | .go j=>dO step j
 | .out b=>J b:=by
 apply Option.ext;intro b;rw[Nc];constructor
 ·rintro⟨n,h⟩;cases n with
  |zero=>simp[om]at h
  |succ n=>
   simp only[om]at h;cases e:step s with
   |none=>rw[e]at h;exact h
   |some x=>
    rw[e]at h;cases x with
    |go j=>exact Nc.2 ⟨n,h⟩
    |out b=>exact h
 ·intro h;cases e:step s with
  |none=>rw[e]at h;cases h
  |some x=>
   rw[e]at h;cases x with
   |go j=>
    obtain⟨n,p⟩:=Nc.1 (show dO step j=J b from h);exact⟨n+1,by simp only[om,e];exact p⟩
   |out t=>exact⟨1,by simp only[om,e];exact h⟩
open Classical in
noncomputable def zVP{e:Type}(f:Nat->Option e):Option e:=if h:∃b n,f n=J b then J h.choose else aa
def aO{σ β:Type}(e:Int->σ->Option (fi σ β))(stop:σ->β):Nat->Int->σ->Option β
 |0,_,s=>J (stop s)
 |k+1,i,s=>(e i s).bind λ
  | .go h=>aO e stop k (i+1) h
  | .out b=>J b
section
variable {P:Program}{c:aW}{k:List iG}{Q:Exit->ae->Prop}{Y:ae}
def wd(P:Program)(c:aW)(N:ae->Prop)(k:List iG)(Q:Exit->ae->Prop):Exit->ae->Prop
 | .normal,Y=>N Y
 |e,Y=>fU P c k Q e Y
variable{A C N:ae->Prop}{B G a U:Prop}{R:PV->List PV->Prop}{args:Array Operand}{X F:List (Md×PV)}{b f:Operand}{T E x y:Code}{L:aW}{d:Option Tmp}{M:Func}{g:FuncId}{i:Int}{id n:Nat}{l:List (Md×Nat×Operand)}{S:Op}{I:Bool}{K:ae}{s:ByteArray}{H:Array TypeId}{W:TypeId}
@[go_sem] theorem zE6 :wd P c N k Q .normal Y=N Y:=rfl
@[go_sem] theorem zI0 :wd P c N k Q (.exit id) Y=pwx P c id k Q Y:=rfl
@[go_sem] def zQw :wd P c N k Q .ret Y=Q .ret Y:=by
 show fU P c k Q .ret Y=_;rw[Vq]
def Zi{p t:Type}(shape:p->List (Nat×PF)){step:p->Option (fi p t)}{b:t}{q:p}(hb:dO step q=J b)(D:iw (shape q) Y)
(yx:∀s (u:fi p t->Prop) (N:ae->Prop),(∀m,u (.out m)->m=b)->(∀j Y,iw (shape j) Y->u (.go j)->N Y)->Rn (step s) u->pw P c [.code T] (wd P c N k Q) (ae.eZ (shape s))):pw P c (.code (.loop T)::k) Q Y:=by
 obtain⟨n,hn⟩:=Nc.1 hb;refine⟨n,?_⟩
 have key:∀n s Y,om step n s=J b->iw (shape s) Y->Ed (gG P c T) (fU P c k Q) n Y:=by
  intro n;induction n with
  |zero=>intro s Y h;simp[om]at h
  |succ n ih=>
   intro s Y h z;refine⟨ae.eZ (shape s),Mt z,?_⟩
   have hr:=yx s (λx=>match x with| .go j=>om step n j=J b| .out m=>m=b) (λY=>Ed (gG P c T) (fU P c k Q) n Y) (λm h=>h) (λj Y hp h=>ih j Y h hp) (by
    simp only[om]at h;rw[bT]at h;obtain⟨x,w,v⟩:=h;refine⟨x,w,?_⟩;cases x with
    |go j=>exact v
    |out m=>exact zt v)
   refine TP T ?_ hr;intro e pf' hq;cases e<;>exact hq
 exact key n q Y hn D
def zzg{t v:Type}(shape:Int->t->List (Nat×PF)){u:Int->t->Option (fi t v)}{stop:t->v}{m:Nat}{j:Int}{b:v}{s0:t}(hb:aO u stop m j s0=J b)(ha:iw (shape j s0) Y)
(last:∀s (N:ae->Prop),stop s=b->pw P c [.code T] (wd P c N k Q) (ae.eZ (shape (j+m) s)))
(yx:∀i s (φ:fi t v->Prop) (N:ae->Prop),j<=i->i<j+m->(∀q,φ (.out q)->q=b)->(∀p Y,iw (shape (i+1) p) Y->φ (.go p)->N Y)->Rn (u i s) φ->pw P c [.code T] (wd P c N k Q) (ae.eZ (shape i s))):pw P c (.code (.loop T)::k) Q Y:=by
 refine⟨m+1,?_⟩
 have key:∀n i s Y,aO u stop n i s=J b->j<=i->i+n=j+m->iw (shape i s) Y->Ed (gG P c T) (fU P c k Q) (n+1) Y:=by
  intro n;induction n with
  |zero=>
   intro i s Y h h0 hi w;refine⟨ae.eZ (shape i s),Mt w,?_⟩;have e:i=j+m:=by omega
   subst e;have D:=last s (λY=>Ed (gG P c T) (fU P c k Q) 0 Y) (by simpa[aO]using h);refine TP T ?_ D;intro e pf' z;cases e<;>exact z
  |succ n ih=>
   intro i s Y h h0 hi w;refine⟨ae.eZ (shape i s),Mt w,?_⟩
   have D:=yx i s (λx=>match x with| .go p=>aO u stop n (i+1) p=J b| .out q=>q=b) (λY=>Ed (gG P c T) (fU P c k Q) (n+1) Y) h0 (by omega) (λq h=>h)
    (λp Y hp h=>ih (i+1) p Y h (by omega) (by omega) hp) (by
    simp only[aO]at h;rw[bT]at h;obtain⟨x,h1,h2⟩:=h;refine⟨x,h1,?_⟩;cases x with
    |go p=>exact h2
    |out q=>exact zt h2)
   refine TP T ?_ D;intro e pf' z;cases e<;>exact z
 exact key m j s0 Y hb (by omega) (by omega) ha
def sS(e:List Md)(l:List (Md×Nat×Operand))(f:Operand)(Y:ae):Option (FuncId×List (Md×PV)×Bool×ae×Nat):=
 (oR Y l).bind λy=>(p9 y.2 f).bind λg=>(eY y.2 l y.1).map λX=>(g.1,g.2.1.map (λx=>(Md.sh,x))++X++g.2.2.map (λx=>(Md.sh,x)),l.any (te y.2),y.2,g.2.1.length)
def zyy(e:List Md){x:Option (FuncId×List (Md×PV)×Bool×ae×Nat)}
(D:e.length=args.toList.length)(z:e.zip (iM P args.toList H.toList)=l)(m:sS e l f Y=x)(l7:x=J (g,X,I,K,n))(h:aq P g F R)(has:X=F)
(w:∀r p,R r p->(I=Z\/(cV r&&p.all cV)=O)/\qv P c L ((back L.nt K l (p.drop n)).map λpx1=>(.v r,px1)) d k Q):pw1 P c L W (.call ⟨.value f,args,H⟩) d k Q Y:=by
 subst has;rw[l7]at m;simp only[sS,bT,bL]at m;obtain⟨y,q,j,t,as0,u,v⟩:=m;cases v;exact zAM e D z q (show p9 y.2 f=J (j.1,j.2.1,j.2.2)from t) u rfl h w
def zwQ{x:Option (FuncId×List (Md×PV)×Bool×ae×Nat)}
(z:(List.replicate args.toList.length Md.sh).zip (iM P args.toList H.toList)=l)(j:sS (List.replicate args.toList.length Md.sh) l f Y=x)(D:x=J (g,X,I,K,n))(h:aq P g F R)(has:X=F)
(w:∀r m,R r m->(I=Z\/(cV r&&m.all cV)=O)/\qv P c c ((back c.nt K l (m.drop n)).map λp=>(.v r,p)) d k Q):r9 P c O W (.call ⟨.value f,args,H⟩) d k Q Y:=by
 subst has;rw[D]at j;simp only[sS,bT,bL]at j;obtain⟨y,q,e,t,as0,u,v⟩:=j;cases v;exact zy7 z q (show p9 y.2 f=J (e.1,e.2.1,e.2.2)from t) u rfl h w
def zrZ{h m:Type}{e:Option h}{f:h->Option m}{j:m->Prop}{i:iG}(l:h->List (Nat×PF))(u:Rn (e.bind f) j)(D:∀x,Rn (f x) j->pw P c (.code y::k) Q (ae.eZ (l x)))
(w:∀p:h->Prop,(∀x Y,iw (l x) Y->p x->pw P c (.wk y::k) Q Y)->Rn e p->pw P c (i::.wk y::k) Q Y):pw P c (i::.wk y::k) Q Y:=by
 obtain⟨a,q,t⟩:=mn u;exact w (λa=>Rn (f a) j) (λx _ v z=>LF (l x) v (D x z)) ⟨a,q,t⟩
def zth{j m:Type}{e:Option (j ⊕ m)}{f:j->Option m}{p:m->Prop}{i:iG}(l:j->List (Nat×PF))(v:Rn (e.bind (Sum.elim f J)) p)(hr:∀x,Rn (f x) p->pw P c (.code y::k) Q (ae.eZ (l x)))
(z:∀q:j ⊕ m->Prop,(∀x Y,iw (l x) Y->q (.inl x)->pw P c (.wk y::k) Q Y)->(∀r,q (.inr r)->p r)->Rn e q->pw P c (i::.wk y::k) Q Y):pw P c (i::.wk y::k) Q Y:=by
 obtain⟨a,t,u⟩:=mn v;exact z (λa=>Rn (Sum.elim f J a) p) (λx _ w D=>LF (l x) w (hr x D)) (λr h=>ai h) ⟨a,t,u⟩
def zok{j:Type}{f:FuncId}{m:Option j}{r:j}{R:j->PV->List PV->Prop}(p q:List Nat)(u:m=J r)(w:aC P f)(z:P.funcs[f]? =J M)(v:M.body=J E)(D:X.length<=M.ntmps)
(h:∀t:j->Prop,(∀e,t e->e=r)->Rn m t->pw P ⟨M.ntmps,j9 0 X,p,q⟩ [.code E] (uc P M.results.toList X (R r)) (sR X)):aq P f X (R r):=
 zue p q w z v D (h (λe=>e=r) (λ_ h=>h) ⟨r,u,rfl⟩)
def Eo(x:PV)(l:List PV):PV->List PV->Prop:=λo e=>o=x/\e=l
def Ef(x:PV)(l:List PV):PV->List PV->Prop:=λo e=>drop o=x/\e=l
@[go_sem,reducible] def cM:List PV:=[.az,.az]
@[go_sem,reducible] def gJ:List PV:=[.az,.az,.az]
@[go_sem,reducible] def jY:List PV:=[.az,.az,.az,.az]
@[go_sem,reducible] def sU:List PV:=[.az,.az,.az,.az,.az]
@[go_sem,reducible] def qr:List PV:=[.az,.az,.az,.az,.az,.az]
@[go_sem,reducible] def M0:List PV:=[.az,.az,.az,.az,.az,.az,.az]
@[go_sem,reducible] def zQZ:List PV:=[.az,.az,.az,.az,.az,.az,.az,.az]
@[go_sem,reducible] def zSf:List PV:=[.az,.az,.az,.az,.az,.az,.az,.az,.az]
@[go_sem] theorem zSS{x o:PV}{l e:List PV}:Ef x l o e=(drop o=x/\e=l):=rfl
@[go_sem] theorem zUD{x o:PV}{l e:List PV}:Eo x l o e=(o=x/\e=l):=rfl
@[go_sem ↓] theorem zR0{e:List (List PV)}:uQ P c L (J e) d k Q Y=(e.length<=kA->qv P c L (J (.v (.int .i64 e.length),Y)) d k Q):=rfl
def zwa(e:List Nat):iw (e.map λs=>(s,Y s)) Y:=by
 induction e with
 |nil=>trivial
 |cons s e ih=>exact⟨rfl,ih⟩
def zCl(e:List Nat){l:List (Nat×PF)}(h:(e.map λs=>(s,Y s))=l)(j:pw P c (.code x::k) Q (ae.eZ l)):pw P c (.wk x::k) Q Y:=by
 subst h;exact LF _ (zwa e) j
def zGp{q:Type}{v:Bool}{e m:Option q}{j:q->Prop}(p:Rn (if v=O then e else m) j)(t:cr Y b=J (.bool v))(w:v=O->Rn e j->pw P c (.code x::k) Q Y)(u:v=Z->Rn m j->pw P c (.code y::k) Q Y):
 pw P c (.code (.cond b x y)::k) Q Y:=RH t (λh=>w h (Vb p h)) λh=>u h (VZ p h)
def zHf{q:Type}{y b:Bool}{e m:Option q}{j:q->Prop}(p:Rn (if y=O then e else m) j)(t:y=O->Rn e j->pwg P c (J (J O)) b W S d k Q Y)(u:y=Z->Rn m j->pwg P c (J (J Z)) b W S d k Q Y):pwg P c (J (J y)) b W S d k Q Y:=
 zxv (λh=>t h (Vb p h)) λh=>u h (VZ p h)
def zBL{q:Type}{y b ext:Bool}{e m:Option q}{j:q->Prop}(p:Rn (if y=O then e else m) j)(t:y=O->Rn e j->jG P c (J (J O)) b ext W S d k Q Y)(u:y=Z->Rn m j->jG P c (J (J Z)) b ext W S d k Q Y):jG P c (J (J y)) b ext W S d k Q Y:=
 zwj (λh=>t h (Vb p h)) λh=>u h (VZ p h)
def zzW{m u:Type}{e:Option m}{t:m->Option u}{v:u->Prop}(w:Rn (e.bind t) v)(j:List Md){x:Option (FuncId×List (Md×PV)×Bool×ae×Nat)}{q:m->PV}{p:m->List PV}
(h:∀{r},e=J r->aq P g F (Eo (q r) (p r)))(hm:j.length=args.toList.length)(hl:j.zip (iM P args.toList H.toList)=l)(hx:sS j l f Y=x)(l7:x=J (g,X,I,K,n))(has:X=F)
(hk:∀z,Rn (t z) v->(I=Z\/(cV (q z)&&(p z).all cV)=O)/\qv P c L ((back L.nt K l ((p z).drop n)).map λpx1=>(.v (q z),px1)) d k Q):pw1 P c L W (.call ⟨.value f,args,H⟩) d k Q Y:=by
 obtain⟨a,D,hr⟩:=mn w;refine zyy j hm hl hx l7 (h D) has λr outs ho=>?_
 obtain⟨rfl,rfl⟩:=ho;exact hk a hr
def zDp{j t:Type}{e:Option j}{q:j->Option t}{u:t->Prop}(v:Rn (e.bind q) u){x:Option (FuncId×List (Md×PV)×Bool×ae×Nat)}{p:j->PV}{m:j->List PV}
(h:∀{r},e=J r->aq P g F (Eo (p r) (m r)))(hl:(List.replicate args.toList.length Md.sh).zip (iM P args.toList H.toList)=l)(hx:sS (List.replicate args.toList.length Md.sh) l f Y=x)(l7:x=J (g,X,I,K,n))(has:X=F)
(D:∀z,Rn (q z) u->(I=Z\/(cV (p z)&&(m z).all cV)=O)/\qv P c c ((back c.nt K l ((m z).drop n)).map λpx1=>(.v (p z),px1)) d k Q):r9 P c O W (.call ⟨.value f,args,H⟩) d k Q Y:=by
 obtain⟨a,w,hr⟩:=mn v;refine zwQ hl hx l7 (h w) has λr outs ho=>?_
 obtain⟨rfl,rfl⟩:=ho;exact D a hr
def Un{j m:Type}{l:List j}{f:j->Option m}{p:m->Prop}(t:Rn ((ix l i).bind f) p):∃x,(0<=i/\i<l.length/\l[i.toNat]? =J x/\∀h:i.toNat<l.length,l[i.toNat]'h=x)/\Rn (f x) p:=by
 obtain⟨x,e,q⟩:=mn t;exact⟨x,⟨(PX e).1,(PX e).2.1,(PX e).2.2,zCx e⟩,q⟩
def zB2{j m:Type}{l:List j}(n:Nat)(z:i=n){f:j->Option m}{p:m->Prop}(w:Rn ((ix l i).bind f) p):∃x,(0<=i/\i<l.length/\n<l.length/\l[n]? =J x/\∀h:n<l.length,l[n]'h=x)/\Rn (f x) p:=by
 subst z;obtain⟨x,⟨q,t,e,u⟩,v⟩:=Un w;rw[dT]at e;exact⟨x,⟨q,t,by omega,e,λh=>by have:=u (by simpa using h);simpa using this⟩,v⟩
def yA(s:ByteArray)(i:Int):Option Int:=if 0<=i then(s[i.toNat]?).map λb=>(b.toNat:Int)else aa
def Ua{x:Int}(h:yA s i=J x):0<=i/\i<s.size/\((s[i.toNat]?).map λb=>(b.toNat:Int))=J x:=by
 unfold yA at h;by_cases m:0<=i
 ·rw[aE m]at h;cases e:s[i.toNat]? with
  |none=>rw[e]at h;cases h
  |some b=>
   have:i.toNat<s.size:=by
    rcases dS i.toNat s.size with j|j
    ·exact j
    ·rw[getElem?_neg s i.toNat (by simpa using j)]at e;cases e
   rw[e]at h;exact⟨m,by omega,h⟩
 ·rw[aA m]at h;cases h
def zA0{P:Program}{t:TypeId}{j:IntKind}{x:Int}(q:eS P t=O)(h:yA s i=J x):yg P t (.string s) (.int j i)=J (.int .u8 x):=by
 obtain⟨p,_,e⟩:=Ua h;simp only[yg,q,p,and_self,e7];cases m:s[i.toNat]? with
 |none=>rw[m]at e;cases e
 |some b=>rw[m]at e;simpa using e
def zB6{h:Type}{f:Int->Option h}{m:h->Prop}(q:Rn ((yA s i).bind f) m):∃x,(0<=i/\i<s.size/\∀(P:Program) (t:TypeId) (j:IntKind),eS P t=O->yg P t (.string s) (.int j i)=J (.int .u8 x))/\Rn (f x) m:=by
 obtain⟨x,e,p⟩:=mn q;exact⟨x,⟨(Ua e).1,(Ua e).2.1,λ_ _ _ u=>zA0 u e⟩,p⟩
def ZH{j:Type}{b:Int}{e:Option j}{m:j->Prop}(h:Rn (gd (b≠0) e) m):(b≠0/\∀x,xz b x=J x)/\Rn e m:=⟨⟨(yW h).1,λ_=>Q5 (yW h).1⟩,(yW h).2⟩
def SK{e:Type}{f:FuncId}{p:Option e}{r:e}{m:e->PV}{j:e->List PV}(h:Nat)(u q t:List Nat)(w:List ResultVar)(hF:p=J r)(hc:aC P f)(hf:P.funcs[f]? =J M)(hb:M.body=J E)(D:M.ntmps=h)(jf:M.results.toList=w)(hl:X.length<=h/\j9 0 X=u)
(hx3:∀z:e->Prop,(∀v,z v->v=r)->Rn p z->pw P ⟨h,u,q,t⟩ [.code E] (uc P w X (Eo (m r) (j r))) (sR X)):aq P f X (Eo (m r) (j r)):=by
 obtain⟨hlen,rfl⟩:=hl;subst D;subst jf;exact zok (R:=λr=>Eo (m r) (j r)) q t hF hc hf hb hlen hx3
def pF{e:Type}{f:FuncId}{q:Option e}{r:e}{z:e->PV}{v:e->List PV}(h:Nat)(m t u:List Nat)(p:List ResultVar)(hF:q=J r)(hc:aC P f)(hf:P.funcs[f]? =J M)
(hx3:∀j:e->Prop,(∀w,j w->w=r)->Rn q j->True->pw P ⟨h,m,t,u⟩ [.code E] (uc P p X (Eo (z r) (v r))) (sR X))(hb:M.body=J E:=by rfl)(D:M.ntmps=h:=by rfl)(jf:M.results.toList=p:=by rfl)(hl:X.length<=h/\j9 0 X=m:=by exact⟨by simp,rfl⟩):aq P f X (Eo (z r) (v r)):=
 SK h m t u p hF hc hf hb D jf hl λj h1 h2=>hx3 j h1 h2 trivial
def pL{e h:Type}{step:e->Option (fi e h)}{b:h}{q:e}(u:dO step q=J b)(shape:e->List (Nat×PF))
(v:∀s (j:fi e h->Prop) (N:ae->Prop),(∀m,j (.out m)->m=b)->(∀p Y,iw (shape p) Y->j (.go p)->N Y)->Rn (step s) j->pw P c [.code T] (wd P c N k Q) (ae.eZ (shape s)))(t:iw (shape q) Y:=by simp[go_sem,g]):pw P c (.code (.loop T)::k) Q Y:=Zi shape u t v
def Rx(g:G){e j:Type}{l:List e}{f:e->Option j}{m:j->Prop}(t:Rn ((ix l i).bind f) m):∃x,(G/\0<=i/\i<l.length/\l[i.toNat]? =J x/\∀h:i.toNat<l.length,l[i.toNat]'h=x)/\Rn (f x) m:=
 let⟨x,p,q⟩:=Un t;⟨x,⟨g,p⟩,q⟩
def hO(g:G){e j:Type}{l:List e}(n:Nat){f:e->Option j}{m:j->Prop}(t:Rn ((ix l i).bind f) m)(u:i=n:=by rfl):∃x,(G/\0<=i/\i<l.length/\n<l.length/\l[n]? =J x/\∀h:n<l.length,l[n]'h=x)/\Rn (f x) m:=
 let⟨x,p,q⟩:=zB2 n u t;⟨x,⟨g,p⟩,q⟩
def gP(g:G){e m:Type}{l:List e}{f:e->Option m}{p:m->Prop}{q:e->Prop}(u:Rn ((ix l i).bind f) p)(h:∀x,l[i.toNat]? =J x->q x:=by intro x w;first|(simp[go_sem]at w;exact w)|exact w):∃x,((G/\0<=i/\i<l.length/\l[i.toNat]? =J x/\∀h:i.toNat<l.length,l[i.toNat]'h=x)/\q x)/\Rn (f x) p:=
 let⟨x,j,t⟩:=Un u;⟨x,⟨⟨g,j⟩,h x j.2.2.1⟩,t⟩
def Rxs(g:G){m:Type}{f:Int->Option m}{p:m->Prop}{q:Int->Prop}(v:Rn ((yA s i).bind f) p)(h:∀x,(∀(P:Program) (t:TypeId) (j:IntKind),eS P t=O->yg P t (.string s) (.int j i)=J (.int .u8 x))->q x:=by intro x w;first|(simp[go_sem]at w;exact w)|exact w):∃x,((G/\0<=i/\i<s.size/\∀(P:Program) (t:TypeId) (j:IntKind),eS P t=O->yg P t (.string s) (.int j i)=J (.int .u8 x))/\q x)/\Rn (f x) p:=
 let⟨x,e,u⟩:=zB6 v;⟨x,⟨⟨g,e⟩,h x e.2.2⟩,u⟩
def Rg{p q:Prop}[Decidable p](g:G){m:Type}{e:Option m}{t:m->Prop}(j:Rn (gd p e) t)(h:p->q:=by intro w;first|(simp at w;exact w)|exact w):((G/\p)/\q)/\Rn e t:=
 ⟨⟨⟨g,(yW j).1⟩,h (yW j).1⟩,(yW j).2⟩
def Rz(g:G){j:Type}{b:Int}{e:Option j}{m:j->Prop}(h:Rn (gd (b≠0) e) m):(G/\b≠0/\∀x,xz b x=J x)/\Rn e m:=⟨⟨g,(ZH h).1⟩,(ZH h).2⟩
def Ld(g:G)(b:Int)(h:b≠0:=by decide):G/\∀x,xz b x=J x:=⟨g,λ_=>Q5 h⟩
def Ls(g:G)(b:Int)(h:0<=b:=by decide):G/\∀x,DF b x=J x:=⟨g,λ_=>zAS h⟩
@[go_sem] def zDK{e h:Type}{f:e->h}{l:List e}{m k:Nat}:(List.take m (List.map f l))[k]? =((List.take m l)[k]?).map f:=by rw[<-List.map_take,Ex]
@[go_sem] def zDe{e h:Type}{f:e->h}{l:List e}:List.take l.length (List.map f l)=List.map f l:=Mm (by simp)
def aq.nY{f:FuncId}{m:PV->List PV->Prop}(h:aq P f X R)(hr:∀r e,R r e->m (drop r) e):aq P f X m:=by
 refine⟨h.1,λt vs z D h3=>(h.2 t vs z D h3).mono λrv H' ⟨r,e,u,a,b,c⟩=>⟨drop r,e,u.fz (X.length,[]),hr r e a,b,?_⟩⟩;refine⟨⟨c.ok.wf,λid v=>?_⟩,c.since.trans EP,(c.r.freeze qD OW).up,c.len,λk y vx1 q hv=>?_⟩
 ·obtain⟨p,w⟩:=c.ok.fresh id v;refine⟨p,?_⟩;rintro(j|⟨r',j⟩)
  ·exact w j
  ·rw[p]at j;cases j
 ·have hk:k<X.length:=by
   have:=(cY.1 q).1;rw[c.len]at this;exact this
  exact(c.o k y vx1 q hv).move qD (zD (by show k≠X.length;omega))
def KX{e:Type}{f:FuncId}{q:Option e}{r:e}{p:e->PV}{m:e->List PV}(j:Nat)(v t u:List Nat)(z:List ResultVar)(hF:q=J r)(hc:aC P f)(hf:P.funcs[f]? =J M)
(hx3:∀h:e->Prop,(∀w,h w->w=r)->Rn q h->True->pw P ⟨j,v,t,u⟩ [.code E] (uc P z X (Ef (p r) (m r))) (sR X))(hb:M.body=J E:=by rfl)(D:M.ntmps=j:=by rfl)(jf:M.results.toList=z:=by rfl)(hl:X.length<=j/\j9 0 X=v:=by exact⟨by simp,rfl⟩):aq P f X (Eo (p r) (m r)):=by
 obtain⟨hlen,rfl⟩:=hl;subst D;subst jf;exact(zok (R:=λr=>Ef (p r) (m r)) t u hF hc hf hb hlen λh h1 h2=>hx3 h h1 h2 trivial).nY λo os ho=>ho
def sq :pw P c (.code (.seq x y)::k) Q Y=pw P c (.code x::.wk y::k) Q Y:=T5
def wW(h:pw P c (.code x::k) Q Y)(e:a=pw P c (.wk x::k) Q Y:=by(try (conv=>lhs;simp[go_sem,g]))<;>rfl):a:=e.mpr (ba h)
def wK(j:List Nat){l:List (Nat×PF)}(m:pw P c (.code x::k) Q (ae.eZ l))(e:a=pw P c (.wk x::k) Q Y:=by(try (conv=>lhs;simp[go_sem,g]))<;>rfl)(h:(j.map λs=>(s,Y s))=l:=by simp[go_sem,g];rfl):a:=e.mpr (zCl j h m)
def wC{m u:Type}{e:Option m}{t:m->Option u}{v:u->Prop}(D:Rn (e.bind t) v)(j:List Md){x:Option (FuncId×List (Md×PV)×Bool×ae×Nat)}{q:m->PV}{p:m->List PV}
(h:∀{r},e=J r->aq P g F (Eo (q r) (p r)))(hk:∀z,Rn (t z) v->qv P c L ((back L.nt K l ((p z).drop n)).map λpx1=>(.v (q z),px1)) d k Q)(w:U=pw1 P c L W (.call ⟨.value f,args,H⟩) d k Q Y:=by(try (conv=>lhs;simp[go_sem,g]))<;>rfl)(hm:j.length=args.toList.length:=by rfl)(hl:j.zip (iM P args.toList H.toList)=l:=by rfl)(hx:sS j l f Y=x:=by(try simp[go_sem,sS,g]);first|rfl|done)(l7:x=J (g,X,I,K,n):=by rfl)(has:X=F:=by(try simp[go_sem,g]);first|rfl|done)
(ho:∀z,(I=Z\/(cV (q z)&&(p z).all cV)=O):=by intro z;simp[go_sem]):U:=
 w.mpr (zzW D j h hm hl hx l7 has λz hz=>⟨ho z,hk z hz⟩)
def wE{j t:Type}{e:Option j}{q:j->Option t}{u:t->Prop}(w:Rn (e.bind q) u){x:Option (FuncId×List (Md×PV)×Bool×ae×Nat)}{p:j->PV}{m:j->List PV}
(h:∀{r},e=J r->aq P g F (Eo (p r) (m r)))(D:∀z,Rn (q z) u->qv P c L ((back L.nt K l ((m z).drop n)).map λpx1=>(.v (p z),px1)) d k Q)(v:U=pw1 P c L W (.call ⟨.value f,args,H⟩) d k Q Y:=by(try (conv=>lhs;simp[go_sem,g]))<;>rfl)(hl:(List.replicate args.toList.length Md.sh).zip (iM P args.toList H.toList)=l:=by rfl)(hx:sS (List.replicate args.toList.length Md.sh) l f Y=x:=by(try simp[go_sem,sS,g]);first|rfl|done)(l7:x=J (g,X,I,K,n):=by rfl)(has:X=F:=by(try simp[go_sem,g]);first|rfl|done)
(ho:∀z,(I=Z\/(cV (p z)&&(m z).all cV)=O):=by intro z;simp[go_sem];first|done|fail):U:=
 v.mpr (zzW w (List.replicate args.toList.length Md.sh) h a5M hl hx l7 has λz hz=>⟨ho z,D z hz⟩)
def wD{j t:Type}{e:Option j}{q:j->Option t}{u:t->Prop}(w:Rn (e.bind q) u){x:Option (FuncId×List (Md×PV)×Bool×ae×Nat)}{p:j->PV}{m:j->List PV}
(h:∀{r},e=J r->aq P g F (Eo (p r) (m r)))(D:∀z,Rn (q z) u->qv P c c ((back c.nt K l ((m z).drop n)).map λpx1=>(.v (p z),px1)) d k Q)(v:U=r9 P c O W (.call ⟨.value f,args,H⟩) d k Q Y:=by(try (conv=>lhs;simp[go_sem,g]))<;>rfl)(hl:(List.replicate args.toList.length Md.sh).zip (iM P args.toList H.toList)=l:=by rfl)(hx:sS (List.replicate args.toList.length Md.sh) l f Y=x:=by(try simp[go_sem,sS,g]);first|rfl|done)(l7:x=J (g,X,I,K,n):=by rfl)(has:X=F:=by(try simp[go_sem,g]);first|rfl|done)
(ho:∀z,(I=Z\/(cV (p z)&&(m z).all cV)=O):=by intro z;simp[go_sem];first|done|fail):U:=
 v.mpr (zDp w h hl hx l7 has λz hz=>⟨ho z,D z hz⟩)
def VG(h:List Md)(l:List (Md×Nat×Operand))(e:List PV)(Y:ae):Option (List (Md×PV)×Bool×ae):=
 (oR Y l).bind λy=>(eY y.2 l y.1).map λX=>(X++e.map (λx=>(Md.sh,x)),l.any (te y.2),y.2)
def wY{j v:Type}{e:Option j}{u:j->Option v}{w:v->Prop}(hF:Rn (e.bind u) w)(h:List Md){s:Nat}{t:List PV}{x:Option (List (Md×PV)×Bool×ae)}{q:j->PV}{p:j->List PV}
(hx3:∀{r},e=J r->aq P g F (Eo (q r) (p r)))(hk:∀z,Rn (u z) w->qv P c L ((back L.nt K l (p z)).map λpx1=>(.v (q z),px1)) d k Q){y:Option (Nat×FuncId×List PV)}(eq:U=pw1 P c L W (.call ⟨.value f,args,H⟩) d k Q Y:=by(try (conv=>lhs;simp[go_sem,g]))<;>rfl)(hm:h.length=args.toList.length:=by rfl)
(hy:wA Y f=y:=by(try simp[go_sem,g]);first|rfl|done)(iR:y=J (s,g,t):=by rfl)(hl:h.zip (iM P args.toList H.toList)++[(.io,0,.tmp s)]=l:=by rfl)(m:VG h l t Y=x:=by(try simp[go_sem,VG,g]);first|rfl|done)(l7:x=J (X,I,K):=by rfl)
(D:wA K f=J (s,g,t):=by simp[go_sem,g])(has:X=F:=by(try simp[go_sem,g]);first|rfl|done)(ho:∀z,(I=Z\/(cV (q z)&&(p z).all cV)=O):=by intro z;simp[go_sem]):U:=by
 obtain⟨a,ha,hr⟩:=mn hF;rw[eq];subst has;rw[l7]at m;simp only[VG,bT,bL]at m;obtain⟨y0,h1,as0,h3,h4⟩:=m;cases h4;refine zzh h hm (hy.trans iR) hl h1 D h3 rfl (hx3 ha) λr outs hh=>?_
 obtain⟨rfl,rfl⟩:=hh;exact⟨ho a,hk a hr⟩
def wI{m:Type}{v:Bool}{e j:Option m}{h:m->Prop}(q:Rn (if v=O then e else j) h)(w:v=O->Rn e h->pw P c (.code x::k) Q Y)(u:v=Z->Rn j h->pw P c (.code y::k) Q Y)(p:a=pw P c (.code (.cond b x y)::k) Q Y:=by(try (conv=>lhs;repeat rw[sq]))<;>rfl)(t:cr Y b=J (.bool v):=by simp[go_sem,g];first|done|fail):a:=p.mpr (zGp q t w u)
def wB{b:Code}(h:pw P c (.code b::.bn id::k) Q Y)(e:a=pw P c (.code (.block id b)::k) Q Y:=by(try (conv=>lhs;repeat rw[sq]))<;>rfl):a:=e.mpr (a3g.mpr h)
def wZ{j:Array Oper}(D:List (List Oper->DE)){m:List (DE×Oper)}(p:P.follows .mixedOrders=O)(h:pw P c (.iE (j.toList.map (·.dst)) m::k) Q Y)(e:a=pw P c (.code (.region id j O)::k) Q Y:=by(try (conv=>lhs;repeat rw[sq]))<;>rfl)(q:KG (D.map λf=>f j.toList) j.toList=O:=by kernel_rfl)(t:(D.map λf=>f j.toList).map (λx=>(x,j.toList.getD x.i default))=m:=by rfl):a:=e.mpr (zBc _ p q t h)
def wt(h:pw P c (.code x::k) Q Y)(e:a=pw P c (.code (.cond b x y)::k) Q Y:=by(try (conv=>lhs;repeat rw[sq]))<;>rfl)(hb:cr Y b=J (.bool O):=by simp[go_sem,g]):a:=e.mpr (Pd hb h)
def wf(j:pw P c (.code y::k) Q Y)(e:a=pw P c (.code (.cond b x y)::k) Q Y:=by(try (conv=>lhs;repeat rw[sq]))<;>rfl)(h:cr Y b=J (.bool Z):=by simp[go_sem,g]):a:=e.mpr (V0 h j)
def wT{Y:ae}(h:∀Y,A Y->B->C Y)(b:B)(e:U=C Y:=by(try (conv=>lhs;simp[go_sem,g]))<;>rfl)(a:A Y:=by simp[go_sem,g];first|done|fail):U:=e.mpr (h Y a b)
def wG{p:Type}{y h b:Bool}{e m:Option p}{j:p->Prop}(v:Rn (if y=O then e else m) j)(t:h=O->Rn e j->pwg P c (J (J O)) b W S d k Q Y)(u:h=Z->Rn m j->pwg P c (J (J Z)) b W S d k Q Y)(q:a=pwg P c (J (J h)) b W S d k Q Y:=by(try (conv=>lhs;simp[go_sem,g]))<;>rfl)(w:h=y:=by first|rfl|(simp;done)|fail):a:=q.mpr (by subst w;exact zHf v t u)
def wH{p:Type}{y h b ext:Bool}{e m:Option p}{j:p->Prop}(v:Rn (if y=O then e else m) j)(t:h=O->Rn e j->jG P c (J (J O)) b ext W S d k Q Y)(u:h=Z->Rn m j->jG P c (J (J Z)) b ext W S d k Q Y)(q:a=jG P c (J (J h)) b ext W S d k Q Y:=by(try (conv=>lhs;simp[go_sem,g]))<;>rfl)(w:h=y:=by first|rfl|(simp;done)|fail):a:=q.mpr (by subst w;exact zBL v t u)
def wJ{h j:Type}{e:Option h}{f:h->Option j}{m:j->Prop}{i:iG}(t:Rn (e.bind f) m)(l:h->List (Nat×PF))(v:∀x,Rn (f x) m->pw P c (.code y::k) Q (ae.eZ (l x)))
(u:∀p:h->Prop,(∀x Y,iw (l x) Y->p x->pw P c (.wk y::k) Q Y)->Rn e p->pw P c (i::.wk y::k) Q Y)(q:U=pw P c (i::.wk y::k) Q Y:=by(try (conv=>lhs;repeat rw[sq]))<;>rfl):U:=q.mpr (zrZ l t v u)
def wS{h j:Type}{e:Option (h ⊕ j)}{f:h->Option j}{m:j->Prop}{i:iG}(t:Rn (e.bind (Sum.elim f J)) m)(l:h->List (Nat×PF))(v:∀x,Rn (f x) m->pw P c (.code y::k) Q (ae.eZ (l x)))
(u:∀p:h ⊕ j->Prop,(∀x Y,iw (l x) Y->p (.inl x)->pw P c (.wk y::k) Q Y)->(∀r,p (.inr r)->m r)->Rn e p->pw P c (i::.wk y::k) Q Y)(q:U=pw P c (i::.wk y::k) Q Y:=by(try (conv=>lhs;repeat rw[sq]))<;>rfl):U:=q.mpr (zth l t v u)
def bE{h j:Type}{e:Option h}{f:h->Option j}{m:j->Prop}{i:iG}(t:Rn (e.bind f) m)(z:List Nat)(v:h->List (Nat×PF)){l:h->List (Nat×PF)}(w:∀x,Rn (f x) m->pw P c (.code y::k) Q (ae.eZ (l x)))
(u:∀p:h->Prop,(∀x Y,iw (l x) Y->p x->pw P c (.wk y::k) Q Y)->Rn e p->pw P c (i::.wk y::k) Q Y)(q:U=pw P c (i::.wk y::k) Q Y:=by(try (conv=>lhs;repeat rw[sq]))<;>rfl)(D:∀x,(z.map λs=>(s,Y s))++v x=l x:=by intro x;simp[go_sem,g];rfl):U:=q.mpr (zrZ l t w u)
def Z6{h j:Type}{e:Option (h ⊕ j)}{f:h->Option j}{m:j->Prop}{i:iG}(t:Rn (e.bind (Sum.elim f J)) m)(z:List Nat)(v:h->List (Nat×PF)){l:h->List (Nat×PF)}(w:∀x,Rn (f x) m->pw P c (.code y::k) Q (ae.eZ (l x)))
(u:∀p:h ⊕ j->Prop,(∀x Y,iw (l x) Y->p (.inl x)->pw P c (.wk y::k) Q Y)->(∀r,p (.inr r)->m r)->Rn e p->pw P c (i::.wk y::k) Q Y)(q:U=pw P c (i::.wk y::k) Q Y:=by(try (conv=>lhs;repeat rw[sq]))<;>rfl)(D:∀x,(z.map λs=>(s,Y s))++v x=l x:=by intro x;simp[go_sem,g];rfl):U:=q.mpr (zth l t w u)
def ka{e h:Type}{step:e->Option (fi e h)}{b:h}{q:e}(u:dO step q=J b)(w:List Nat)(v:e->List (Nat×PF)){shape:e->List (Nat×PF)}
(z:∀s (j:fi e h->Prop) (N:ae->Prop),(∀m,j (.out m)->m=b)->(∀p Y,iw (shape p) Y->j (.go p)->N Y)->Rn (step s) j->pw P c [.code T] (wd P c N k Q) (ae.eZ (shape s)))(D:∀x,(w.map λs=>(s,Y s))++v x=shape x:=by intro x;simp[go_sem,g];rfl)(t:iw (shape q) Y:=by simp[go_sem,g]):pw P c (.code (.loop T)::k) Q Y:=Zi shape u t z
def bG{e j:Type}{q:Int->e->Option (fi e j)}{stop:e->j}{m:Nat}{b:j}{u:e}(D:aO q stop m 0 u=J b)(ks:List Nat)(vx1:Int->e->List (Nat×PF)){shape:Int->e->List (Nat×PF)}
(last:∀s (N:ae->Prop),stop s=b->pw P c [.code T] (wd P c N k Q) (ae.eZ (shape (0+m) s)))
(yx:∀(i:Int) s (h:fi e j->Prop) (N:ae->Prop),0<=i->i<m->(∀p,h (.out p)->p=b)->(∀t Y,iw (shape (i+1) t) Y->h (.go t)->N Y)->Rn (q i s) h->pw P c [.code T] (wd P c N k Q) (ae.eZ (shape i s)))(Vu:∀i x,(ks.map λs=>(s,Y s))++vx1 i x=shape i x:=by intro i x;simp[go_sem,g];rfl)(z:iw (shape 0 u) Y:=by simp[go_sem,g]):pw P c (.code (.loop T)::k) Q Y:=
 zzg shape D z last λi s h N v h2 ho hg w=>yx i s h N v (by omega) ho hg w
def uS(j:0<=i)(h:i<n)(e:n<=kA):IntKind.i64.wrap (i+1)=i+1:=PG (by simp only[kA]at e;omega)
def wl{m:Type}{p:m->Prop}{x r:m}{A:Prop}(h:∀j,p j->j=r)(q:Rn (J x) p)(k:x=r->A:=by intro e;cases e;refine wW ?_;simp[go_sem,g];first|done|fail):A:=k (h _ (ai q))
def wm{m:Type}{p:m->Prop}{x r:m}{A:Prop}(h:∀j,p j->j=r)(q:Rn (J x) p)(k:x=r->A:=by intro e;cases e;simp[go_sem,g];first|done|fail):A:=k (h _ (ai q))
def wV{j:Prop}{Y:ae}(m:j)(h:∀Y,A Y->B->C Y)(b:B)(e:j->U=C Y:=by intro h;(try (conv=>lhs;simp[go_sem,g,h]))<;>rfl)(a:j->A Y:=by intro h;simp[go_sem,g,h];first|done|fail):U:=(e m).mpr (h Y (a m) b)
def wu{j m:Prop}(h:j)(i:m)(q:pw P c (.code x::k) Q Y)(e:a=pw P c (.code (.cond b x y)::k) Q Y:=by(try (conv=>lhs;repeat rw[sq]))<;>rfl)(p:j->m->cr Y b=J (.bool O):=by intro h i;simp[go_sem,g,h,i];first|done|fail):a:=e.mpr (Pd (p h i) q)
def wi{Y:ae}(j:0<=i)(m:i<n)(h:∀Y,A Y->B->C Y)(b:B)(e:U=C Y:=by(try (conv=>lhs;simp[go_sem,g]))<;>rfl)(a:IntKind.i64.wrap (i+1)=i+1->A Y:=by intro h;simp[go_sem,g,h];first|done|fail)(p:n<=kA:=by first|assumption|(simp;assumption)|(simp;omega)):U:=e.mpr (h Y (a (uS j m p)) b)
def wn{j:Type}{b e:j}{B:j->Prop}{Y:ae}(hN:e=b)(h:∀Y,A Y->B e->C Y)(m:B b)(k:C Y->U:=by intro h;refine wW ?_;refine wf ?_;exact Eq.mpr (by(try (conv=>lhs;simp[go_sem,g]))<;>rfl) h)(a:A Y:=by simp[go_sem,g];first|done|fail):U:=k (h Y a (hN▸m))
end
section
variable {P:Program}{c:aW}{k:List iG}{Q:Exit->ae->Prop}{Y:ae}
end
end Go.Pm
