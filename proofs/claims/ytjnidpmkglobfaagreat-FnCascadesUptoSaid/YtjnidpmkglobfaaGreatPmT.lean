import Derived.Test.YtjnidpmkglobfaaGreatPmS
open Bool renaming false→Z,true→O
open Option renaming none→aa,some→J
set_option linter.defProp false
namespace Go.Pm
open Go.Am
section
variable {P:Program}{c W:aW}{k:List iG}{Q:Exit->ae->Prop}{Y:ae}
variable{a n:Int}{b o:Bool}{d e S N i R s T:Nat}{f:Fn}{g:FuncId}{j:IntKind}{U:Op}{p:aB}{pre:List (Option Tmp)}{r M:List PV}{t X:TypeId}{x:Operand}{y:PF}
@[go_sem] def zOI{a:Nat}{b f h:List Nat}:aW.Dm ⟨a,b,f,h⟩=⟨a,b,f,[]⟩:=(rfl)
@[go_sem ↓] def zHN{id:Nat}{h:List Oper}:pw P c (.code (.region id h.toArray Z)::k) Q Y=pw P c (.ops (h.map (·.dst)) h::k) Q Y:=by
 show gG P c (.region id h.toArray Z) (fU P c k Q) Y=_;simp only[gG,lL,ja];rfl
@[go_sem ↓] theorem zEp :pw P c (.ops pre []::k) Q Y=pw P c k Q Y:=rfl
def pw1(P:Program)(c W:aW)(X:TypeId)(U:Op)(d:Option Tmp)(k:List iG)(Q:Exit->ae->Prop)(Y:ae):Prop:=n0 P W ⟨d,U,X, "",#[],aa⟩ (pw P c k Q) Y
def zyc{o o':Oper}{K:ae->Prop}(h:o.op=o'.op)(hd:o.dst=o'.dst)(l:o.type=o'.type):n0 P c o K Y=n0 P c o' K Y:=by
 obtain⟨d,U,X,A,q,g⟩:=o;obtain⟨v,z,m,B,u,w⟩:=o';simp only at h hd l;subst h;subst hd;subst l;rfl
@[go_sem ↓] def zTl{d:Option Tmp}{m:String}{h:Array Edge}{l:List Oper}:
 pw P c (.ops pre (⟨d,U,X,m,h,aa⟩::l)::k) Q Y=pw1 P c c X U d (.ops pre l::k) Q Y:=by
 show BK P c pre ⟨d,U,X,m,h,aa⟩ (pw P c (.ops pre l::k) Q) Y=_;simp only[BK];exact zyc rfl rfl rfl
def pwg(P:Program)(c:aW)(y:Option (Option Bool))(b:Bool)(X:TypeId)(U:Op)(d:Option Tmp)(k:List iG)(Q:Exit->ae->Prop)(Y:ae):Prop:=
 l6 c b d (pw1 P c c X U d k Q Y) (pw P c k Q) Y y
def zwN{y l:Option (Option Bool)}{d:Option Tmp}(h:y=l):pwg P c y b X U d k Q Y=pwg P c l b X U d k Q Y:=by rw[h]
@[go_sem ↓] def zSc{d:Option Tmp}{m:String}{h:Array Edge}{j:Nat}{l:List Oper}:
 pw P c (.ops pre (⟨d,U,X,m,h,J (j,b)⟩::l)::k) Q Y=pwg P c (Ca Y pre[j]?) b X U d (.ops pre l::k) Q Y:=by
 show BK P c pre ⟨d,U,X,m,h,J (j,b)⟩ (pw P c (.ops pre l::k) Q) Y=_;simp only[BK];unfold pwg pw1;rw[zyc (o:=⟨d,U,X,m,h,J (j,b)⟩) (o':=⟨d,U,X, "",#[],aa⟩) rfl rfl rfl]
@[go_sem] def zKy{d:Tmp}:Ca Y (J (J d))=LP (Y d):=(rfl)
@[go_sem] def zJg :LP (.v (.bool b))=J (J b):=(rfl)
@[go_sem] def zJV:LP .skip=J aa:=(rfl)
@[go_sem ↓] def zRK{d:Option Tmp}:pwg P c (J (J O)) O X U d k Q Y=pw1 P c c X U d k Q Y:=by simp[pwg,l6]
@[go_sem ↓] def zRd{d:Option Tmp}:pwg P c (J (J Z)) Z X U d k Q Y=pw1 P c c X U d k Q Y:=by simp[pwg,l6]
@[go_sem ↓] def zSb{d:Tmp}(h:ia c d .skip=O):pwg P c (J (J O)) Z X U (J d) k Q Y=pw P c k Q (Y.put d .skip):=by simp[pwg,l6,v5,h]
@[go_sem ↓] def zRD{d:Tmp}(h:ia c d .skip=O):pwg P c (J (J Z)) O X U (J d) k Q Y=pw P c k Q (Y.put d .skip):=by simp[pwg,l6,v5,h]
@[go_sem ↓] def zSz{d:Tmp}(h:ia c d .skip=O):pwg P c (J aa) b X U (J d) k Q Y=pw P c k Q (Y.put d .skip):=by simp[pwg,l6,v5,h]
def zxv{y:Bool}{d:Option Tmp}(h:y=O->pwg P c (J (J O)) b X U d k Q Y)(l:y=Z->pwg P c (J (J Z)) b X U d k Q Y):pwg P c (J (J y)) b X U d k Q Y:=by
 cases y
 ·exact l rfl
 ·exact h rfl
def qv(P:Program)(c W:aW)(x:Option (PF×ae))(d:Option Tmp)(k:List iG)(Q:Exit->ae->Prop):Prop:=
 match x with
 |some a=>dI W (pw P c k Q) d a.1 a.2
 |none=>False
def qz(P:Program)(c:aW)(d:Nat)(k:List iG)(Q:Exit->ae->Prop)(x:Option (PF×ae)):Prop:=Kf (pw P c k Q) d x
def zyQ{x l:Option (PF×ae)}{d:Option Tmp}(h:x=l):qv P c W x d k Q=qv P c W l d k Q:=by rw[h]
def zyq{x l:Option (PF×ae)}(h:x=l):qz P c d k Q x=qz P c d k Q l:=by rw[h]
@[go_sem ↓] def zPx{d:Tmp}(h:ia W d y=O)(l:W.fz.contains d=Z):qv P c W (J (y,Y)) (J d) k Q=pw P c k Q (Y.put d y):=by simp only[qv,dI,h,l];simp
@[go_sem ↓] def zTv{d:Tmp}(h:ia W d y=O)(l:W.fz.contains d=O):qv P c W (J (y,Y)) (J d) k Q=qz P c d k Q (xt Y y):=by simp only[qv,dI,h,l];simp[qz]
@[go_sem ↓] theorem zQF :qv P c W (J (y,Y)) aa k Q=pw P c k Q Y:=rfl
@[go_sem ↓] theorem zQt :qz P c d k Q (J (y,Y))=pw P c k Q (Y.put d y):=rfl
def qf(P:Program)(c:aW)(x:Option ae)(k:List iG)(Q:Exit->ae->Prop):Prop:=
 match x with
 |some Y=>pw P c k Q Y
 |none=>False
def zyr{x l:Option ae}(h:x=l):qf P c x k Q=qf P c l k Q:=by rw[h]
@[go_sem ↓] theorem zPp:qf P c (J Y) k Q=pw P c k Q Y:=rfl
attribute [congr] zzx zwN zyQ zyq zyr
@[go_sem] def zRt :ia c d y=(decide (d<c.nt)&& !c.io.contains d&& !(bA y==J d)):=(rfl)
@[go_sem] def zOa{x:PV}:bA (.v x)=aa:=(rfl)
@[go_sem] def zE8:bA .skip=aa:=(rfl)
@[go_sem] def zKP{r:List (List PV)}:bA (.ls S r)=aa:=(rfl)
@[go_sem] def zMS :bA (.bl r)=aa:=(rfl)
@[go_sem] def zKU{j:Nat}:bA (.pt s p i j)=J s:=(rfl)
@[go_sem] def zKb :bA (.rf s p)=J s:=(rfl)
@[go_sem] def zL8 :bA (.rv s p R N)=J s:=(rfl)
@[go_sem] def zJo{j n:Nat}:bA (.as b s p i j n)=J s:=(rfl)
@[go_sem] def zJC :bA (.cl s g M)=J s:=(rfl)
@[go_sem] def zJ3{j n:Nat}:bA (.ra s p i j n)=J s:=(rfl)
@[go_sem] def zQg{t:Nat}{x:PF}:ae.put Y d x t=if t=d then x else fV d (Y t):=(rfl)
@[go_sem] def zOA{t:Nat}{x:PF}:ae.bV Y d x t=if t=d then x else Y t:=(rfl)
@[go_sem] def zMn{n t:Nat}:ae.kill Y s n t=dr s n (Y t):=(rfl)
@[go_sem] def zOT{x:PV}:fV d (.v x)=.v x:=(rfl)
@[go_sem] def zHm :fV d .skip=.skip:=(rfl)
@[go_sem] def zKl{r:List (List PV)}:fV d (.ls S r)=.ls S r:=(rfl)
@[go_sem] def zL9 :fV d (.bl r)=.bl r:=(rfl)
@[go_sem] def zIR{j:Nat}:fV d (.pt s p i j)=if s=d then jP else .pt s p i j:=by simp[fV,bA]
@[go_sem] def zIS :fV d (.rf s p)=if s=d then jP else .rf s p:=by simp[fV,bA]
@[go_sem] def zMe :fV d (.rv s p R N)=if s=d then jP else .rv s p R N:=by simp[fV,bA]
@[go_sem] def zLq{j n:Nat}:fV d (.as b s p i j n)=if s=d then jP else .as b s p i j n:=by simp[fV,bA]
@[go_sem] def zME :fV d (.cl s g M)=if s=d then jP else .cl s g M:=by simp[fV,bA]
@[go_sem] def zKB{j n:Nat}:fV d (.ra s p i j n)=if s=d then jP else .ra s p i j n:=by simp[fV,bA]
@[go_sem] def zNp :fV d jP=jP:=(rfl)
@[go_sem] def zOV{n:Nat}{x:PV}:dr s n (.v x)=.v x:=by simp[dr,bA]
@[go_sem] def zF8{n:Nat}:dr s n .skip=.skip:=by simp[dr,bA]
@[go_sem] def zKi{n:Nat}{r:List (List PV)}:dr s n (.ls S r)=.ls S r:=by simp[dr,bA]
@[go_sem] def zNh{n:Nat}:dr s n (.bl r)=.bl r:=by simp[dr,bA]
@[go_sem] def zLi{n j:Nat}:dr s n (.pt T p i j)=if T=s/\n<=p.length then jP else .pt T p i j:=by simp[dr,bA,mh]
@[go_sem] def zJ5{n:Nat}:dr s n (.rf T p)=if T=s/\n<=p.length then jP else .rf T p:=by simp[dr,bA,mh]
@[go_sem] def zJh{n:Nat}:dr s n (.rv T p R N)=if T=s/\n<=p.length then jP else .rv T p R N:=by simp[dr,bA,mh]
@[go_sem] def zMB{n j m:Nat}:dr s n (.as b T p i j m)=if T=s/\n<=p.length+1 then jP else .as b T p i j m:=by simp[dr,bA,mh]
@[go_sem] def zJQ{n:Nat}:dr s n (.cl T g M)=if T=s/\n<=0 then jP else .cl T g M:=by simp[dr,bA,mh]
@[go_sem] def zKo{n j m:Nat}:dr s n (.ra T p i j m)=if T=s/\n<=p.length+1 then jP else .ra T p i j m:=by simp[dr,bA,mh]
@[go_sem] def zNn{n:Nat}:dr s n jP=jP:=by simp[dr,bA,jP]
@[go_sem] def zLE{x:PF}{l:List (Nat×PF)}{t:Nat}:ae.eZ ((s,x)::l) t=if t=s then x else ae.eZ l t:=(rfl)
@[go_sem] def zQp{t:Nat}:ae.eZ [] t=jP:=(rfl)
@[go_sem] def zIb{h:List (Md×PV)}{t:Nat}:sR h t=EV h[t]? :=(rfl)
@[go_sem] def zHu{m:Md}{x:PV}:EV (J (m,x))=.v x:=(rfl)
@[go_sem] def zH4:EV aa=jP:=(rfl)
@[go_sem] def zTj:dv .az=O:=(rfl)
@[go_sem] def zJX :dv (.bool b)=Z:=(rfl)
@[go_sem] def zOm :dv (.int j n)=Z:=(rfl)
@[go_sem] def zPC{s:ByteArray}:dv (.str s)=Z:=(rfl)
@[go_sem] def zQ2{r:List (List PV)}:dv (.sl o S r)=Z:=(rfl)
@[go_sem] def zQX :dv (.fp r)=Z:=(rfl)
@[go_sem] def zRZ :dv (.bx r)=Z:=(rfl)
@[go_sem] def zKg{a b:List PV}:dv (.func f a b)=Z:=(rfl)
@[go_sem] def zNu :dv (.agg r)=Z:=(rfl)
@[go_sem] def zPU :dv (.bR r)=Z:=(rfl)
@[go_sem] def zLL:dv .fX=Z:=(rfl)
@[go_sem] def zKw:dv .gy=Z:=(rfl)
@[go_sem] def zLP:dv .gU=Z:=(rfl)
@[go_sem] def zQM:bI .az=Z:=by simp[bI]
@[go_sem] def zHJ :bI (.bool b)=Z:=by simp[bI]
@[go_sem] def zJv :bI (.int j n)=Z:=by simp[bI]
@[go_sem] def zLK{s:ByteArray}:bI (.str s)=Z:=by simp[bI]
@[go_sem] def zO5 :bI (.fp r)=Z:=by simp[bI]
@[go_sem] def zHY{a b:List PV}:bI (.func f a b)=Z:=by simp[bI]
@[go_sem] def zHL:bI .fX=Z:=by simp[bI]
@[go_sem] def zIF:bI .gy=Z:=by simp[bI]
@[go_sem] def zIh:bI .gU=Z:=by simp[bI]
attribute [go_sem] zkl zu5 zio zs8 zi9 zqa zo5 zsi zoS zsS zq1 zqS
@[go_sem] def zRa:drop .az=.az:=by simp[drop]
@[go_sem] def zH8 :drop (.bool b)=.bool b:=by simp[drop]
@[go_sem] def zK4 :drop (.int j n)=.int j n:=by simp[drop]
@[go_sem] def zLl{s:ByteArray}:drop (.str s)=.str s:=by simp[drop]
@[go_sem] def zPo :drop (.fp r)=.fp r:=by simp[drop]
@[go_sem] def zIz{a b:List PV}:drop (.func f a b)=.func f a b:=by simp[drop]
@[go_sem] def zHz:drop .fX=.fX:=by simp[drop]
@[go_sem] def zIl:drop .gy=.gy:=by simp[drop]
@[go_sem] def zIk:drop .gU=.gU:=by simp[drop]
@[go_sem] def zOu:cV .az=O:=by simp[cV]
@[go_sem] def zFO :cV (.bool b)=O:=by simp[cV]
@[go_sem] def zH9 :cV (.int j n)=O:=by simp[cV]
@[go_sem] def zHv{s:ByteArray}:cV (.str s)=O:=by simp[cV]
@[go_sem] def zMJ :cV (.fp r)=Z:=by simp[cV]
@[go_sem] def zG7{a b:List PV}:cV (.func f a b)=Z:=by simp[cV]
@[go_sem] def zGz:cV .fX=O:=by simp[cV]
@[go_sem] def zFF :rA (.int j n)=O:=(rfl)
@[go_sem] def zDJ :rA (.bool b)=O:=(rfl)
@[go_sem] def zGh{s:ByteArray}:rA (.str s)=O:=(rfl)
@[go_sem] def zHW{r:List (List PV)}:rA (.sl o S r)=O:=(rfl)
@[go_sem] def zIJ :rA (.bx r)=O:=(rfl)
@[go_sem] def zIu :rA (.fp r)=O:=(rfl)
@[go_sem] def zDC{a b:List PV}:rA (.func f a b)=O:=(rfl)
@[go_sem] def zDG :jT (.int j n)=O:=(rfl)
@[go_sem] def zCH :jT (.bool b)=O:=(rfl)
@[go_sem] def zDs{s:ByteArray}:jT (.str s)=O:=(rfl)
@[go_sem] def zGw{r:List (List PV)}:jT (.sl o S r)=O:=(rfl)
@[go_sem] def zDF :jT (.agg r)=O:=(rfl)
@[go_sem] def zEC :jT (.bx r)=O:=(rfl)
@[go_sem] def zFs :jT (.fp r)=O:=(rfl)
@[go_sem] def zCC{a b:List PV}:jT (.func f a b)=O:=(rfl)
@[go_sem] def zFU :cR (.int j n)=[.int j n]:=(rfl)
@[go_sem] def zDH :cR (.bool b)=[.bool b]:=(rfl)
@[go_sem] def zGj{s:ByteArray}:cR (.str s)=[.str s]:=(rfl)
@[go_sem] def zHQ{r:List (List PV)}:cR (.sl o S r)=[.sl o S r]:=(rfl)
@[go_sem] def zHk :cR (.agg r)=r:=(rfl)
@[go_sem] def zIn :cR (.bx r)=[.bx r]:=(rfl)
@[go_sem] def zHG :cR (.fp r)=[.fp r]:=(rfl)
@[go_sem] def zDN{a b:List PV}:cR (.func f a b)=[.func f a b]:=(rfl)
@[go_sem] def zH2 :nz e (.bool b)=.bool b:=(rfl)
@[go_sem] def zIP :nz e (.int j n)=.int j n:=(rfl)
@[go_sem] def zLg{s:ByteArray}:nz e (.string s)=.str s:=(rfl)
@[go_sem] def zLM :nz e (.slice aa 0 0)=.sl O e []:=(rfl)
@[go_sem] def zIo :nz e .nilFunc=.fX:=(rfl)
@[go_sem] def zOD :cD (.int j n)=O:=(rfl)
@[go_sem] def zLs :cD (.bool b)=O:=(rfl)
@[go_sem] def zO7{b:ByteArray}:cD (.string b)=O:=(rfl)
@[go_sem] def zPv:cD (.slice aa 0 0)=O:=(rfl)
@[go_sem] def zM1:cD .nilFunc=O:=(rfl)
@[go_sem] def zOy{t:Tmp}:cr Y (.tmp t)=Hk (Y t):=(rfl)
@[go_sem] def zSq{x:PV}:Hk (.v x)=uM x:=(rfl)
@[go_sem] def zIj:Hk .skip=aa:=(rfl)
@[go_sem] def zMG :uM (.bool b)=J (.bool b):=(rfl)
@[go_sem] def zQs :uM (.int j n)=J (.int j n):=(rfl)
@[go_sem] def zOw{s:ByteArray}:uM (.str s)=J (.string s):=(rfl)
@[go_sem] def zPK{l:List PV}:uM (.agg l)=(yv l).map λl=>.agg l.toArray:=(rfl)
@[go_sem] def zMo:yv []=J []:=(rfl)
@[go_sem] def zMb :yv (.int j n::r)=(yv r).map λl=>.int j n::l:=(rfl)
@[go_sem] def zPL :cr Y (.const (.int j n))=J (.int j n):=(rfl)
@[go_sem] def zJc :cr Y (.const (.bool b))=J (.bool b):=(rfl)
@[go_sem] def zP9{b:ByteArray}:cr Y (.const (.string b))=J (.string b):=(rfl)
@[go_sem] def zD0 :lY (.bool b)=J (.bool b):=(rfl)
@[go_sem] def zHC :lY (.int j n)=J (.int j n):=(rfl)
@[go_sem] def zIm{s:ByteArray}:lY (.string s)=J (.str s):=(rfl)
def Dp(f:Value->Option Value)(x:Option Value)(Y:ae):Option (PF×ae):=(x.bind λa=>(f a).bind lY).map λy=>(.v y,Y)
def yY(f:Value->Value->Option Value)(x y:Option Value)(Y:ae):Option (PF×ae):=(x.bind λa=>y.bind λb=>(f a b).bind lY).map λy=>(.v y,Y)
def tx(x:Option Value)(Y:ae):Option (PF×ae):=(x.bind lY).map λy=>(.v y,Y)
@[go_sem] def zKJ{f:Value->Option Value}{a:Value}:Dp f (J a) Y=tx (f a) Y:=(rfl)
@[go_sem] def zMa{f:Value->Value->Option Value}{a b:Value}:yY f (J a) (J b) Y=tx (f a b) Y:=(rfl)
@[go_sem] def zJS :tx (J (.bool b)) Y=J (.v (.bool b),Y):=(rfl)
@[go_sem] def zP5 :tx (J (.int j n)) Y=J (.v (.int j n),Y):=(rfl)
@[go_sem] def zPA{s:ByteArray}:tx (J (.string s)) Y=J (.v (.str s),Y):=(rfl)
def Ej{o:Oper}{x:Option (PF×ae)}(h:(((iA o.op).bind (qg Y)).bind λl=>(fk P o.op l).bind lY).map (λy=>(PF.v y,Y))=x):lO P W o (pw P c k Q) Y=qv P c W x o.dst k Q:=by
 subst h;unfold lO;cases (iA o.op).bind (qg Y)with
 |none=>rfl
 |some l=>
  simp only[aP];cases (fk P o.op l).bind lY<;>rfl
@[go_sem ↓] def zMr{U:UnOp}{d:Option Tmp}:pw1 P c W X (.unOp U t x) d k Q Y=qv P c W (Dp (GJ U) (cr Y x) Y) d k Q:=by
 refine Ej (o:=⟨d,.unOp U t x,X, "",#[],aa⟩) ?_;simp only[iA,qg,aP];cases cr Y x<;>simp[fk,Dp]
def zqV{s:TypeId}{d:Tmp}(l:eS P t=O)(h:W.hp≠[]\/JL Y x=O):pw1 P c W X (.convert s t x) (J d) k Q Y=qv P c W (Bs P s Y x) (J d) k Q:=by
 show(if eS P t=O then(W.hp≠[]\/JL Y x=O)/\yn P W s t x (J d) (pw P c k Q) Y else _)=_;rw[aE l];unfold yn qv;cases Bs P s Y x with
 |none=>simp[h]
 |some z=>simp[h,l]
@[go_sem ↓] def zLd{s:TypeId}{d:Tmp}(l:eS P t=O)(h:W.hp.isEmpty=Z):pw1 P c W X (.convert s t x) (J d) k Q Y=qv P c W (Bs P s Y x) (J d) k Q:=zqV l (.inl λe=>by rw[e]at h;cases h)
@[go_sem] def zIO{h:List (List PV)}:KH (.ls 1 h)=O:=(rfl)
@[go_sem ↓] def zIf{s:TypeId}{u:Nat}{d:Tmp}(l:eS P t=O)(h:KH (Y u)=O):pw1 P c W X (.convert s t (.tmp u)) (J d) k Q Y=qv P c W (Bs P s Y (.tmp u)) (J d) k Q:=zqV l (.inr h)
@[go_sem ↓] def zDt{s:TypeId}{d:Option Tmp}(h:eS P t=Z):pw1 P c W X (.convert s t x) d k Q Y=qv P c W (Dp (F7 P s t) (cr Y x) Y) d k Q:=by
 have e:pw1 P c W X (.convert s t x) d k Q Y=lO P W ⟨d,.convert s t x,X, "",#[],aa⟩ (pw P c k Q) Y:=by
  show(if eS P t=O then(W.hp≠[]\/JL Y x=O)/\yn P W s t x d (pw P c k Q) Y else lO P W ⟨d,.convert s t x,X, "",#[],aa⟩ (pw P c k Q) Y)=_;rw[aA (by simp[h])]
 rw[e];refine Ej (o:=⟨d,.convert s t x,X, "",#[],aa⟩) ?_;simp only[iA,qg,aP];cases cr Y x<;>simp[fk,Dp]
@[go_sem] def zFC{t:Tmp}:wc (.tmp t)=Z:=(rfl)
@[go_sem] def zF9 :wc (.const (.int j n))=Z:=(rfl)
@[go_sem] def zDA :wc (.const (.bool b))=Z:=(rfl)
@[go_sem] def zGg{s:ByteArray}:wc (.const (.string s))=Z:=(rfl)
@[go_sem ↓] def zHS{u:TypeId}{U:BinOp}{y:Operand}{d:Option Tmp}(h:wc y=Z):pw1 P c W X (.binOp U t x y u) d k Q Y=qv P c W (yY (dx P U t) (cr Y x) (cr Y y) Y) d k Q:=by
 have e:pw1 P c W X (.binOp U t x y u) d k Q Y=lO P W ⟨d,.binOp U t x y u,X, "",#[],aa⟩ (pw P c k Q) Y:=by
  show n0 P W ⟨d,.binOp U t x y u,X, "",#[],aa⟩ (pw P c k Q) Y=_;simp only[n0,h,lL,ja]
 rw[e];refine Ej (o:=⟨d,.binOp U t x y u,X, "",#[],aa⟩) ?_;simp only[iA,qg,aP];cases cr Y x<;>cases cr Y y<;>simp[fk,yY]
@[go_sem ↓] def zIp{y:Operand}{d:Option Tmp}:pw1 P c W X (.index t x y) d k Q Y=qv P c W (yY (yg P t) (cr Y x) (cr Y y) Y) d k Q:=by
 refine Ej (o:=⟨d,.index t x y,X, "",#[],aa⟩) ?_;simp only[iA,qg,aP];cases cr Y x<;>cases cr Y y<;>simp[fk,yY]
@[go_sem ↓] def zOf{y:Operand}{h:Array TypeId}{d:Option Tmp}:pw1 P c W X (.call ⟨.builtin .min,#[x,y],h⟩) d k Q Y=qv P c W (yY (w9 Z) (cr Y x) (cr Y y) Y) d k Q:=by
 refine Ej (o:=⟨d,.call ⟨.builtin .min,#[x,y],h⟩,X, "",#[],aa⟩) ?_;simp only[iA,qg,aP];cases cr Y x<;>cases cr Y y<;>simp[fk,yY]
@[go_sem ↓] def zOG{y:Operand}{h:Array TypeId}{d:Option Tmp}:pw1 P c W X (.call ⟨.builtin .max,#[x,y],h⟩) d k Q Y=qv P c W (yY (w9 O) (cr Y x) (cr Y y) Y) d k Q:=by
 refine Ej (o:=⟨d,.call ⟨.builtin .max,#[x,y],h⟩,X, "",#[],aa⟩) ?_;simp only[iA,qg,aP];cases cr Y x<;>cases cr Y y<;>simp[fk,yY]
@[go_sem] def zLQ{s d:TypeId}{i k:IntKind}(l:kv P s=J i)(hd:kv P d=J k):F7 P s d (.int j n)=J (.int k (k.wrap n)):=by
 unfold F7
 have:∃u,P.underlying s=J u:=by
  unfold kv at l;split at l
  ·rename_i h;exact⟨_,h⟩
  ·cases l
 obtain⟨u,m⟩:=this;rw[m,hd]
@[go_sem] def zN2{b:Int}:dx P .add t (.int j a) (.int j b)=J (.int j (j.wrap (a+b))):=by simp[dx,kX]
@[go_sem] def zO8{b:Int}:dx P .sub t (.int j a) (.int j b)=J (.int j (j.wrap (a-b))):=by simp[dx,kX]
@[go_sem] def zPy{b:Int}:dx P .mul t (.int j a) (.int j b)=J (.int j (j.wrap (a*b))):=by simp[dx,kX]
def xz(b:Int)(x:Value):Option Value:=if b=0 then aa else J x
@[go_sem] def zOE{b:Int}:dx P .quo t (.int j a) (.int j b)=xz b (.int j (j.wrap (a.tdiv b))):=by simp[dx,kX,xz]
@[go_sem] def zO0{b:Int}:dx P .rem t (.int j a) (.int j b)=xz b (.int j (a.tmod b)):=by simp[dx,kX,xz]
def Q5{b:Int}{x:Value}(h:b≠0):xz b x=J x:=by simp[xz,h]
@[go_sem] def zIN{x:Value}{n:Nat}:xz (OfNat.ofNat (n+1)) x=J x:=by
 refine Q5 ?_;show((n+1:Nat):Int)≠0;omega
@[go_sem] def zO6{b:Int}:dx P .eql t (.int j a) (.int j b)=J (.bool (a==b)):=by simp[dx,kX]
@[go_sem] def zPX{b:Int}:dx P .neq t (.int j a) (.int j b)=J (.bool (a !=b)):=by simp[dx,kX]
@[go_sem] def zN8{b:Int}:dx P .lss t (.int j a) (.int j b)=J (.bool (decide (a<b))):=by simp[dx,kX]
@[go_sem] def zNr{b:Int}:dx P .leq t (.int j a) (.int j b)=J (.bool (decide (a<=b))):=by simp[dx,kX]
@[go_sem] def zOO{b:Int}:dx P .gtr t (.int j a) (.int j b)=J (.bool (decide (b<a))):=by simp[dx,kX]
@[go_sem] def zNt{b:Int}:dx P .geq t (.int j a) (.int j b)=J (.bool (decide (b<=a))):=by simp[dx,kX]
@[go_sem] def zNq{b:Int}:dx P .and t (.int j a) (.int j b)=J (.int j (j.wrap (BitVec.ofInt j.bits a&&&BitVec.ofInt j.bits b).toNat)):=by simp[dx,kX]
@[go_sem] def zQ9{b:Int}:dx P .or t (.int j a) (.int j b)=J (.int j (j.wrap (BitVec.ofInt j.bits a|||BitVec.ofInt j.bits b).toNat)):=by simp[dx,kX]
@[go_sem] def zOQ{b:Int}:dx P .xor t (.int j a) (.int j b)=J (.int j (j.wrap (BitVec.ofInt j.bits a^^^BitVec.ofInt j.bits b).toNat)):=by simp[dx,kX]
def DF(b:Int)(x:Value):Option Value:=if b<0 then aa else J x
@[go_sem] def zNZ{h:IntKind}{b:Int}:dx P .shl t (.int j a) (.int h b)=DF b (.int j (j.wrap (a*2^min b.toNat j.bits))):=by simp[dx,DF]
@[go_sem] def zQk{h:IntKind}{b:Int}:dx P .shr t (.int j a) (.int h b)=DF b (.int j (a.fdiv (2^min b.toNat j.bits))):=by simp[dx,DF]
def zAS{b:Int}{x:Value}(h:0<=b):DF b x=J x:=by simp[DF];omega
@[go_sem] def zKe{a:Bool}(h:GD P t=O):dx P .eql t (.bool a) (.bool b)=J (.bool (a==b)):=by simp[dx,h]
@[go_sem] def zMF{a:Bool}(h:GD P t=O):dx P .neq t (.bool a) (.bool b)=J (.bool (a !=b)):=by simp[dx,h]
@[go_sem] def zJy{a b:List Value}{o:List Nat}(h:Cg P t=J o):dx P .eql t (.agg a.toArray) (.agg b.toArray)=(uL a b o).map .bool:=by simp[dx,h]
@[go_sem] def zKR{a b:List Value}{o:List Nat}(h:Cg P t=J o):dx P .neq t (.agg a.toArray) (.agg b.toArray)=(uL a b o).map λr=>.bool !r:=by simp[dx,h]
@[go_sem] def zUG{i:IntKind}{b x y:Int}:uL [.int j a,.int i b] [.int j x,.int i y] [0,1]=J (a==x&&b==y):=by simp[uL]
@[go_sem] def zMd{a b:ByteArray}:dx P .eql t (.string a) (.string b)=J (.bool (a.toList==b.toList)):=(rfl)
@[go_sem] def zKK{a b:ByteArray}(h:a.size+b.size<=9223372036854775807):dx P .add t (.string a) (.string b)=J (.string (a++b)):=by simp[dx,h]
@[go_sem] def zSx{s:TypeId}(h:uu P s=O):Bs P s Y x=(qm 1 Y x).bind λz=>(xb z.1).map λl=>(.v (.str (xV l)),z.2):=by unfold Bs;rw[aE h]
@[go_sem] def zH1:xb []=J []:=(rfl)
@[go_sem] def zwJ{h:List (List PV)}:xb ([.int .u8 n]::h)=(xb h).map (n:: ·):=(rfl)
@[go_sem] def zHD{f:Int->List PV}(h:∀x,f x=[.int .u8 x]){l:List Int}:xb (l.map f)=J l:=by
 induction l with
 |nil=>rfl
 |cons x l ih=>rw[jO,h,zwJ,ih];rfl
@[go_sem] def zMj{a b:ByteArray}:dx P .neq t (.string a) (.string b)=J (.bool !(a.toList==b.toList)):=(rfl)
@[go_sem] def zSm :GJ .not (.bool b)=J (.bool !b):=(rfl)
@[go_sem] def zRn :GJ .neg (.int j n)=J (.int j (j.wrap (0-n))):=(rfl)
@[go_sem] def zE7{b:Int}:w9 O (.int j a) (.int j b)=J (.int j (if a<b then b else a)):=by simp[w9]
@[go_sem] def zET{b:Int}:w9 Z (.int j a) (.int j b)=J (.int j (if b<a then b else a)):=by simp[w9]
end
end Go.Pm
