import Derived.Test.YtnojafnlicbhpaaGreatPmS
open Bool renaming false→aa,true→Z
open Option renaming none→ae,some→J
set_option linter.defProp false
namespace Go.Pm
open Go.Am
section
variable {P:Program}{c co:aY}{k:List iO}{Q:Exit->ah->Prop}{pf:ah}
variable{a n:Int}{b o:Bool}{d e es hi i lo s s':Nat}{f:Fn}{g:FuncId}{j:IntKind}{op:Op}{p:aC}{pre:List (Option Tmp)}{r us:List PV}{t ty:TypeId}{x:Operand}{y:PF}
@[go_sem] def zPv{a:Nat}{b f h:List Nat}:aY.CQ ⟨a,b,f,h⟩=⟨a,b,f,[]⟩:=(rfl)
@[go_sem ↓] def zJm{id:Nat}{ops:List Oper}:pw P c (.code (.region id ops.toArray aa)::k) Q pf=pw P c (.ops (ops.map (·.dst)) ops::k) Q pf:=by
 show gJ P c (.region id ops.toArray aa) (fN P c k Q) pf=_;simp only[gJ,qH,my];rfl
@[go_sem ↓] theorem zGe :pw P c (.ops pre []::k) Q pf=pw P c k Q pf:=rfl
def pw1(P:Program)(c co:aY)(ty:TypeId)(op:Op)(d:Option Tmp)(k:List iO)(Q:Exit->ah->Prop)(pf:ah):Prop:=oe P co ⟨d,op,ty, "",#[],ae⟩ (pw P c k Q) pf
def ZV{o o':Oper}{K:ah->Prop}(h:o.op=o'.op)(hd:o.dst=o'.dst)(ht:o.type=o'.type):oe P c o K pf=oe P c o' K pf:=by
 obtain⟨d,op,ty,ps,af,g⟩:=o;obtain⟨d',op',Mr,ps',af',g'⟩:=o';simp only at h hd ht;subst h;subst hd;subst ht;rfl
@[go_sem ↓] def zVG{d:Option Tmp}{ps:String}{af:Array Edge}{l:List Oper}:
 pw P c (.ops pre (⟨d,op,ty,ps,af,ae⟩::l)::k) Q pf=pw1 P c c ty op d (.ops pre l::k) Q pf:=by
 show A3 P c pre ⟨d,op,ty,ps,af,ae⟩ (pw P c (.ops pre l::k) Q) pf=_;simp only[A3];exact ZV rfl rfl rfl
def pwg(P:Program)(c:aY)(y:Option (Option Bool))(b:Bool)(ty:TypeId)(op:Op)(d:Option Tmp)(k:List iO)(Q:Exit->ah->Prop)(pf:ah):Prop:=
 me c b d (pw1 P c c ty op d k Q pf) (pw P c k Q) pf y
def zxg{y y':Option (Option Bool)}{d:Option Tmp}(h:y=y'):pwg P c y b ty op d k Q pf=pwg P c y' b ty op d k Q pf:=by rw[h]
@[go_sem ↓] def zSV{d:Option Tmp}{ps:String}{af:Array Edge}{j:Nat}{l:List Oper}:
 pw P c (.ops pre (⟨d,op,ty,ps,af,J (j,b)⟩::l)::k) Q pf=pwg P c (CP pf pre[j]?) b ty op d (.ops pre l::k) Q pf:=by
 show A3 P c pre ⟨d,op,ty,ps,af,J (j,b)⟩ (pw P c (.ops pre l::k) Q) pf=_;simp only[A3];unfold pwg pw1;rw[ZV (o:=⟨d,op,ty,ps,af,J (j,b)⟩) (o':=⟨d,op,ty, "",#[],ae⟩) rfl rfl rfl]
@[go_sem] def zMm{d:Tmp}:CP pf (J (J d))=Jb (pf d):=(rfl)
@[go_sem] def zNS :Jb (.v (.bool b))=J (J b):=(rfl)
@[go_sem] def zMB:Jb .skip=J ae:=(rfl)
@[go_sem ↓] def zRz{d:Option Tmp}:pwg P c (J (J Z)) Z ty op d k Q pf=pw1 P c c ty op d k Q pf:=by simp[pwg,me]
@[go_sem ↓] def zRR{d:Option Tmp}:pwg P c (J (J aa)) aa ty op d k Q pf=pw1 P c c ty op d k Q pf:=by simp[pwg,me]
@[go_sem ↓] def zSe{d:Tmp}(h:ic c d .skip=Z):pwg P c (J (J Z)) aa ty op (J d) k Q pf=pw P c k Q (pf.put d .skip):=by simp[pwg,me,xt,h]
@[go_sem ↓] def zSb{d:Tmp}(h:ic c d .skip=Z):pwg P c (J (J aa)) Z ty op (J d) k Q pf=pw P c k Q (pf.put d .skip):=by simp[pwg,me,xt,h]
@[go_sem ↓] def zVZ{d:Tmp}(h:ic c d .skip=Z):pwg P c (J ae) b ty op (J d) k Q pf=pw P c k Q (pf.put d .skip):=by simp[pwg,me,xt,h]
def zxM{y:Bool}{d:Option Tmp}(h1:y=Z->pwg P c (J (J Z)) b ty op d k Q pf)(h2:y=aa->pwg P c (J (J aa)) b ty op d k Q pf):pwg P c (J (J y)) b ty op d k Q pf:=by
 cases y
 ·exact h2 rfl
 ·exact h1 rfl
def qv(P:Program)(c co:aY)(x:Option (PF×ah))(d:Option Tmp)(k:List iO)(Q:Exit->ah->Prop):Prop:=
 match x with
 |some a=>dI co (pw P c k Q) d a.1 a.2
 |none=>False
def qz(P:Program)(c:aY)(d:Nat)(k:List iO)(Q:Exit->ah->Prop)(x:Option (PF×ah)):Prop:=KA (pw P c k Q) d x
def zyL{x x':Option (PF×ah)}{d:Option Tmp}(h:x=x'):qv P c co x d k Q=qv P c co x' d k Q:=by rw[h]
def zyX{x x':Option (PF×ah)}(h:x=x'):qz P c d k Q x=qz P c d k Q x':=by rw[h]
@[go_sem ↓] def zQq{d:Tmp}(h:ic co d y=Z)(hf:co.fz.contains d=aa):qv P c co (J (y,pf)) (J d) k Q=pw P c k Q (pf.put d y):=by simp only[qv,dI,h,hf];simp
@[go_sem ↓] def zTH{d:Tmp}(h:ic co d y=Z)(hf:co.fz.contains d=Z):qv P c co (J (y,pf)) (J d) k Q=qz P c d k Q (wd pf y):=by simp only[qv,dI,h,hf];simp[qz]
@[go_sem ↓] theorem zSr :qv P c co (J (y,pf)) ae k Q=pw P c k Q pf:=rfl
@[go_sem ↓] theorem zQ9 :qz P c d k Q (J (y,pf))=pw P c k Q (pf.put d y):=rfl
def qf(P:Program)(c:aY)(x:Option ah)(k:List iO)(Q:Exit->ah->Prop):Prop:=
 match x with
 |some pf=>pw P c k Q pf
 |none=>False
def zzs{x x':Option ah}(h:x=x'):qf P c x k Q=qf P c x' k Q:=by rw[h]
@[go_sem ↓] theorem zP3:qf P c (J pf) k Q=pw P c k Q pf:=rfl
attribute [congr] zzl zxg zyL zyX zzs
@[go_sem] def zSH :ic c d y=(decide (d<c.nt)&& !c.io.contains d&& !(bE y==J d)):=(rfl)
@[go_sem] def zO6{x:PV}:bE (.v x)=ae:=(rfl)
@[go_sem] def zFg:bE .skip=ae:=(rfl)
@[go_sem] def zLc{r:List (List PV)}:bE (.ls es r)=ae:=(rfl)
@[go_sem] def zL9 :bE (.bl r)=ae:=(rfl)
@[go_sem] def zKr{j:Nat}:bE (.pt s p i j)=J s:=(rfl)
@[go_sem] def zMO :bE (.rf s p)=J s:=(rfl)
@[go_sem] def zKe :bE (.rv s p lo hi)=J s:=(rfl)
@[go_sem] def zN2{j n:Nat}:bE (.as b s p i j n)=J s:=(rfl)
@[go_sem] def zMc :bE (.cl s g us)=J s:=(rfl)
@[go_sem] def zK7{j n:Nat}:bE (.ra s p i j n)=J s:=(rfl)
@[go_sem] def zQE{t:Nat}{x:PF}:ah.put pf d x t=if t=d then x else fS d (pf t):=(rfl)
@[go_sem] def zQy{t:Nat}{x:PF}:ah.bY pf d x t=if t=d then x else pf t:=(rfl)
@[go_sem] def zLw{n t:Nat}:ah.kill pf s n t=dr s n (pf t):=(rfl)
@[go_sem] def zOq{x:PV}:fS d (.v x)=.v x:=(rfl)
@[go_sem] def zE4 :fS d .skip=.skip:=(rfl)
@[go_sem] def zK3{r:List (List PV)}:fS d (.ls es r)=.ls es r:=(rfl)
@[go_sem] def zNZ :fS d (.bl r)=.bl r:=(rfl)
@[go_sem] def zKx{j:Nat}:fS d (.pt s p i j)=if s=d then jP else .pt s p i j:=by simp[fS,bE]
@[go_sem] def zMe :fS d (.rf s p)=if s=d then jP else .rf s p:=by simp[fS,bE]
@[go_sem] def zLG :fS d (.rv s p lo hi)=if s=d then jP else .rv s p lo hi:=by simp[fS,bE]
@[go_sem] def zJO{j n:Nat}:fS d (.as b s p i j n)=if s=d then jP else .as b s p i j n:=by simp[fS,bE]
@[go_sem] def zJN :fS d (.cl s g us)=if s=d then jP else .cl s g us:=by simp[fS,bE]
@[go_sem] def zLA{j n:Nat}:fS d (.ra s p i j n)=if s=d then jP else .ra s p i j n:=by simp[fS,bE]
@[go_sem] def zPm :fS d jP=jP:=(rfl)
@[go_sem] def zQK{n:Nat}{x:PV}:dr s n (.v x)=.v x:=by simp[dr,bE]
@[go_sem] def zHP{n:Nat}:dr s n .skip=.skip:=by simp[dr,bE]
@[go_sem] def zMv{n:Nat}{r:List (List PV)}:dr s n (.ls es r)=.ls es r:=by simp[dr,bE]
@[go_sem] def zL5{n:Nat}:dr s n (.bl r)=.bl r:=by simp[dr,bE]
@[go_sem] def zJ8{n j:Nat}:dr s n (.pt s' p i j)=if s'=s/\n<=p.length then jP else .pt s' p i j:=by simp[dr,bE,lG]
@[go_sem] def zM2{n:Nat}:dr s n (.rf s' p)=if s'=s/\n<=p.length then jP else .rf s' p:=by simp[dr,bE,lG]
@[go_sem] def zNq{n:Nat}:dr s n (.rv s' p lo hi)=if s'=s/\n<=p.length then jP else .rv s' p lo hi:=by simp[dr,bE,lG]
@[go_sem] def zKz{n j m:Nat}:dr s n (.as b s' p i j m)=if s'=s/\n<=p.length+1 then jP else .as b s' p i j m:=by simp[dr,bE,lG]
@[go_sem] def zMo{n:Nat}:dr s n (.cl s' g us)=if s'=s/\n<=0 then jP else .cl s' g us:=by simp[dr,bE,lG]
@[go_sem] def zJQ{n j m:Nat}:dr s n (.ra s' p i j m)=if s'=s/\n<=p.length+1 then jP else .ra s' p i j m:=by simp[dr,bE,lG]
@[go_sem] def zQW{n:Nat}:dr s n jP=jP:=by simp[dr,bE,jP]
@[go_sem] def zLN{x:PF}{l:List (Nat×PF)}{t:Nat}:ah.eU ((s,x)::l) t=if t=s then x else ah.eU l t:=(rfl)
@[go_sem] def zQ1{t:Nat}:ah.eU [] t=jP:=(rfl)
@[go_sem] def zJb{as:List (Md×PV)}{t:Nat}:r8 as t=Ga as[t]? :=(rfl)
@[go_sem] def zIW{m:Md}{x:PV}:Ga (J (m,x))=.v x:=(rfl)
@[go_sem] def zIs:Ga ae=jP:=(rfl)
@[go_sem] def zUF:dB .ax=Z:=(rfl)
@[go_sem] def zKc :dB (.bool b)=aa:=(rfl)
@[go_sem] def zQa :dB (.int j n)=aa:=(rfl)
@[go_sem] def zOw{s:ByteArray}:dB (.str s)=aa:=(rfl)
@[go_sem] def zSA{r:List (List PV)}:dB (.sl o es r)=aa:=(rfl)
@[go_sem] def zRx :dB (.fp r)=aa:=(rfl)
@[go_sem] def zS9 :dB (.bx r)=aa:=(rfl)
@[go_sem] def zNX{a b:List PV}:dB (.func f a b)=aa:=(rfl)
@[go_sem] def zOh :dB (.agg r)=aa:=(rfl)
@[go_sem] def zOR :dB (.bS r)=aa:=(rfl)
@[go_sem] def zN6:dB .fX=aa:=(rfl)
@[go_sem] def zMz:dB .gu=aa:=(rfl)
@[go_sem] def zKX:dB .ia=aa:=(rfl)
@[go_sem] def zSQ:bN .ax=aa:=by simp[bN]
@[go_sem] def zIK :bN (.bool b)=aa:=by simp[bN]
@[go_sem] def zMN :bN (.int j n)=aa:=by simp[bN]
@[go_sem] def zMa{s:ByteArray}:bN (.str s)=aa:=by simp[bN]
@[go_sem] def zOY :bN (.fp r)=aa:=by simp[bN]
@[go_sem] def zJq{a b:List PV}:bN (.func f a b)=aa:=by simp[bN]
@[go_sem] def zIu:bN .fX=aa:=by simp[bN]
@[go_sem] def zJG:bN .gu=aa:=by simp[bN]
@[go_sem] def zIN:bN .ia=aa:=by simp[bN]
attribute [go_sem] zkB zu5 ziI zsF zjJ zq8 zpj zt6 zps zt7 zrz zrx
@[go_sem] def zSj:drop .ax=.ax:=by simp[drop]
@[go_sem] def zIH :drop (.bool b)=.bool b:=by simp[drop]
@[go_sem] def zLV :drop (.int j n)=.int j n:=by simp[drop]
@[go_sem] def zJR{s:ByteArray}:drop (.str s)=.str s:=by simp[drop]
@[go_sem] def zPt :drop (.fp r)=.fp r:=by simp[drop]
@[go_sem] def zIY{a b:List PV}:drop (.func f a b)=.func f a b:=by simp[drop]
@[go_sem] def zIx:drop .fX=.fX:=by simp[drop]
@[go_sem] def zIX:drop .gu=.gu:=by simp[drop]
@[go_sem] def zIF:drop .ia=.ia:=by simp[drop]
@[go_sem] def zPT:cV .ax=Z:=by simp[cV]
@[go_sem] def zFJ :cV (.bool b)=Z:=by simp[cV]
@[go_sem] def zJL :cV (.int j n)=Z:=by simp[cV]
@[go_sem] def zIq{s:ByteArray}:cV (.str s)=Z:=by simp[cV]
@[go_sem] def zMu :cV (.fp r)=aa:=by simp[cV]
@[go_sem] def zFz{a b:List PV}:cV (.func f a b)=aa:=by simp[cV]
@[go_sem] def zIl:cV .fX=Z:=by simp[cV]
@[go_sem] def zGh :qT (.int j n)=Z:=(rfl)
@[go_sem] def zEm :qT (.bool b)=Z:=(rfl)
@[go_sem] def zIm{s:ByteArray}:qT (.str s)=Z:=(rfl)
@[go_sem] def zI3{r:List (List PV)}:qT (.sl o es r)=Z:=(rfl)
@[go_sem] def zJx :qT (.bx r)=Z:=(rfl)
@[go_sem] def zIB :qT (.fp r)=Z:=(rfl)
@[go_sem] def zEc{a b:List PV}:qT (.func f a b)=Z:=(rfl)
@[go_sem] def zEo :kg (.int j n)=Z:=(rfl)
@[go_sem] def zDY :kg (.bool b)=Z:=(rfl)
@[go_sem] def zD5{s:ByteArray}:kg (.str s)=Z:=(rfl)
@[go_sem] def zGr{r:List (List PV)}:kg (.sl o es r)=Z:=(rfl)
@[go_sem] def zEe :kg (.agg r)=Z:=(rfl)
@[go_sem] def zGS :kg (.bx r)=Z:=(rfl)
@[go_sem] def zH2 :kg (.fp r)=Z:=(rfl)
@[go_sem] def zDb{a b:List PV}:kg (.func f a b)=Z:=(rfl)
@[go_sem] def zHo :cR (.int j n)=[.int j n]:=(rfl)
@[go_sem] def zD8 :cR (.bool b)=[.bool b]:=(rfl)
@[go_sem] def zGz{s:ByteArray}:cR (.str s)=[.str s]:=(rfl)
@[go_sem] def zJy{r:List (List PV)}:cR (.sl o es r)=[.sl o es r]:=(rfl)
@[go_sem] def zGO :cR (.agg r)=r:=(rfl)
@[go_sem] def zJv :cR (.bx r)=[.bx r]:=(rfl)
@[go_sem] def zIw :cR (.fp r)=[.fp r]:=(rfl)
@[go_sem] def zEb{a b:List PV}:cR (.func f a b)=[.func f a b]:=(rfl)
@[go_sem] def zJg :nF e (.bool b)=.bool b:=(rfl)
@[go_sem] def zNH :nF e (.int j n)=.int j n:=(rfl)
@[go_sem] def zNQ{s:ByteArray}:nF e (.string s)=.str s:=(rfl)
@[go_sem] def zMw :nF e (.slice ae 0 0)=.sl Z e []:=(rfl)
@[go_sem] def zJr :nF e .nilFunc=.fX:=(rfl)
@[go_sem] def zPx :cz (.int j n)=Z:=(rfl)
@[go_sem] def zL3 :cz (.bool b)=Z:=(rfl)
@[go_sem] def zOf{b:ByteArray}:cz (.string b)=Z:=(rfl)
@[go_sem] def zPi:cz (.slice ae 0 0)=Z:=(rfl)
@[go_sem] def zMp:cz .nilFunc=Z:=(rfl)
@[go_sem] def zQn{t:Tmp}:cu pf (.tmp t)=EK (pf t):=(rfl)
@[go_sem] def zSR{x:PV}:EK (.v x)=tx x:=(rfl)
@[go_sem] def zJk:EK .skip=ae:=(rfl)
@[go_sem] def zKZ :tx (.bool b)=J (.bool b):=(rfl)
@[go_sem] def zQQ :tx (.int j n)=J (.int j n):=(rfl)
@[go_sem] def zRh{s:ByteArray}:tx (.str s)=J (.string s):=(rfl)
@[go_sem] def zQT{l:List PV}:tx (.agg l)=(yC l).map λl=>.agg l.toArray:=(rfl)
@[go_sem] def zKv:yC []=J []:=(rfl)
@[go_sem] def zK2 :yC (.int j n::r)=(yC r).map λl=>.int j n::l:=(rfl)
@[go_sem] def zQ0 :cu pf (.const (.int j n))=J (.int j n):=(rfl)
@[go_sem] def zNR :cu pf (.const (.bool b))=J (.bool b):=(rfl)
@[go_sem] def zO8{b:ByteArray}:cu pf (.const (.string b))=J (.string b):=(rfl)
@[go_sem] def zHu :l4 (.bool b)=J (.bool b):=(rfl)
@[go_sem] def zJu :l4 (.int j n)=J (.int j n):=(rfl)
@[go_sem] def zIJ{s:ByteArray}:l4 (.string s)=J (.str s):=(rfl)
def CD(f:Value->Option Value)(x:Option Value)(pf:ah):Option (PF×ah):=(x.bind λa=>(f a).bind l4).map λy=>(.v y,pf)
def yL(f:Value->Value->Option Value)(x y:Option Value)(pf:ah):Option (PF×ah):=(x.bind λa=>y.bind λb=>(f a b).bind l4).map λy=>(.v y,pf)
def sK(x:Option Value)(pf:ah):Option (PF×ah):=(x.bind l4).map λy=>(.v y,pf)
@[go_sem] def zLf{f:Value->Option Value}{a:Value}:CD f (J a) pf=sK (f a) pf:=(rfl)
@[go_sem] def zNf{f:Value->Value->Option Value}{a b:Value}:yL f (J a) (J b) pf=sK (f a b) pf:=(rfl)
@[go_sem] def zKu :sK (J (.bool b)) pf=J (.v (.bool b),pf):=(rfl)
@[go_sem] def zPb :sK (J (.int j n)) pf=J (.v (.int j n),pf):=(rfl)
@[go_sem] def zRg{s:ByteArray}:sK (J (.string s)) pf=J (.v (.str s),pf):=(rfl)
def CL{o:Oper}{x:Option (PF×ah)}(h:(((gG o.op).bind (pR pf)).bind λvs=>(eY P o.op vs).bind l4).map (λy=>(PF.v y,pf))=x):lU P co o (pw P c k Q) pf=qv P c co x o.dst k Q:=by
 subst h;unfold lU;cases (gG o.op).bind (pR pf)with
 |none=>rfl
 |some vs=>
  simp only[aS];cases (eY P o.op vs).bind l4<;>rfl
@[go_sem ↓] def zLh{op:UnOp}{d:Option Tmp}:pw1 P c co ty (.unOp op t x) d k Q pf=qv P c co (CD (EU op) (cu pf x) pf) d k Q:=by
 refine CL (o:=⟨d,.unOp op t x,ty, "",#[],ae⟩) ?_;simp only[gG,pR,aS];cases cu pf x<;>simp[eY,CD]
def zrk{s:TypeId}{d:Tmp}(ht:eC P t=Z)(hp:co.hp≠[]\/LA pf x=Z):pw1 P c co ty (.convert s t x) (J d) k Q pf=qv P c co (A1 P s pf x) (J d) k Q:=by
 show(if eC P t=Z then(co.hp≠[]\/LA pf x=Z)/\y7 P co s t x (J d) (pw P c k Q) pf else _)=_;rw[aD ht];unfold y7 qv;cases A1 P s pf x with
 |none=>simp[hp]
 |some z=>simp[hp,ht]
@[go_sem ↓] def zLE{s:TypeId}{d:Tmp}(ht:eC P t=Z)(hp:co.hp.isEmpty=aa):pw1 P c co ty (.convert s t x) (J d) k Q pf=qv P c co (A1 P s pf x) (J d) k Q:=zrk ht (.inl λe=>by rw[e]at hp;cases hp)
@[go_sem] def zLD{rows:List (List PV)}:JE (.ls 1 rows)=Z:=(rfl)
@[go_sem ↓] def zIU{s:TypeId}{u:Nat}{d:Tmp}(ht:eC P t=Z)(hl:JE (pf u)=Z):pw1 P c co ty (.convert s t (.tmp u)) (J d) k Q pf=qv P c co (A1 P s pf (.tmp u)) (J d) k Q:=zrk ht (.inr hl)
@[go_sem ↓] def zD1{s:TypeId}{d:Option Tmp}(ht:eC P t=aa):pw1 P c co ty (.convert s t x) d k Q pf=qv P c co (CD (GU P s t) (cu pf x) pf) d k Q:=by
 have e:pw1 P c co ty (.convert s t x) d k Q pf=lU P co ⟨d,.convert s t x,ty, "",#[],ae⟩ (pw P c k Q) pf:=by
  show(if eC P t=Z then(co.hp≠[]\/LA pf x=Z)/\y7 P co s t x d (pw P c k Q) pf else lU P co ⟨d,.convert s t x,ty, "",#[],ae⟩ (pw P c k Q) pf)=_;rw[aB (by simp[ht])]
 rw[e];refine CL (o:=⟨d,.convert s t x,ty, "",#[],ae⟩) ?_;simp only[gG,pR,aS];cases cu pf x<;>simp[eY,CD]
@[go_sem] def zHO{t:Tmp}:vk (.tmp t)=aa:=(rfl)
@[go_sem] def zGE :vk (.const (.int j n))=aa:=(rfl)
@[go_sem] def zEa :vk (.const (.bool b))=aa:=(rfl)
@[go_sem] def zF5{s:ByteArray}:vk (.const (.string s))=aa:=(rfl)
@[go_sem ↓] def zIL{u:TypeId}{op:BinOp}{y:Operand}{d:Option Tmp}(hy:vk y=aa):pw1 P c co ty (.binOp op t x y u) d k Q pf=qv P c co (yL (di P op t) (cu pf x) (cu pf y) pf) d k Q:=by
 have e:pw1 P c co ty (.binOp op t x y u) d k Q pf=lU P co ⟨d,.binOp op t x y u,ty, "",#[],ae⟩ (pw P c k Q) pf:=by
  show oe P co ⟨d,.binOp op t x y u,ty, "",#[],ae⟩ (pw P c k Q) pf=_;simp only[oe,hy,qH,my]
 rw[e];refine CL (o:=⟨d,.binOp op t x y u,ty, "",#[],ae⟩) ?_;simp only[gG,pR,aS];cases cu pf x<;>cases cu pf y<;>simp[eY,yL]
@[go_sem ↓] def zI0{y:Operand}{d:Option Tmp}:pw1 P c co ty (.index t x y) d k Q pf=qv P c co (yL (yK P t) (cu pf x) (cu pf y) pf) d k Q:=by
 refine CL (o:=⟨d,.index t x y,ty, "",#[],ae⟩) ?_;simp only[gG,pR,aS];cases cu pf x<;>cases cu pf y<;>simp[eY,yL]
@[go_sem ↓] def zQs{y:Operand}{ts:Array TypeId}{d:Option Tmp}:pw1 P c co ty (.call ⟨.builtin .min,#[x,y],ts⟩) d k Q pf=qv P c co (yL (vz aa) (cu pf x) (cu pf y) pf) d k Q:=by
 refine CL (o:=⟨d,.call ⟨.builtin .min,#[x,y],ts⟩,ty, "",#[],ae⟩) ?_;simp only[gG,pR,aS];cases cu pf x<;>cases cu pf y<;>simp[eY,yL]
@[go_sem ↓] def zOQ{y:Operand}{ts:Array TypeId}{d:Option Tmp}:pw1 P c co ty (.call ⟨.builtin .max,#[x,y],ts⟩) d k Q pf=qv P c co (yL (vz Z) (cu pf x) (cu pf y) pf) d k Q:=by
 refine CL (o:=⟨d,.call ⟨.builtin .max,#[x,y],ts⟩,ty, "",#[],ae⟩) ?_;simp only[gG,pR,aS];cases cu pf x<;>cases cu pf y<;>simp[eY,yL]
@[go_sem] def zJ4{s d:TypeId}{i k:IntKind}(hs:j9 P s=J i)(hd:j9 P d=J k):GU P s d (.int j n)=J (.int k (k.wrap n)):=by
 unfold GU
 have:∃u,P.underlying s=J u:=by
  unfold j9 at hs;split at hs
  ·rename_i h;exact⟨_,h⟩
  ·cases hs
 obtain⟨u,hu⟩:=this;rw[hu,hd]
@[go_sem] def zOe{b:Int}:di P .add t (.int j a) (.int j b)=J (.int j (j.wrap (a+b))):=by simp[di,kh]
@[go_sem] def zQm{b:Int}:di P .sub t (.int j a) (.int j b)=J (.int j (j.wrap (a-b))):=by simp[di,kh]
@[go_sem] def zO0{b:Int}:di P .mul t (.int j a) (.int j b)=J (.int j (j.wrap (a*b))):=by simp[di,kh]
def wa(b:Int)(x:Value):Option Value:=if b=0 then ae else J x
@[go_sem] def zQH{b:Int}:di P .quo t (.int j a) (.int j b)=wa b (.int j (j.wrap (a.tdiv b))):=by simp[di,kh,wa]
@[go_sem] def zQu{b:Int}:di P .rem t (.int j a) (.int j b)=wa b (.int j (a.tmod b)):=by simp[di,kh,wa]
def Rc{b:Int}{x:Value}(h:b≠0):wa b x=J x:=by simp[wa,h]
@[go_sem] def zJS{x:Value}{n:Nat}:wa (OfNat.ofNat (n+1)) x=J x:=by
 refine Rc ?_;show((n+1:Nat):Int)≠0;omega
@[go_sem] def zOy{b:Int}:di P .eql t (.int j a) (.int j b)=J (.bool (a==b)):=by simp[di,kh]
@[go_sem] def zN9{b:Int}:di P .neq t (.int j a) (.int j b)=J (.bool (a !=b)):=by simp[di,kh]
@[go_sem] def zPu{b:Int}:di P .lss t (.int j a) (.int j b)=J (.bool (decide (a<b))):=by simp[di,kh]
@[go_sem] def zOm{b:Int}:di P .leq t (.int j a) (.int j b)=J (.bool (decide (a<=b))):=by simp[di,kh]
@[go_sem] def zPW{b:Int}:di P .gtr t (.int j a) (.int j b)=J (.bool (decide (b<a))):=by simp[di,kh]
@[go_sem] def zPX{b:Int}:di P .geq t (.int j a) (.int j b)=J (.bool (decide (b<=a))):=by simp[di,kh]
@[go_sem] def zQ4{b:Int}:di P .and t (.int j a) (.int j b)=J (.int j (j.wrap (BitVec.ofInt j.bits a&&&BitVec.ofInt j.bits b).toNat)):=by simp[di,kh]
@[go_sem] def zTi{b:Int}:di P .or t (.int j a) (.int j b)=J (.int j (j.wrap (BitVec.ofInt j.bits a|||BitVec.ofInt j.bits b).toNat)):=by simp[di,kh]
@[go_sem] def zQo{b:Int}:di P .xor t (.int j a) (.int j b)=J (.int j (j.wrap (BitVec.ofInt j.bits a^^^BitVec.ofInt j.bits b).toNat)):=by simp[di,kh]
def CH(b:Int)(x:Value):Option Value:=if b<0 then ae else J x
@[go_sem] def zQt{j':IntKind}{b:Int}:di P .shl t (.int j a) (.int j' b)=CH b (.int j (j.wrap (a*2^min b.toNat j.bits))):=by simp[di,CH]
@[go_sem] def zOV{j':IntKind}{b:Int}:di P .shr t (.int j a) (.int j' b)=CH b (.int j (a.fdiv (2^min b.toNat j.bits))):=by simp[di,CH]
def zAM{b:Int}{x:Value}(h:0<=b):CH b x=J x:=by simp[CH];omega
@[go_sem] def zM8{a:Bool}(h:EW P t=Z):di P .eql t (.bool a) (.bool b)=J (.bool (a==b)):=by simp[di,h]
@[go_sem] def zKJ{a:Bool}(h:EW P t=Z):di P .neq t (.bool a) (.bool b)=J (.bool (a !=b)):=by simp[di,h]
@[go_sem] def zL4{a b:List Value}{o:List Nat}(h:CI P t=J o):di P .eql t (.agg a.toArray) (.agg b.toArray)=(tD a b o).map .bool:=by simp[di,h]
@[go_sem] def zLs{a b:List Value}{o:List Nat}(h:CI P t=J o):di P .neq t (.agg a.toArray) (.agg b.toArray)=(tD a b o).map λr=>.bool !r:=by simp[di,h]
@[go_sem] def zVX{i:IntKind}{b x y:Int}:tD [.int j a,.int i b] [.int j x,.int i y] [0,1]=J (a==x&&b==y):=by simp[tD]
@[go_sem] def zNB{a b:ByteArray}:di P .eql t (.string a) (.string b)=J (.bool (a.toList==b.toList)):=(rfl)
@[go_sem] def zLF{a b:ByteArray}(h:a.size+b.size<=9223372036854775807):di P .add t (.string a) (.string b)=J (.string (a++b)):=by simp[di,h]
@[go_sem] def zVQ{s:TypeId}(h:uH P s=Z):A1 P s pf x=(qn 1 pf x).bind λz=>(wO z.1).map λns=>(.v (.str (yd ns)),z.2):=by unfold A1;rw[aD h]
@[go_sem] def zJp:wO []=J []:=(rfl)
@[go_sem] def zwA{rs:List (List PV)}:wO ([.int .u8 n]::rs)=(wO rs).map (n:: ·):=(rfl)
@[go_sem] def zIS{f:Int->List PV}(h:∀x,f x=[.int .u8 x]){l:List Int}:wO (l.map f)=J l:=by
 induction l with
 |nil=>rfl
 |cons x l ih=>rw[jT,h,zwA,ih];rfl
@[go_sem] def zNi{a b:ByteArray}:di P .neq t (.string a) (.string b)=J (.bool !(a.toList==b.toList)):=(rfl)
@[go_sem] def zSZ :EU .not (.bool b)=J (.bool !b):=(rfl)
@[go_sem] def zSJ :EU .neg (.int j n)=J (.int j (j.wrap (0-n))):=(rfl)
@[go_sem] def zGj{b:Int}:vz Z (.int j a) (.int j b)=J (.int j (if a<b then b else a)):=by simp[vz]
@[go_sem] def zEy{b:Int}:vz aa (.int j a) (.int j b)=J (.int j (if b<a then b else a)):=by simp[vz]
end
end Go.Pm
