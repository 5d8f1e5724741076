import Derived.Test.YtnojafnlicbhpaaGreatPmS
open Bool renaming false→aa,true→Z
open Option renaming none→ae,some→J
set_option linter.defProp false
namespace Go.Pm
open Go.Am
section
variable {P:Program}{c co:aY}{k:List iv}{Q:Exit->ah->Prop}{pf:ah}
variable{a n:Int}{b o:Bool}{d e es hi i lo s s':Nat}{f:Fn}{g:FuncId}{j:IntKind}{op:Op}{p:aA}{pre:List (Option Tmp)}{r us:List PV}{t ty:TypeId}{x:Operand}{y:PF}
@[go_sem] def zPn{a:Nat}{b f h:List Nat}:aY.CB ⟨a,b,f,h⟩=⟨a,b,f,[]⟩:=(rfl)
@[go_sem ↓] def zIF{id:Nat}{ops:List Oper}:pw P c (.code (.region id ops.toArray aa)::k) Q pf=pw P c (.ops (ops.map (·.dst)) ops::k) Q pf:=by
 show gx P c (.region id ops.toArray aa) (fF P c k Q) pf=_;simp only[gx,p7,l7];rfl
@[go_sem ↓] theorem zHY :pw P c (.ops pre []::k) Q pf=pw P c k Q pf:=rfl
def pw1(P:Program)(c co:aY)(ty:TypeId)(op:Op)(d:Option Tmp)(k:List iv)(Q:Exit->ah->Prop)(pf:ah):Prop:=nw P co ⟨d,op,ty, "",#[],ae⟩ (pw P c k Q) pf
def YE{o o':Oper}{K:ah->Prop}(h:o.op=o'.op)(hd:o.dst=o'.dst)(ht:o.type=o'.type):nw P c o K pf=nw P c o' K pf:=by
 obtain⟨d,op,ty,ps,af,g⟩:=o;obtain⟨d',op',Lg,ps',af',g'⟩:=o';simp only at h hd ht;subst h;subst hd;subst ht;rfl
@[go_sem ↓] def zUL{d:Option Tmp}{ps:String}{af:Array Edge}{l:List Oper}:
 pw P c (.ops pre (⟨d,op,ty,ps,af,ae⟩::l)::k) Q pf=pw1 P c c ty op d (.ops pre l::k) Q pf:=by
 show yT P c pre ⟨d,op,ty,ps,af,ae⟩ (pw P c (.ops pre l::k) Q) pf=_;simp only[yT];exact YE rfl rfl rfl
def pwg(P:Program)(c:aY)(y:Option (Option Bool))(b:Bool)(ty:TypeId)(op:Op)(d:Option Tmp)(k:List iv)(Q:Exit->ah->Prop)(pf:ah):Prop:=
 k9 c b d (pw1 P c c ty op d k Q pf) (pw P c k Q) pf y
def zxs{y y':Option (Option Bool)}{d:Option Tmp}(h:y=y'):pwg P c y b ty op d k Q pf=pwg P c y' b ty op d k Q pf:=by rw[h]
@[go_sem ↓] def zSt{d:Option Tmp}{ps:String}{af:Array Edge}{j:Nat}{l:List Oper}:
 pw P c (.ops pre (⟨d,op,ty,ps,af,J (j,b)⟩::l)::k) Q pf=pwg P c (A8 pf pre[j]?) b ty op d (.ops pre l::k) Q pf:=by
 show yT P c pre ⟨d,op,ty,ps,af,J (j,b)⟩ (pw P c (.ops pre l::k) Q) pf=_;simp only[yT];unfold pwg pw1;rw[YE (o:=⟨d,op,ty,ps,af,J (j,b)⟩) (o':=⟨d,op,ty, "",#[],ae⟩) rfl rfl rfl]
@[go_sem] def zMV{d:Tmp}:A8 pf (J (J d))=Kk (pf d):=(rfl)
@[go_sem] def zKk :Kk (.v (.bool b))=J (J b):=(rfl)
@[go_sem] def zM7:Kk .skip=J ae:=(rfl)
@[go_sem ↓] def zRS{d:Option Tmp}:pwg P c (J (J Z)) Z ty op d k Q pf=pw1 P c c ty op d k Q pf:=by simp[pwg,k9]
@[go_sem ↓] def zRM{d:Option Tmp}:pwg P c (J (J aa)) aa ty op d k Q pf=pw1 P c c ty op d k Q pf:=by simp[pwg,k9]
@[go_sem ↓] def zRH{d:Tmp}(h:gJ c d .skip=Z):pwg P c (J (J Z)) aa ty op (J d) k Q pf=pw P c k Q (pf.put d .skip):=by simp[pwg,k9,uk,h]
@[go_sem ↓] def zSk{d:Tmp}(h:gJ c d .skip=Z):pwg P c (J (J aa)) Z ty op (J d) k Q pf=pw P c k Q (pf.put d .skip):=by simp[pwg,k9,uk,h]
@[go_sem ↓] def zTs{d:Tmp}(h:gJ c d .skip=Z):pwg P c (J ae) b ty op (J d) k Q pf=pw P c k Q (pf.put d .skip):=by simp[pwg,k9,uk,h]
def zyp{y:Bool}{d:Option Tmp}(h1:y=Z->pwg P c (J (J Z)) b ty op d k Q pf)(h2:y=aa->pwg P c (J (J aa)) b ty op d k Q pf):pwg P c (J (J y)) b ty op d k Q pf:=by
 cases y
 ·exact h2 rfl
 ·exact h1 rfl
def qv(P:Program)(c co:aY)(x:Option (PF×ah))(d:Option Tmp)(k:List iv)(Q:Exit->ah->Prop):Prop:=
 match x with
 |some a=>dB co (pw P c k Q) d a.1 a.2
 |none=>False
def qz(P:Program)(c:aY)(d:Nat)(k:List iv)(Q:Exit->ah->Prop)(x:Option (PF×ah)):Prop:=JS (pw P c k Q) d x
def zzq{x x':Option (PF×ah)}{d:Option Tmp}(h:x=x'):qv P c co x d k Q=qv P c co x' d k Q:=by rw[h]
def zyL{x x':Option (PF×ah)}(h:x=x'):qz P c d k Q x=qz P c d k Q x':=by rw[h]
@[go_sem ↓] def zO7{d:Tmp}(h:gJ co d y=Z)(hf:co.fz.contains d=aa):qv P c co (J (y,pf)) (J d) k Q=pw P c k Q (pf.put d y):=by simp only[qv,dB,h,hf];simp
@[go_sem ↓] def zVd{d:Tmp}(h:gJ co d y=Z)(hf:co.fz.contains d=Z):qv P c co (J (y,pf)) (J d) k Q=qz P c d k Q (ui pf y):=by simp only[qv,dB,h,hf];simp[qz]
@[go_sem ↓] theorem zSq :qv P c co (J (y,pf)) ae k Q=pw P c k Q pf:=rfl
@[go_sem ↓] theorem zPv :qz P c d k Q (J (y,pf))=pw P c k Q (pf.put d y):=rfl
def qf(P:Program)(c:aY)(x:Option ah)(k:List iv)(Q:Exit->ah->Prop):Prop:=
 match x with
 |some pf=>pw P c k Q pf
 |none=>False
def zzt{x x':Option ah}(h:x=x'):qf P c x k Q=qf P c x' k Q:=by rw[h]
@[go_sem ↓] theorem zQD:qf P c (J pf) k Q=pw P c k Q pf:=rfl
attribute [congr] zzs zxs zzq zyL zzt
@[go_sem] def zTg :gJ c d y=(decide (d<c.nt)&& !c.io.contains d&& !(bC y==J d)):=(rfl)
@[go_sem] def zPz{x:PV}:bC (.v x)=ae:=(rfl)
@[go_sem] def zGU:bC .skip=ae:=(rfl)
@[go_sem] def zLK{r:List (List PV)}:bC (.ls es r)=ae:=(rfl)
@[go_sem] def zKW :bC (.bl r)=ae:=(rfl)
@[go_sem] def zM4{j:Nat}:bC (.pt s p i j)=J s:=(rfl)
@[go_sem] def zNr :bC (.rf s p)=J s:=(rfl)
@[go_sem] def zNt :bC (.rv s p lo hi)=J s:=(rfl)
@[go_sem] def zNx{j n:Nat}:bC (.as b s p i j n)=J s:=(rfl)
@[go_sem] def zKN :bC (.cl s g us)=J s:=(rfl)
@[go_sem] def zNf{j n:Nat}:bC (.ra s p i j n)=J s:=(rfl)
@[go_sem] def zPd{t:Nat}{x:PF}:ah.put pf d x t=if t=d then x else fA d (pf t):=(rfl)
@[go_sem] def zRk{t:Nat}{x:PF}:ah.bU pf d x t=if t=d then x else pf t:=(rfl)
@[go_sem] def zL9{n t:Nat}:ah.kill pf s n t=df s n (pf t):=(rfl)
@[go_sem] def zQF{x:PV}:fA d (.v x)=.v x:=(rfl)
@[go_sem] def zGV :fA d .skip=.skip:=(rfl)
@[go_sem] def zKn{r:List (List PV)}:fA d (.ls es r)=.ls es r:=(rfl)
@[go_sem] def zM2 :fA d (.bl r)=.bl r:=(rfl)
@[go_sem] def zJJ{j:Nat}:fA d (.pt s p i j)=if s=d then jP else .pt s p i j:=by simp[fA,bC]
@[go_sem] def zNL :fA d (.rf s p)=if s=d then jP else .rf s p:=by simp[fA,bC]
@[go_sem] def zKo :fA d (.rv s p lo hi)=if s=d then jP else .rv s p lo hi:=by simp[fA,bC]
@[go_sem] def zJK{j n:Nat}:fA d (.as b s p i j n)=if s=d then jP else .as b s p i j n:=by simp[fA,bC]
@[go_sem] def zNh :fA d (.cl s g us)=if s=d then jP else .cl s g us:=by simp[fA,bC]
@[go_sem] def zKw{j n:Nat}:fA d (.ra s p i j n)=if s=d then jP else .ra s p i j n:=by simp[fA,bC]
@[go_sem] def zQt :fA d jP=jP:=(rfl)
@[go_sem] def zRe{n:Nat}{x:PV}:df s n (.v x)=.v x:=by simp[df,bC]
@[go_sem] def zFf{n:Nat}:df s n .skip=.skip:=by simp[df,bC]
@[go_sem] def zLl{n:Nat}{r:List (List PV)}:df s n (.ls es r)=.ls es r:=by simp[df,bC]
@[go_sem] def zMH{n:Nat}:df s n (.bl r)=.bl r:=by simp[df,bC]
@[go_sem] def zMs{n j:Nat}:df s n (.pt s' p i j)=if s'=s/\n<=p.length then jP else .pt s' p i j:=by simp[df,bC,lj]
@[go_sem] def zLc{n:Nat}:df s n (.rf s' p)=if s'=s/\n<=p.length then jP else .rf s' p:=by simp[df,bC,lj]
@[go_sem] def zM3{n:Nat}:df s n (.rv s' p lo hi)=if s'=s/\n<=p.length then jP else .rv s' p lo hi:=by simp[df,bC,lj]
@[go_sem] def zJ2{n j m:Nat}:df s n (.as b s' p i j m)=if s'=s/\n<=p.length+1 then jP else .as b s' p i j m:=by simp[df,bC,lj]
@[go_sem] def zKZ{n:Nat}:df s n (.cl s' g us)=if s'=s/\n<=0 then jP else .cl s' g us:=by simp[df,bC,lj]
@[go_sem] def zMf{n j m:Nat}:df s n (.ra s' p i j m)=if s'=s/\n<=p.length+1 then jP else .ra s' p i j m:=by simp[df,bC,lj]
@[go_sem] def zQh{n:Nat}:df s n jP=jP:=by simp[df,bC,jP]
@[go_sem] def zMN{x:PF}{l:List (Nat×PF)}{t:Nat}:ah.eu ((s,x)::l) t=if t=s then x else ah.eu l t:=(rfl)
@[go_sem] def zQZ{t:Nat}:ah.eu [] t=jP:=(rfl)
@[go_sem] def zIm{as:List (Md×PV)}{t:Nat}:qi as t=EP as[t]? :=(rfl)
@[go_sem] def zIz{m:Md}{x:PV}:EP (J (m,x))=.v x:=(rfl)
@[go_sem] def zIT:EP ae=jP:=(rfl)
@[go_sem] def zVz:dv .au=Z:=(rfl)
@[go_sem] def zM0 :dv (.bool b)=aa:=(rfl)
@[go_sem] def zP8 :dv (.int j n)=aa:=(rfl)
@[go_sem] def zOu{s:ByteArray}:dv (.str s)=aa:=(rfl)
@[go_sem] def zTk{r:List (List PV)}:dv (.sl o es r)=aa:=(rfl)
@[go_sem] def zRF :dv (.fp r)=aa:=(rfl)
@[go_sem] def zSG :dv (.bx r)=aa:=(rfl)
@[go_sem] def zJ6{a b:List PV}:dv (.func f a b)=aa:=(rfl)
@[go_sem] def zPr :dv (.agg r)=aa:=(rfl)
@[go_sem] def zOy :dv (.bO r)=aa:=(rfl)
@[go_sem] def zLs:dv .fD=aa:=(rfl)
@[go_sem] def zND:dv .fX=aa:=(rfl)
@[go_sem] def zN2:dv .gO=aa:=(rfl)
@[go_sem] def zR2:bL .au=aa:=by simp[bL]
@[go_sem] def zIK :bL (.bool b)=aa:=by simp[bL]
@[go_sem] def zLC :bL (.int j n)=aa:=by simp[bL]
@[go_sem] def zNT{s:ByteArray}:bL (.str s)=aa:=by simp[bL]
@[go_sem] def zPP :bL (.fp r)=aa:=by simp[bL]
@[go_sem] def zJI{a b:List PV}:bL (.func f a b)=aa:=by simp[bL]
@[go_sem] def zI8:bL .fD=aa:=by simp[bL]
@[go_sem] def zJf:bL .fX=aa:=by simp[bL]
@[go_sem] def zIM:bL .gO=aa:=by simp[bL]
attribute [go_sem] zkE zvp ziA zss zjB zqY zpl zsv zpq ztt zrm zrk
@[go_sem] def zSX:drop .au=.au:=by simp[drop]
@[go_sem] def zJD :drop (.bool b)=.bool b:=by simp[drop]
@[go_sem] def zL5 :drop (.int j n)=.int j n:=by simp[drop]
@[go_sem] def zNO{s:ByteArray}:drop (.str s)=.str s:=by simp[drop]
@[go_sem] def zQI :drop (.fp r)=.fp r:=by simp[drop]
@[go_sem] def zI5{a b:List PV}:drop (.func f a b)=.func f a b:=by simp[drop]
@[go_sem] def zIu:drop .fD=.fD:=by simp[drop]
@[go_sem] def zIB:drop .fX=.fX:=by simp[drop]
@[go_sem] def zIq:drop .gO=.gO:=by simp[drop]
@[go_sem] def zQV:cP .au=Z:=by simp[cP]
@[go_sem] def zHn :cP (.bool b)=Z:=by simp[cP]
@[go_sem] def zJC :cP (.int j n)=Z:=by simp[cP]
@[go_sem] def zIY{s:ByteArray}:cP (.str s)=Z:=by simp[cP]
@[go_sem] def zLQ :cP (.fp r)=aa:=by simp[cP]
@[go_sem] def zFL{a b:List PV}:cP (.func f a b)=aa:=by simp[cP]
@[go_sem] def zFD:cP .fD=Z:=by simp[cP]
@[go_sem] def zFu :qR (.int j n)=Z:=(rfl)
@[go_sem] def zD2 :qR (.bool b)=Z:=(rfl)
@[go_sem] def zGa{s:ByteArray}:qR (.str s)=Z:=(rfl)
@[go_sem] def zIL{r:List (List PV)}:qR (.sl o es r)=Z:=(rfl)
@[go_sem] def zJz :qR (.bx r)=Z:=(rfl)
@[go_sem] def zI7 :qR (.fp r)=Z:=(rfl)
@[go_sem] def zEp{a b:List PV}:qR (.func f a b)=Z:=(rfl)
@[go_sem] def zEh :jR (.int j n)=Z:=(rfl)
@[go_sem] def zDG :jR (.bool b)=Z:=(rfl)
@[go_sem] def zEa{s:ByteArray}:jR (.str s)=Z:=(rfl)
@[go_sem] def zFo{r:List (List PV)}:jR (.sl o es r)=Z:=(rfl)
@[go_sem] def zD3 :jR (.agg r)=Z:=(rfl)
@[go_sem] def zFM :jR (.bx r)=Z:=(rfl)
@[go_sem] def zGI :jR (.fp r)=Z:=(rfl)
@[go_sem] def zDk{a b:List PV}:jR (.func f a b)=Z:=(rfl)
@[go_sem] def zFa :cN (.int j n)=[.int j n]:=(rfl)
@[go_sem] def zEi :cN (.bool b)=[.bool b]:=(rfl)
@[go_sem] def zHf{s:ByteArray}:cN (.str s)=[.str s]:=(rfl)
@[go_sem] def zIZ{r:List (List PV)}:cN (.sl o es r)=[.sl o es r]:=(rfl)
@[go_sem] def zH6 :cN (.agg r)=r:=(rfl)
@[go_sem] def zII :cN (.bx r)=[.bx r]:=(rfl)
@[go_sem] def zJt :cN (.fp r)=[.fp r]:=(rfl)
@[go_sem] def zEc{a b:List PV}:cN (.func f a b)=[.func f a b]:=(rfl)
@[go_sem] def zIG :ng e (.bool b)=.bool b:=(rfl)
@[go_sem] def zNV :ng e (.int j n)=.int j n:=(rfl)
@[go_sem] def zJS{s:ByteArray}:ng e (.string s)=.str s:=(rfl)
@[go_sem] def zKq :ng e (.slice ae 0 0)=.sl Z e []:=(rfl)
@[go_sem] def zIQ :ng e .nilFunc=.fD:=(rfl)
@[go_sem] def zQ9 :cr (.int j n)=Z:=(rfl)
@[go_sem] def zKM :cr (.bool b)=Z:=(rfl)
@[go_sem] def zQ2{b:ByteArray}:cr (.string b)=Z:=(rfl)
@[go_sem] def zQB:cr (.slice ae 0 0)=Z:=(rfl)
@[go_sem] def zNQ:cr .nilFunc=Z:=(rfl)
@[go_sem] def zO0{t:Tmp}:cu pf (.tmp t)=Dm (pf t):=(rfl)
@[go_sem] def zSR{x:PV}:Dm (.v x)=sL x:=(rfl)
@[go_sem] def zIr:Dm .skip=ae:=(rfl)
@[go_sem] def zMB :sL (.bool b)=J (.bool b):=(rfl)
@[go_sem] def zOB :sL (.int j n)=J (.int j n):=(rfl)
@[go_sem] def zOi{s:ByteArray}:sL (.str s)=J (.string s):=(rfl)
@[go_sem] def zPe{l:List PV}:sL (.agg l)=(yq l).map λl=>.agg l.toArray:=(rfl)
@[go_sem] def zKA:yq []=J []:=(rfl)
@[go_sem] def zMk :yq (.int j n::r)=(yq r).map λl=>.int j n::l:=(rfl)
@[go_sem] def zQz :cu pf (.const (.int j n))=J (.int j n):=(rfl)
@[go_sem] def zLW :cu pf (.const (.bool b))=J (.bool b):=(rfl)
@[go_sem] def zPG{b:ByteArray}:cu pf (.const (.string b))=J (.string b):=(rfl)
@[go_sem] def zHM :lG (.bool b)=J (.bool b):=(rfl)
@[go_sem] def zI0 :lG (.int j n)=J (.int j n):=(rfl)
@[go_sem] def zJw{s:ByteArray}:lG (.string s)=J (.str s):=(rfl)
def B2(f:Value->Option Value)(x:Option Value)(pf:ah):Option (PF×ah):=(x.bind λa=>(f a).bind lG).map λy=>(.v y,pf)
def xU(f:Value->Value->Option Value)(x y:Option Value)(pf:ah):Option (PF×ah):=(x.bind λa=>y.bind λb=>(f a b).bind lG).map λy=>(.v y,pf)
def sB(x:Option Value)(pf:ah):Option (PF×ah):=(x.bind lG).map λy=>(.v y,pf)
@[go_sem] def zNg{f:Value->Option Value}{a:Value}:B2 f (J a) pf=sB (f a) pf:=(rfl)
@[go_sem] def zM5{f:Value->Value->Option Value}{a b:Value}:xU f (J a) (J b) pf=sB (f a b) pf:=(rfl)
@[go_sem] def zMb :sB (J (.bool b)) pf=J (.v (.bool b),pf):=(rfl)
@[go_sem] def zOb :sB (J (.int j n)) pf=J (.v (.int j n),pf):=(rfl)
@[go_sem] def zQg{s:ByteArray}:sB (J (.string s)) pf=J (.v (.str s),pf):=(rfl)
def Bm{o:Oper}{x:Option (PF×ah)}(h:(((gp o.op).bind (pB pf)).bind λvs=>(eG P o.op vs).bind lG).map (λy=>(PF.v y,pf))=x):lZ P co o (pw P c k Q) pf=qv P c co x o.dst k Q:=by
 subst h;unfold lZ;cases (gp o.op).bind (pB pf)with
 |none=>rfl
 |some vs=>
  simp only[aR];cases (eG P o.op vs).bind lG<;>rfl
@[go_sem ↓] def zLJ{op:UnOp}{d:Option Tmp}:pw1 P c co ty (.unOp op t x) d k Q pf=qv P c co (B2 (Ev op) (cu pf x) pf) d k Q:=by
 refine Bm (o:=⟨d,.unOp op t x,ty, "",#[],ae⟩) ?_;simp only[gp,pB,aR];cases cu pf x<;>simp[eG,B2]
def Wa{s:TypeId}{d:Tmp}(ht:dW P t=Z)(hp:co.hp≠[]\/HP pf x=Z):pw1 P c co ty (.convert s t x) (J d) k Q pf=qv P c co (AL P s pf x) (J d) k Q:=by
 show(if dW P t=Z then(co.hp≠[]\/HP pf x=Z)/\xz P co s t x (J d) (pw P c k Q) pf else _)=_;rw[aB ht];unfold xz qv;cases AL P s pf x with
 |none=>simp[hp]
 |some z=>simp[hp,ht]
@[go_sem ↓] def zKT{s:TypeId}{d:Tmp}(ht:dW P t=Z)(hp:co.hp.isEmpty=aa):pw1 P c co ty (.convert s t x) (J d) k Q pf=qv P c co (AL P s pf x) (J d) k Q:=Wa ht (.inl λe=>by rw[e]at hp;cases hp)
@[go_sem] def zNY{rows:List (List PV)}:G0 (.ls 1 rows)=Z:=(rfl)
@[go_sem ↓] def zIn{s:TypeId}{u:Nat}{d:Tmp}(ht:dW P t=Z)(hl:G0 (pf u)=Z):pw1 P c co ty (.convert s t (.tmp u)) (J d) k Q pf=qv P c co (AL P s pf (.tmp u)) (J d) k Q:=Wa ht (.inr hl)
@[go_sem ↓] def zEl{s:TypeId}{d:Option Tmp}(ht:dW P t=aa):pw1 P c co ty (.convert s t x) d k Q pf=qv P c co (B2 (Es P s t) (cu pf x) pf) d k Q:=by
 have e:pw1 P c co ty (.convert s t x) d k Q pf=lZ P co ⟨d,.convert s t x,ty, "",#[],ae⟩ (pw P c k Q) pf:=by
  show(if dW P t=Z then(co.hp≠[]\/HP pf x=Z)/\xz P co s t x d (pw P c k Q) pf else lZ P co ⟨d,.convert s t x,ty, "",#[],ae⟩ (pw P c k Q) pf)=_;rw[az (by simp[ht])]
 rw[e];refine Bm (o:=⟨d,.convert s t x,ty, "",#[],ae⟩) ?_;simp only[gp,pB,aR];cases cu pf x<;>simp[eG,B2]
@[go_sem] def zIe{t:Tmp}:v6 (.tmp t)=aa:=(rfl)
@[go_sem] def zEs :v6 (.const (.int j n))=aa:=(rfl)
@[go_sem] def zD5 :v6 (.const (.bool b))=aa:=(rfl)
@[go_sem] def zHw{s:ByteArray}:v6 (.const (.string s))=aa:=(rfl)
@[go_sem ↓] def zIH{u:TypeId}{op:BinOp}{y:Operand}{d:Option Tmp}(hy:v6 y=aa):pw1 P c co ty (.binOp op t x y u) d k Q pf=qv P c co (xU (cW P op t) (cu pf x) (cu pf y) pf) d k Q:=by
 have e:pw1 P c co ty (.binOp op t x y u) d k Q pf=lZ P co ⟨d,.binOp op t x y u,ty, "",#[],ae⟩ (pw P c k Q) pf:=by
  show nw P co ⟨d,.binOp op t x y u,ty, "",#[],ae⟩ (pw P c k Q) pf=_;simp only[nw,hy,p7,l7]
 rw[e];refine Bm (o:=⟨d,.binOp op t x y u,ty, "",#[],ae⟩) ?_;simp only[gp,pB,aR];cases cu pf x<;>cases cu pf y<;>simp[eG,xU]
@[go_sem ↓] def zIO{y:Operand}{d:Option Tmp}:pw1 P c co ty (.index t x y) d k Q pf=qv P c co (xU (rC P t) (cu pf x) (cu pf y) pf) d k Q:=by
 refine Bm (o:=⟨d,.index t x y,ty, "",#[],ae⟩) ?_;simp only[gp,pB,aR];cases cu pf x<;>cases cu pf y<;>simp[eG,xU]
@[go_sem ↓] def zRf{y:Operand}{ts:Array TypeId}{d:Option Tmp}:pw1 P c co ty (.call ⟨.builtin .min,#[x,y],ts⟩) d k Q pf=qv P c co (xU (uy aa) (cu pf x) (cu pf y) pf) d k Q:=by
 refine Bm (o:=⟨d,.call ⟨.builtin .min,#[x,y],ts⟩,ty, "",#[],ae⟩) ?_;simp only[gp,pB,aR];cases cu pf x<;>cases cu pf y<;>simp[eG,xU]
@[go_sem ↓] def zOZ{y:Operand}{ts:Array TypeId}{d:Option Tmp}:pw1 P c co ty (.call ⟨.builtin .max,#[x,y],ts⟩) d k Q pf=qv P c co (xU (uy Z) (cu pf x) (cu pf y) pf) d k Q:=by
 refine Bm (o:=⟨d,.call ⟨.builtin .max,#[x,y],ts⟩,ty, "",#[],ae⟩) ?_;simp only[gp,pB,aR];cases cu pf x<;>cases cu pf y<;>simp[eG,xU]
@[go_sem] def zN3{s d:TypeId}{i k:IntKind}(hs:jW P s=J i)(hd:jW P d=J k):Es P s d (.int j n)=J (.int k (k.wrap n)):=by
 unfold Es
 have:∃u,P.underlying s=J u:=by
  unfold jW at hs;split at hs
  ·rename_i h;exact⟨_,h⟩
  ·cases hs
 obtain⟨u,hu⟩:=this;rw[hu,hd]
@[go_sem] def zOK{b:Int}:cW P .add t (.int j a) (.int j b)=J (.int j (j.wrap (a+b))):=by simp[cW,jV]
@[go_sem] def zQl{b:Int}:cW P .sub t (.int j a) (.int j b)=J (.int j (j.wrap (a-b))):=by simp[cW,jV]
@[go_sem] def zOR{b:Int}:cW P .mul t (.int j a) (.int j b)=J (.int j (j.wrap (a*b))):=by simp[cW,jV]
def uP(b:Int)(x:Value):Option Value:=if b=0 then ae else J x
@[go_sem] def zOa{b:Int}:cW P .quo t (.int j a) (.int j b)=uP b (.int j (j.wrap (a.tdiv b))):=by simp[cW,jV,uP]
@[go_sem] def zQk{b:Int}:cW P .rem t (.int j a) (.int j b)=uP b (.int j (a.tmod b)):=by simp[cW,jV,uP]
def Q5{b:Int}{x:Value}(h:b≠0):uP b x=J x:=by simp[uP,h]
@[go_sem] def zJM{x:Value}{n:Nat}:uP (OfNat.ofNat (n+1)) x=J x:=by
 refine Q5 ?_;show((n+1:Nat):Int)≠0;omega
@[go_sem] def zOh{b:Int}:cW P .eql t (.int j a) (.int j b)=J (.bool (a==b)):=by simp[cW,jV]
@[go_sem] def zN8{b:Int}:cW P .neq t (.int j a) (.int j b)=J (.bool (a !=b)):=by simp[cW,jV]
@[go_sem] def zPZ{b:Int}:cW P .lss t (.int j a) (.int j b)=J (.bool (decide (a<b))):=by simp[cW,jV]
@[go_sem] def zP6{b:Int}:cW P .leq t (.int j a) (.int j b)=J (.bool (decide (a<=b))):=by simp[cW,jV]
@[go_sem] def zP7{b:Int}:cW P .gtr t (.int j a) (.int j b)=J (.bool (decide (b<a))):=by simp[cW,jV]
@[go_sem] def zOe{b:Int}:cW P .geq t (.int j a) (.int j b)=J (.bool (decide (b<=a))):=by simp[cW,jV]
@[go_sem] def zQf{b:Int}:cW P .and t (.int j a) (.int j b)=J (.int j (j.wrap (BitVec.ofInt j.bits a&&&BitVec.ofInt j.bits b).toNat)):=by simp[cW,jV]
@[go_sem] def zSn{b:Int}:cW P .or t (.int j a) (.int j b)=J (.int j (j.wrap (BitVec.ofInt j.bits a|||BitVec.ofInt j.bits b).toNat)):=by simp[cW,jV]
@[go_sem] def zPJ{b:Int}:cW P .xor t (.int j a) (.int j b)=J (.int j (j.wrap (BitVec.ofInt j.bits a^^^BitVec.ofInt j.bits b).toNat)):=by simp[cW,jV]
def zU(b:Int)(x:Value):Option Value:=if b<0 then ae else J x
@[go_sem] def zN9{j':IntKind}{b:Int}:cW P .shl t (.int j a) (.int j' b)=zU b (.int j (j.wrap (a*2^min b.toNat j.bits))):=by simp[cW,zU]
@[go_sem] def zPY{j':IntKind}{b:Int}:cW P .shr t (.int j a) (.int j' b)=zU b (.int j (a.fdiv (2^min b.toNat j.bits))):=by simp[cW,zU]
def X2{b:Int}{x:Value}(h:0<=b):zU b x=J x:=by simp[zU];omega
@[go_sem] def zJW{a:Bool}(h:ET P t=Z):cW P .eql t (.bool a) (.bool b)=J (.bool (a==b)):=by simp[cW,h]
@[go_sem] def zKX{a:Bool}(h:ET P t=Z):cW P .neq t (.bool a) (.bool b)=J (.bool (a !=b)):=by simp[cW,h]
@[go_sem] def zMa{a b:List Value}{o:List Nat}(h:Be P t=J o):cW P .eql t (.agg a.toArray) (.agg b.toArray)=(tW a b o).map .bool:=by simp[cW,h]
@[go_sem] def zNm{a b:List Value}{o:List Nat}(h:Be P t=J o):cW P .neq t (.agg a.toArray) (.agg b.toArray)=(tW a b o).map λr=>.bool !r:=by simp[cW,h]
@[go_sem] def zT0{i:IntKind}{b x y:Int}:tW [.int j a,.int i b] [.int j x,.int i y] [0,1]=J (a==x&&b==y):=by simp[tW]
@[go_sem] def zNX{a b:ByteArray}:cW P .eql t (.string a) (.string b)=J (.bool (a.toList==b.toList)):=(rfl)
@[go_sem] def Vh{a b:ByteArray}(h:a.size+b.size<=9223372036854775807):cW P .add t (.string a) (.string b)=J (.string (a++b)):=by simp[cW,h]
@[go_sem] def zUN{s:TypeId}(h:sM P s=Z):AL P s pf x=(pI 1 pf x).bind λz=>(vy z.1).map λns=>(.v (.str (xL ns)),z.2):=by unfold AL;rw[aB h]
@[go_sem] def zJu:vy []=J []:=(rfl)
@[go_sem] def zvH{rs:List (List PV)}:vy ([.int .u8 n]::rs)=(vy rs).map (n:: ·):=(rfl)
@[go_sem] def zJp{f:Int->List PV}(h:∀x,f x=[.int .u8 x]){l:List Int}:vy (l.map f)=J l:=by
 induction l with
 |nil=>rfl
 |cons x l ih=>rw[jD,h,zvH,ih];rfl
@[go_sem] def zMw{a b:ByteArray}:cW P .neq t (.string a) (.string b)=J (.bool !(a.toList==b.toList)):=(rfl)
@[go_sem] def zSW :Ev .not (.bool b)=J (.bool !b):=(rfl)
@[go_sem] def zR7 :Ev .neg (.int j n)=J (.int j (j.wrap (0-n))):=(rfl)
@[go_sem] def zF7{b:Int}:uy Z (.int j a) (.int j b)=J (.int j (if a<b then b else a)):=by simp[uy]
@[go_sem] def zE8{b:Int}:uy aa (.int j a) (.int j b)=J (.int j (if b<a then b else a)):=by simp[uy]
end
end Go.Pm
