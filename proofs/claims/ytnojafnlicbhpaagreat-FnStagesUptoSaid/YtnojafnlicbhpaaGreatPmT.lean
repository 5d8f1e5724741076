import Derived.Test.YtnojafnlicbhpaaGreatPmS
namespace Go.Pm
set_option linter.defProp false
open Go.Am
open Bool renaming false→aa,true→Z
open Option renaming none→ae,some→J
section
variable {P:Program}{c co:aY}{k:List ip}{Q:Exit->ah->Prop}{pf:ah}
variable{a n:Int}{b o:Bool}{d e es hi i lo s s':Nat}{f:Fn}{g:FuncId}{j:IntKind}{op:Op}{p:aA}{pre:List (Option Tmp)}{r us:List PV}{t ty:TypeId}{x:Operand}{y:PF}
@[go_sem] def zOM{a:Nat}{b f h:List Nat}:aY.Bk ⟨a,b,f,h⟩=⟨a,b,f,[]⟩:=(rfl)
@[go_sem ↓] def zJd{id:Nat}{ops:List Oper}:pw P c (.code (.region id ops.toArray aa)::k) Q pf=pw P c (.ops (ops.map (·.dst)) ops::k) Q pf:=by
 show gu P c (.region id ops.toArray aa) (fB P c k Q) pf=_;simp only[gu,p7,l7];rfl
@[go_sem ↓] theorem zIi :pw P c (.ops pre []::k) Q pf=pw P c k Q pf:=rfl
def pw1(P:Program)(c co:aY)(ty:TypeId)(op:Op)(d:Option Tmp)(k:List ip)(Q:Exit->ah->Prop)(pf:ah):Prop:=ny P co ⟨d,op,ty, "",#[],ae⟩ (pw P c k Q) pf
def Zc{o o':Oper}{K:ah->Prop}(h:o.op=o'.op)(hd:o.dst=o'.dst)(ht:o.type=o'.type):ny P c o K pf=ny P c o' K pf:=by
 obtain⟨d,op,ty,ps,af,g⟩:=o;obtain⟨d',op',LT,ps',af',g'⟩:=o';simp only at h hd ht;subst h;subst hd;subst ht;rfl
@[go_sem ↓] def zT5{d:Option Tmp}{ps:String}{af:Array Edge}{l:List Oper}:
 pw P c (.ops pre (⟨d,op,ty,ps,af,ae⟩::l)::k) Q pf=pw1 P c c ty op d (.ops pre l::k) Q pf:=by
 show yL P c pre ⟨d,op,ty,ps,af,ae⟩ (pw P c (.ops pre l::k) Q) pf=_;simp only[yL];exact Zc rfl rfl rfl
def pwg(P:Program)(c:aY)(y:Option (Option Bool))(b:Bool)(ty:TypeId)(op:Op)(d:Option Tmp)(k:List ip)(Q:Exit->ah->Prop)(pf:ah):Prop:=
 lm c b d (pw1 P c c ty op d k Q pf) (pw P c k Q) pf y
def zw8{y y':Option (Option Bool)}{d:Option Tmp}(h:y=y'):pwg P c y b ty op d k Q pf=pwg P c y' b ty op d k Q pf:=by rw[h]
@[go_sem ↓] def zSm{d:Option Tmp}{ps:String}{af:Array Edge}{j:Nat}{l:List Oper}:
 pw P c (.ops pre (⟨d,op,ty,ps,af,J (j,b)⟩::l)::k) Q pf=pwg P c (CY pf pre[j]?) b ty op d (.ops pre l::k) Q pf:=by
 show yL P c pre ⟨d,op,ty,ps,af,J (j,b)⟩ (pw P c (.ops pre l::k) Q) pf=_;simp only[yL];unfold pwg pw1;rw[Zc (o:=⟨d,op,ty,ps,af,J (j,b)⟩) (o':=⟨d,op,ty, "",#[],ae⟩) rfl rfl rfl]
@[go_sem] def zMD{d:Tmp}:CY pf (J (J d))=Hj (pf d):=(rfl)
@[go_sem] def zKI :Hj (.v (.bool b))=J (J b):=(rfl)
@[go_sem] def zNL:Hj .skip=J ae:=(rfl)
@[go_sem ↓] def zSk{d:Option Tmp}:pwg P c (J (J Z)) Z ty op d k Q pf=pw1 P c c ty op d k Q pf:=by simp[pwg,lm]
@[go_sem ↓] def zSU{d:Option Tmp}:pwg P c (J (J aa)) aa ty op d k Q pf=pw1 P c c ty op d k Q pf:=by simp[pwg,lm]
@[go_sem ↓] def zRS{d:Tmp}(h:gG c d .skip=Z):pwg P c (J (J Z)) aa ty op (J d) k Q pf=pw P c k Q (pf.put d .skip):=by simp[pwg,lm,uG,h]
@[go_sem ↓] def zTi{d:Tmp}(h:gG c d .skip=Z):pwg P c (J (J aa)) Z ty op (J d) k Q pf=pw P c k Q (pf.put d .skip):=by simp[pwg,lm,uG,h]
@[go_sem ↓] def zVm{d:Tmp}(h:gG c d .skip=Z):pwg P c (J ae) b ty op (J d) k Q pf=pw P c k Q (pf.put d .skip):=by simp[pwg,lm,uG,h]
def zx7{y:Bool}{d:Option Tmp}(h1:y=Z->pwg P c (J (J Z)) b ty op d k Q pf)(h2:y=aa->pwg P c (J (J aa)) b ty op d k Q pf):pwg P c (J (J y)) b ty op d k Q pf:=by
 cases y
 ·exact h2 rfl
 ·exact h1 rfl
def qv(P:Program)(c co:aY)(x:Option (PF×ah))(d:Option Tmp)(k:List ip)(Q:Exit->ah->Prop):Prop:=
 match x with
 |some a=>dF co (pw P c k Q) d a.1 a.2
 |none=>False
def qz(P:Program)(c:aY)(d:Nat)(k:List ip)(Q:Exit->ah->Prop)(x:Option (PF×ah)):Prop:=Hu (pw P c k Q) d x
def zzl{x x':Option (PF×ah)}{d:Option Tmp}(h:x=x'):qv P c co x d k Q=qv P c co x' d k Q:=by rw[h]
def zyX{x x':Option (PF×ah)}(h:x=x'):qz P c d k Q x=qz P c d k Q x':=by rw[h]
@[go_sem ↓] def zOK{d:Tmp}(h:gG co d y=Z)(hf:co.fz.contains d=aa):qv P c co (J (y,pf)) (J d) k Q=pw P c k Q (pf.put d y):=by simp only[qv,dF,h,hf];simp
@[go_sem ↓] def zVR{d:Tmp}(h:gG co d y=Z)(hf:co.fz.contains d=Z):qv P c co (J (y,pf)) (J d) k Q=qz P c d k Q (t8 pf y):=by simp only[qv,dF,h,hf];simp[qz]
@[go_sem ↓] theorem zRv :qv P c co (J (y,pf)) ae k Q=pw P c k Q pf:=rfl
@[go_sem ↓] theorem zOj :qz P c d k Q (J (y,pf))=pw P c k Q (pf.put d y):=rfl
def qf(P:Program)(c:aY)(x:Option ah)(k:List ip)(Q:Exit->ah->Prop):Prop:=
 match x with
 |some pf=>pw P c k Q pf
 |none=>False
def zzg{x x':Option ah}(h:x=x'):qf P c x k Q=qf P c x' k Q:=by rw[h]
@[go_sem ↓] theorem zPC:qf P c (J pf) k Q=pw P c k Q pf:=rfl
attribute [congr] zzJ zw8 zzl zyX zzg
@[go_sem] def zSH :gG c d y=(decide (d<c.nt)&& !c.io.contains d&& !(bC y==J d)):=(rfl)
@[go_sem] def zQh{x:PV}:bC (.v x)=ae:=(rfl)
@[go_sem] def zHu:bC .skip=ae:=(rfl)
@[go_sem] def zM7{r:List (List PV)}:bC (.ls es r)=ae:=(rfl)
@[go_sem] def zMC :bC (.bl r)=ae:=(rfl)
@[go_sem] def zLJ{j:Nat}:bC (.pt s p i j)=J s:=(rfl)
@[go_sem] def zKj :bC (.rf s p)=J s:=(rfl)
@[go_sem] def zN3 :bC (.rv s p lo hi)=J s:=(rfl)
@[go_sem] def zMb{j n:Nat}:bC (.as b s p i j n)=J s:=(rfl)
@[go_sem] def zMj :bC (.cl s g us)=J s:=(rfl)
@[go_sem] def zN1{j n:Nat}:bC (.ra s p i j n)=J s:=(rfl)
@[go_sem] def zPx{t:Nat}{x:PF}:ah.put pf d x t=if t=d then x else fA d (pf t):=(rfl)
@[go_sem] def zPn{t:Nat}{x:PF}:ah.bU pf d x t=if t=d then x else pf t:=(rfl)
@[go_sem] def zK6{n t:Nat}:ah.kill pf s n t=cZ s n (pf t):=(rfl)
@[go_sem] def zQq{x:PV}:fA d (.v x)=.v x:=(rfl)
@[go_sem] def zHJ :fA d .skip=.skip:=(rfl)
@[go_sem] def zKq{r:List (List PV)}:fA d (.ls es r)=.ls es r:=(rfl)
@[go_sem] def zMQ :fA d (.bl r)=.bl r:=(rfl)
@[go_sem] def zLL{j:Nat}:fA d (.pt s p i j)=if s=d then jP else .pt s p i j:=by simp[fA,bC]
@[go_sem] def zKw :fA d (.rf s p)=if s=d then jP else .rf s p:=by simp[fA,bC]
@[go_sem] def zLN :fA d (.rv s p lo hi)=if s=d then jP else .rv s p lo hi:=by simp[fA,bC]
@[go_sem] def zN4{j n:Nat}:fA d (.as b s p i j n)=if s=d then jP else .as b s p i j n:=by simp[fA,bC]
@[go_sem] def zLH :fA d (.cl s g us)=if s=d then jP else .cl s g us:=by simp[fA,bC]
@[go_sem] def zKe{j n:Nat}:fA d (.ra s p i j n)=if s=d then jP else .ra s p i j n:=by simp[fA,bC]
@[go_sem] def zOc :fA d jP=jP:=(rfl)
@[go_sem] def zQD{n:Nat}{x:PV}:cZ s n (.v x)=.v x:=by simp[cZ,bC]
@[go_sem] def zFq{n:Nat}:cZ s n .skip=.skip:=by simp[cZ,bC]
@[go_sem] def zNP{n:Nat}{r:List (List PV)}:cZ s n (.ls es r)=.ls es r:=by simp[cZ,bC]
@[go_sem] def zL5{n:Nat}:cZ s n (.bl r)=.bl r:=by simp[cZ,bC]
@[go_sem] def zKz{n j:Nat}:cZ s n (.pt s' p i j)=if s'=s/\n<=p.length then jP else .pt s' p i j:=by simp[cZ,bC,lJ]
@[go_sem] def zLd{n:Nat}:cZ s n (.rf s' p)=if s'=s/\n<=p.length then jP else .rf s' p:=by simp[cZ,bC,lJ]
@[go_sem] def zKt{n:Nat}:cZ s n (.rv s' p lo hi)=if s'=s/\n<=p.length then jP else .rv s' p lo hi:=by simp[cZ,bC,lJ]
@[go_sem] def zN0{n j m:Nat}:cZ s n (.as b s' p i j m)=if s'=s/\n<=p.length+1 then jP else .as b s' p i j m:=by simp[cZ,bC,lJ]
@[go_sem] def zLF{n:Nat}:cZ s n (.cl s' g us)=if s'=s/\n<=0 then jP else .cl s' g us:=by simp[cZ,bC,lJ]
@[go_sem] def zMM{n j m:Nat}:cZ s n (.ra s' p i j m)=if s'=s/\n<=p.length+1 then jP else .ra s' p i j m:=by simp[cZ,bC,lJ]
@[go_sem] def zQ8{n:Nat}:cZ s n jP=jP:=by simp[cZ,bC,jP]
@[go_sem] def zMK{x:PF}{l:List (Nat×PF)}{t:Nat}:ah.eu ((s,x)::l) t=if t=s then x else ah.eu l t:=(rfl)
@[go_sem] def zRj{t:Nat}:ah.eu [] t=jP:=(rfl)
@[go_sem] def zJf{as:List (Md×PV)}{t:Nat}:qy as t=Er as[t]? :=(rfl)
@[go_sem] def zJo{m:Md}{x:PV}:Er (J (m,x))=.v x:=(rfl)
@[go_sem] def zIK:Er ae=jP:=(rfl)
@[go_sem] def zUC:dr .au=Z:=(rfl)
@[go_sem] def zM6 :dr (.bool b)=aa:=(rfl)
@[go_sem] def zRc :dr (.int j n)=aa:=(rfl)
@[go_sem] def zO2{s:ByteArray}:dr (.str s)=aa:=(rfl)
@[go_sem] def zRJ{r:List (List PV)}:dr (.sl o es r)=aa:=(rfl)
@[go_sem] def zR5 :dr (.fp r)=aa:=(rfl)
@[go_sem] def zR7 :dr (.bx r)=aa:=(rfl)
@[go_sem] def zNp{a b:List PV}:dr (.func f a b)=aa:=(rfl)
@[go_sem] def zO8 :dr (.agg r)=aa:=(rfl)
@[go_sem] def zPS :dr (.bO r)=aa:=(rfl)
@[go_sem] def zK5:dr .fH=aa:=(rfl)
@[go_sem] def zMx:dr .fZ=aa:=(rfl)
@[go_sem] def zKi:dr .gC=aa:=(rfl)
@[go_sem] def zTa:bK .au=aa:=by simp[bK]
@[go_sem] def zJI :bK (.bool b)=aa:=by simp[bK]
@[go_sem] def zNX :bK (.int j n)=aa:=by simp[bK]
@[go_sem] def zMg{s:ByteArray}:bK (.str s)=aa:=by simp[bK]
@[go_sem] def zPO :bK (.fp r)=aa:=by simp[bK]
@[go_sem] def zJe{a b:List PV}:bK (.func f a b)=aa:=by simp[bK]
@[go_sem] def zI9:bK .fH=aa:=by simp[bK]
@[go_sem] def zJx:bK .fZ=aa:=by simp[bK]
@[go_sem] def zJu:bK .gC=aa:=by simp[bK]
attribute [go_sem] zkH zvy ziK ztt zjF zqQ zpg zt3 zph zsz zry zrq
@[go_sem] def zRK:drop .au=.au:=by simp[drop]
@[go_sem] def zJq :drop (.bool b)=.bool b:=by simp[drop]
@[go_sem] def zLi :drop (.int j n)=.int j n:=by simp[drop]
@[go_sem] def zK1{s:ByteArray}:drop (.str s)=.str s:=by simp[drop]
@[go_sem] def zOm :drop (.fp r)=.fp r:=by simp[drop]
@[go_sem] def zII{a b:List PV}:drop (.func f a b)=.func f a b:=by simp[drop]
@[go_sem] def zIY:drop .fH=.fH:=by simp[drop]
@[go_sem] def zJw:drop .fZ=.fZ:=by simp[drop]
@[go_sem] def zJs:drop .gC=.gC:=by simp[drop]
@[go_sem] def zQ5:cQ .au=Z:=by simp[cQ]
@[go_sem] def zFn :cQ (.bool b)=Z:=by simp[cQ]
@[go_sem] def zJF :cQ (.int j n)=Z:=by simp[cQ]
@[go_sem] def zJG{s:ByteArray}:cQ (.str s)=Z:=by simp[cQ]
@[go_sem] def zJ0 :cQ (.fp r)=aa:=by simp[cQ]
@[go_sem] def zHP{a b:List PV}:cQ (.func f a b)=aa:=by simp[cQ]
@[go_sem] def zFW:cQ .fH=Z:=by simp[cQ]
@[go_sem] def zES :qs (.int j n)=Z:=(rfl)
@[go_sem] def zD4 :qs (.bool b)=Z:=(rfl)
@[go_sem] def zEO{s:ByteArray}:qs (.str s)=Z:=(rfl)
@[go_sem] def zJD{r:List (List PV)}:qs (.sl o es r)=Z:=(rfl)
@[go_sem] def zIW :qs (.bx r)=Z:=(rfl)
@[go_sem] def zIV :qs (.fp r)=Z:=(rfl)
@[go_sem] def zD8{a b:List PV}:qs (.func f a b)=Z:=(rfl)
@[go_sem] def zEj :jQ (.int j n)=Z:=(rfl)
@[go_sem] def zC2 :jQ (.bool b)=Z:=(rfl)
@[go_sem] def zEo{s:ByteArray}:jQ (.str s)=Z:=(rfl)
@[go_sem] def zGt{r:List (List PV)}:jQ (.sl o es r)=Z:=(rfl)
@[go_sem] def zEn :jQ (.agg r)=Z:=(rfl)
@[go_sem] def zHi :jQ (.bx r)=Z:=(rfl)
@[go_sem] def zEu :jQ (.fp r)=Z:=(rfl)
@[go_sem] def zCl{a b:List PV}:jQ (.func f a b)=Z:=(rfl)
@[go_sem] def zGN :cO (.int j n)=[.int j n]:=(rfl)
@[go_sem] def zEg :cO (.bool b)=[.bool b]:=(rfl)
@[go_sem] def zHg{s:ByteArray}:cO (.str s)=[.str s]:=(rfl)
@[go_sem] def zIQ{r:List (List PV)}:cO (.sl o es r)=[.sl o es r]:=(rfl)
@[go_sem] def zG5 :cO (.agg r)=r:=(rfl)
@[go_sem] def zJk :cO (.bx r)=[.bx r]:=(rfl)
@[go_sem] def zI0 :cO (.fp r)=[.fp r]:=(rfl)
@[go_sem] def zEb{a b:List PV}:cO (.func f a b)=[.func f a b]:=(rfl)
@[go_sem] def zIn :na e (.bool b)=.bool b:=(rfl)
@[go_sem] def zLP :na e (.int j n)=.int j n:=(rfl)
@[go_sem] def zNm{s:ByteArray}:na e (.string s)=.str s:=(rfl)
@[go_sem] def zMZ :na e (.slice ae 0 0)=.sl Z e []:=(rfl)
@[go_sem] def zIv :na e .nilFunc=.fH:=(rfl)
@[go_sem] def zQj :cq (.int j n)=Z:=(rfl)
@[go_sem] def zJQ :cq (.bool b)=Z:=(rfl)
@[go_sem] def zPm{b:ByteArray}:cq (.string b)=Z:=(rfl)
@[go_sem] def zRl:cq (.slice ae 0 0)=Z:=(rfl)
@[go_sem] def zNQ:cq .nilFunc=Z:=(rfl)
@[go_sem] def zRe{t:Tmp}:cr pf (.tmp t)=DJ (pf t):=(rfl)
@[go_sem] def zTm{x:PV}:DJ (.v x)=tr x:=(rfl)
@[go_sem] def zIC:DJ .skip=ae:=(rfl)
@[go_sem] def zNy :tr (.bool b)=J (.bool b):=(rfl)
@[go_sem] def zOs :tr (.int j n)=J (.int j n):=(rfl)
@[go_sem] def zOP{s:ByteArray}:tr (.str s)=J (.string s):=(rfl)
@[go_sem] def zPk{l:List PV}:tr (.agg l)=(wQ l).map λl=>.agg l.toArray:=(rfl)
@[go_sem] def zJ4:wQ []=J []:=(rfl)
@[go_sem] def zNA :wQ (.int j n::r)=(wQ r).map λl=>.int j n::l:=(rfl)
@[go_sem] def zRo :cr pf (.const (.int j n))=J (.int j n):=(rfl)
@[go_sem] def zK4 :cr pf (.const (.bool b))=J (.bool b):=(rfl)
@[go_sem] def zPB{b:ByteArray}:cr pf (.const (.string b))=J (.string b):=(rfl)
@[go_sem] def zH9 :ll (.bool b)=J (.bool b):=(rfl)
@[go_sem] def zIr :ll (.int j n)=J (.int j n):=(rfl)
@[go_sem] def zIF{s:ByteArray}:ll (.string s)=J (.str s):=(rfl)
def BO(f:Value->Option Value)(x:Option Value)(pf:ah):Option (PF×ah):=(x.bind λa=>(f a).bind ll).map λy=>(.v y,pf)
def xj(f:Value->Value->Option Value)(x y:Option Value)(pf:ah):Option (PF×ah):=(x.bind λa=>y.bind λb=>(f a b).bind ll).map λy=>(.v y,pf)
def rE(x:Option Value)(pf:ah):Option (PF×ah):=(x.bind ll).map λy=>(.v y,pf)
@[go_sem] def zJ7{f:Value->Option Value}{a:Value}:BO f (J a) pf=rE (f a) pf:=(rfl)
@[go_sem] def zKJ{f:Value->Value->Option Value}{a b:Value}:xj f (J a) (J b) pf=rE (f a b) pf:=(rfl)
@[go_sem] def zJR :rE (J (.bool b)) pf=J (.v (.bool b),pf):=(rfl)
@[go_sem] def zQC :rE (J (.int j n)) pf=J (.v (.int j n),pf):=(rfl)
@[go_sem] def zOa{s:ByteArray}:rE (J (.string s)) pf=J (.v (.str s),pf):=(rfl)
def Bl{o:Oper}{x:Option (PF×ah)}(h:(((gp o.op).bind (pM pf)).bind λvs=>(eD P o.op vs).bind ll).map (λy=>(PF.v y,pf))=x):kT P co o (pw P c k Q) pf=qv P c co x o.dst k Q:=by
 subst h;unfold kT;cases (gp o.op).bind (pM pf)with
 |none=>rfl
 |some vs=>
  simp only[aR];cases (eD P o.op vs).bind ll<;>rfl
@[go_sem ↓] def zMq{op:UnOp}{d:Option Tmp}:pw1 P c co ty (.unOp op t x) d k Q pf=qv P c co (BO (DU op) (cr pf x) pf) d k Q:=by
 refine Bl (o:=⟨d,.unOp op t x,ty, "",#[],ae⟩) ?_;simp only[gp,pM,aR];cases cr pf x<;>simp[eD,BO]
def zrn{s:TypeId}{d:Tmp}(ht:dU P t=Z)(hp:co.hp≠[]\/G7 pf x=Z):pw1 P c co ty (.convert s t x) (J d) k Q pf=qv P c co (yI P s pf x) (J d) k Q:=by
 show(if dU P t=Z then(co.hp≠[]\/G7 pf x=Z)/\yc P co s t x (J d) (pw P c k Q) pf else _)=_;rw[aB ht];unfold yc qv;cases yI P s pf x with
 |none=>simp[hp]
 |some z=>simp[hp,ht]
@[go_sem ↓] def zLX{s:TypeId}{d:Tmp}(ht:dU P t=Z)(hp:co.hp.isEmpty=aa):pw1 P c co ty (.convert s t x) (J d) k Q pf=qv P c co (yI P s pf x) (J d) k Q:=zrn ht (.inl λe=>by rw[e]at hp;cases hp)
@[go_sem] def zKY{rows:List (List PV)}:G1 (.ls 1 rows)=Z:=(rfl)
@[go_sem ↓] def zJc{s:TypeId}{u:Nat}{d:Tmp}(ht:dU P t=Z)(hl:G1 (pf u)=Z):pw1 P c co ty (.convert s t (.tmp u)) (J d) k Q pf=qv P c co (yI P s pf (.tmp u)) (J d) k Q:=zrn ht (.inr hl)
@[go_sem ↓] def zD1{s:TypeId}{d:Option Tmp}(ht:dU P t=aa):pw1 P c co ty (.convert s t x) d k Q pf=qv P c co (BO (Ds P s t) (cr pf x) pf) d k Q:=by
 have e:pw1 P c co ty (.convert s t x) d k Q pf=kT P co ⟨d,.convert s t x,ty, "",#[],ae⟩ (pw P c k Q) pf:=by
  show(if dU P t=Z then(co.hp≠[]\/G7 pf x=Z)/\yc P co s t x d (pw P c k Q) pf else kT P co ⟨d,.convert s t x,ty, "",#[],ae⟩ (pw P c k Q) pf)=_;rw[az (by simp[ht])]
 rw[e];refine Bl (o:=⟨d,.convert s t x,ty, "",#[],ae⟩) ?_;simp only[gp,pM,aR];cases cr pf x<;>simp[eD,BO]
@[go_sem] def zFh{t:Tmp}:uP (.tmp t)=aa:=(rfl)
@[go_sem] def zHV :uP (.const (.int j n))=aa:=(rfl)
@[go_sem] def zEi :uP (.const (.bool b))=aa:=(rfl)
@[go_sem] def zFG{s:ByteArray}:uP (.const (.string s))=aa:=(rfl)
@[go_sem ↓] def zIR{u:TypeId}{op:BinOp}{y:Operand}{d:Option Tmp}(hy:uP y=aa):pw1 P c co ty (.binOp op t x y u) d k Q pf=qv P c co (xj (cW P op t) (cr pf x) (cr pf y) pf) d k Q:=by
 have e:pw1 P c co ty (.binOp op t x y u) d k Q pf=kT P co ⟨d,.binOp op t x y u,ty, "",#[],ae⟩ (pw P c k Q) pf:=by
  show ny P co ⟨d,.binOp op t x y u,ty, "",#[],ae⟩ (pw P c k Q) pf=_;simp only[ny,hy,p7,l7]
 rw[e];refine Bl (o:=⟨d,.binOp op t x y u,ty, "",#[],ae⟩) ?_;simp only[gp,pM,aR];cases cr pf x<;>cases cr pf y<;>simp[eD,xj]
@[go_sem ↓] def zI8{y:Operand}{d:Option Tmp}:pw1 P c co ty (.index t x y) d k Q pf=qv P c co (xj (rI P t) (cr pf x) (cr pf y) pf) d k Q:=by
 refine Bl (o:=⟨d,.index t x y,ty, "",#[],ae⟩) ?_;simp only[gp,pM,aR];cases cr pf x<;>cases cr pf y<;>simp[eD,xj]
@[go_sem ↓] def zQT{y:Operand}{ts:Array TypeId}{d:Option Tmp}:pw1 P c co ty (.call ⟨.builtin .min,#[x,y],ts⟩) d k Q pf=qv P c co (xj (uU aa) (cr pf x) (cr pf y) pf) d k Q:=by
 refine Bl (o:=⟨d,.call ⟨.builtin .min,#[x,y],ts⟩,ty, "",#[],ae⟩) ?_;simp only[gp,pM,aR];cases cr pf x<;>cases cr pf y<;>simp[eD,xj]
@[go_sem ↓] def zQM{y:Operand}{ts:Array TypeId}{d:Option Tmp}:pw1 P c co ty (.call ⟨.builtin .max,#[x,y],ts⟩) d k Q pf=qv P c co (xj (uU Z) (cr pf x) (cr pf y) pf) d k Q:=by
 refine Bl (o:=⟨d,.call ⟨.builtin .max,#[x,y],ts⟩,ty, "",#[],ae⟩) ?_;simp only[gp,pM,aR];cases cr pf x<;>cases cr pf y<;>simp[eD,xj]
@[go_sem] def zLY{s d:TypeId}{i k:IntKind}(hs:jG P s=J i)(hd:jG P d=J k):Ds P s d (.int j n)=J (.int k (k.wrap n)):=by
 unfold Ds
 have:∃u,P.underlying s=J u:=by
  unfold jG at hs;split at hs
  ·rename_i h;exact⟨_,h⟩
  ·cases hs
 obtain⟨u,hu⟩:=this;rw[hu,hd]
@[go_sem] def zPf{b:Int}:cW P .add t (.int j a) (.int j b)=J (.int j (j.wrap (a+b))):=by simp[cW,jW]
@[go_sem] def zQO{b:Int}:cW P .sub t (.int j a) (.int j b)=J (.int j (j.wrap (a-b))):=by simp[cW,jW]
@[go_sem] def zQA{b:Int}:cW P .mul t (.int j a) (.int j b)=J (.int j (j.wrap (a*b))):=by simp[cW,jW]
def uA(b:Int)(x:Value):Option Value:=if b=0 then ae else J x
@[go_sem] def zOy{b:Int}:cW P .quo t (.int j a) (.int j b)=uA b (.int j (j.wrap (a.tdiv b))):=by simp[cW,jW,uA]
@[go_sem] def zRr{b:Int}:cW P .rem t (.int j a) (.int j b)=uA b (.int j (a.tmod b)):=by simp[cW,jW,uA]
def OU{b:Int}{x:Value}(h:b≠0):uA b x=J x:=by simp[uA,h]
@[go_sem] def zLK{x:Value}{n:Nat}:uA (OfNat.ofNat (n+1)) x=J x:=by
 refine OU ?_;show((n+1:Nat):Int)≠0;omega
@[go_sem] def zO3{b:Int}:cW P .eql t (.int j a) (.int j b)=J (.bool (a==b)):=by simp[cW,jW]
@[go_sem] def zPD{b:Int}:cW P .neq t (.int j a) (.int j b)=J (.bool (a !=b)):=by simp[cW,jW]
@[go_sem] def zQL{b:Int}:cW P .lss t (.int j a) (.int j b)=J (.bool (decide (a<b))):=by simp[cW,jW]
@[go_sem] def zQy{b:Int}:cW P .leq t (.int j a) (.int j b)=J (.bool (decide (a<=b))):=by simp[cW,jW]
@[go_sem] def zP8{b:Int}:cW P .gtr t (.int j a) (.int j b)=J (.bool (decide (b<a))):=by simp[cW,jW]
@[go_sem] def zQ2{b:Int}:cW P .geq t (.int j a) (.int j b)=J (.bool (decide (b<=a))):=by simp[cW,jW]
@[go_sem] def zOS{b:Int}:cW P .and t (.int j a) (.int j b)=J (.int j (j.wrap (BitVec.ofInt j.bits a&&&BitVec.ofInt j.bits b).toNat)):=by simp[cW,jW]
@[go_sem] def zTd{b:Int}:cW P .or t (.int j a) (.int j b)=J (.int j (j.wrap (BitVec.ofInt j.bits a|||BitVec.ofInt j.bits b).toNat)):=by simp[cW,jW]
@[go_sem] def zPq{b:Int}:cW P .xor t (.int j a) (.int j b)=J (.int j (j.wrap (BitVec.ofInt j.bits a^^^BitVec.ofInt j.bits b).toNat)):=by simp[cW,jW]
def yF(b:Int)(x:Value):Option Value:=if b<0 then ae else J x
@[go_sem] def zPR{j':IntKind}{b:Int}:cW P .shl t (.int j a) (.int j' b)=yF b (.int j (j.wrap (a*2^min b.toNat j.bits))):=by simp[cW,yF]
@[go_sem] def zO1{j':IntKind}{b:Int}:cW P .shr t (.int j a) (.int j' b)=yF b (.int j (a.fdiv (2^min b.toNat j.bits))):=by simp[cW,yF]
def zu9{b:Int}{x:Value}(h:0<=b):yF b x=J x:=by simp[yF];omega
@[go_sem] def zNK{a:Bool}(h:DF P t=Z):cW P .eql t (.bool a) (.bool b)=J (.bool (a==b)):=by simp[cW,h]
@[go_sem] def zL7{a:Bool}(h:DF P t=Z):cW P .neq t (.bool a) (.bool b)=J (.bool (a !=b)):=by simp[cW,h]
@[go_sem] def zKf{a b:List Value}{o:List Nat}(h:CI P t=J o):cW P .eql t (.agg a.toArray) (.agg b.toArray)=(tE a b o).map .bool:=by simp[cW,h]
@[go_sem] def zKC{a b:List Value}{o:List Nat}(h:CI P t=J o):cW P .neq t (.agg a.toArray) (.agg b.toArray)=(tE a b o).map λr=>.bool !r:=by simp[cW,h]
@[go_sem] def zVW{i:IntKind}{b x y:Int}:tE [.int j a,.int i b] [.int j x,.int i y] [0,1]=J (a==x&&b==y):=by simp[tE]
@[go_sem] def zM1{a b:ByteArray}:cW P .eql t (.string a) (.string b)=J (.bool (a.toList==b.toList)):=(rfl)
@[go_sem] def Yz{a b:ByteArray}(h:a.size+b.size<=9223372036854775807):cW P .add t (.string a) (.string b)=J (.string (a++b)):=by simp[cW,h]
@[go_sem] def zTz{s:TypeId}(h:tN P s=Z):yI P s pf x=(po 1 pf x).bind λz=>(vo z.1).map λns=>(.v (.str (wA ns)),z.2):=by unfold yI;rw[aB h]
@[go_sem] def zJi:vo []=J []:=(rfl)
@[go_sem] def zwI{rs:List (List PV)}:vo ([.int .u8 n]::rs)=(vo rs).map (n:: ·):=(rfl)
@[go_sem] def zJj{f:Int->List PV}(h:∀x,f x=[.int .u8 x]){l:List Int}:vo (l.map f)=J l:=by
 induction l with
 |nil=>rfl
 |cons x l ih=>rw[jD,h,zwI,ih];rfl
@[go_sem] def zMo{a b:ByteArray}:cW P .neq t (.string a) (.string b)=J (.bool !(a.toList==b.toList)):=(rfl)
@[go_sem] def zSQ :DU .not (.bool b)=J (.bool !b):=(rfl)
@[go_sem] def zSO :DU .neg (.int j n)=J (.int j (j.wrap (0-n))):=(rfl)
@[go_sem] def zGr{b:Int}:uU Z (.int j a) (.int j b)=J (.int j (if a<b then b else a)):=by simp[uU]
@[go_sem] def zEU{b:Int}:uU aa (.int j a) (.int j b)=J (.int j (if b<a then b else a)):=by simp[uU]
end
end Go.Pm
