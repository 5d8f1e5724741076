import Derived.Test.YtnojafnlicbhpaaGreatPmS
open Bool renaming false→aa,true→Z
open Option renaming none→ae,some→J
set_option linter.defProp false
namespace Go.Pm
open Go.Am
section
variable {P:Program}{c co:aY}{k:List iu}{Q:Exit->ah->Prop}{pf:ah}
variable{a n:Int}{b o:Bool}{d e es hi i lo s s':Nat}{f:Fn}{g:FuncId}{j:IntKind}{op:Op}{p:aA}{pre:List (Option Tmp)}{r us:List PV}{t ty:TypeId}{x:Operand}{y:PF}
@[go_sem] def zO2{a:Nat}{b f h:List Nat}:aY.Cb ⟨a,b,f,h⟩=⟨a,b,f,[]⟩:=(rfl)
@[go_sem ↓] def zJq{id:Nat}{ops:List Oper}:pw P c (.code (.region id ops.toArray aa)::k) Q pf=pw P c (.ops (ops.map (·.dst)) ops::k) Q pf:=by
 show gq P c (.region id ops.toArray aa) (fC P c k Q) pf=_;simp only[gq,p8,l7];rfl
@[go_sem ↓] theorem zHe :pw P c (.ops pre []::k) Q pf=pw P c k Q pf:=rfl
def pw1(P:Program)(c co:aY)(ty:TypeId)(op:Op)(d:Option Tmp)(k:List iu)(Q:Exit->ah->Prop)(pf:ah):Prop:=nE P co ⟨d,op,ty, "",#[],ae⟩ (pw P c k Q) pf
def U6{o o':Oper}{K:ah->Prop}(h:o.op=o'.op)(hd:o.dst=o'.dst)(ht:o.type=o'.type):nE P c o K pf=nE P c o' K pf:=by
 obtain⟨d,op,ty,ps,af,g⟩:=o;obtain⟨d',op',MH,ps',af',g'⟩:=o';simp only at h hd ht;subst h;subst hd;subst ht;rfl
@[go_sem ↓] def zU8{d:Option Tmp}{ps:String}{af:Array Edge}{l:List Oper}:
 pw P c (.ops pre (⟨d,op,ty,ps,af,ae⟩::l)::k) Q pf=pw1 P c c ty op d (.ops pre l::k) Q pf:=by
 show zj P c pre ⟨d,op,ty,ps,af,ae⟩ (pw P c (.ops pre l::k) Q) pf=_;simp only[zj];exact U6 rfl rfl rfl
def pwg(P:Program)(c:aY)(y:Option (Option Bool))(b:Bool)(ty:TypeId)(op:Op)(d:Option Tmp)(k:List iu)(Q:Exit->ah->Prop)(pf:ah):Prop:=
 lX c b d (pw1 P c c ty op d k Q pf) (pw P c k Q) pf y
def zxY{y y':Option (Option Bool)}{d:Option Tmp}(h:y=y'):pwg P c y b ty op d k Q pf=pwg P c y' b ty op d k Q pf:=by rw[h]
@[go_sem ↓] def zS9{d:Option Tmp}{ps:String}{af:Array Edge}{j:Nat}{l:List Oper}:
 pw P c (.ops pre (⟨d,op,ty,ps,af,J (j,b)⟩::l)::k) Q pf=pwg P c (Bm pf pre[j]?) b ty op d (.ops pre l::k) Q pf:=by
 show zj P c pre ⟨d,op,ty,ps,af,J (j,b)⟩ (pw P c (.ops pre l::k) Q) pf=_;simp only[zj];unfold pwg pw1;rw[U6 (o:=⟨d,op,ty,ps,af,J (j,b)⟩) (o':=⟨d,op,ty, "",#[],ae⟩) rfl rfl rfl]
@[go_sem] def zN0{d:Tmp}:Bm pf (J (J d))=Jf (pf d):=(rfl)
@[go_sem] def zNw :Jf (.v (.bool b))=J (J b):=(rfl)
@[go_sem] def zJL:Jf .skip=J ae:=(rfl)
@[go_sem ↓] def zSx{d:Option Tmp}:pwg P c (J (J Z)) Z ty op d k Q pf=pw1 P c c ty op d k Q pf:=by simp[pwg,lX]
@[go_sem ↓] def zRX{d:Option Tmp}:pwg P c (J (J aa)) aa ty op d k Q pf=pw1 P c c ty op d k Q pf:=by simp[pwg,lX]
@[go_sem ↓] def zSO{d:Tmp}(h:gO c d .skip=Z):pwg P c (J (J Z)) aa ty op (J d) k Q pf=pw P c k Q (pf.put d .skip):=by simp[pwg,lX,vv,h]
@[go_sem ↓] def zSV{d:Tmp}(h:gO c d .skip=Z):pwg P c (J (J aa)) Z ty op (J d) k Q pf=pw P c k Q (pf.put d .skip):=by simp[pwg,lX,vv,h]
@[go_sem ↓] def zTR{d:Tmp}(h:gO c d .skip=Z):pwg P c (J ae) b ty op (J d) k Q pf=pw P c k Q (pf.put d .skip):=by simp[pwg,lX,vv,h]
def zxA{y:Bool}{d:Option Tmp}(h1:y=Z->pwg P c (J (J Z)) b ty op d k Q pf)(h2:y=aa->pwg P c (J (J aa)) b ty op d k Q pf):pwg P c (J (J y)) b ty op d k Q pf:=by
 cases y
 ·exact h2 rfl
 ·exact h1 rfl
def qv(P:Program)(c co:aY)(x:Option (PF×ah))(d:Option Tmp)(k:List iu)(Q:Exit->ah->Prop):Prop:=
 match x with
 |some a=>dC co (pw P c k Q) d a.1 a.2
 |none=>False
def qz(P:Program)(c:aY)(d:Nat)(k:List iu)(Q:Exit->ah->Prop)(x:Option (PF×ah)):Prop:=GZ (pw P c k Q) d x
def zzb{x x':Option (PF×ah)}{d:Option Tmp}(h:x=x'):qv P c co x d k Q=qv P c co x' d k Q:=by rw[h]
def zzO{x x':Option (PF×ah)}(h:x=x'):qz P c d k Q x=qz P c d k Q x':=by rw[h]
@[go_sem ↓] def zOz{d:Tmp}(h:gO co d y=Z)(hf:co.fz.contains d=aa):qv P c co (J (y,pf)) (J d) k Q=pw P c k Q (pf.put d y):=by simp only[qv,dC,h,hf];simp
@[go_sem ↓] def zVL{d:Tmp}(h:gO co d y=Z)(hf:co.fz.contains d=Z):qv P c co (J (y,pf)) (J d) k Q=qz P c d k Q (uD pf y):=by simp only[qv,dC,h,hf];simp[qz]
@[go_sem ↓] theorem zTj :qv P c co (J (y,pf)) ae k Q=pw P c k Q pf:=rfl
@[go_sem ↓] theorem zOr :qz P c d k Q (J (y,pf))=pw P c k Q (pf.put d y):=rfl
def qf(P:Program)(c:aY)(x:Option ah)(k:List iu)(Q:Exit->ah->Prop):Prop:=
 match x with
 |some pf=>pw P c k Q pf
 |none=>False
def zzL{x x':Option ah}(h:x=x'):qf P c x k Q=qf P c x' k Q:=by rw[h]
@[go_sem ↓] theorem zQd:qf P c (J pf) k Q=pw P c k Q pf:=rfl
attribute [congr] zy4 zxY zzb zzO zzL
@[go_sem] def zRE :gO c d y=(decide (d<c.nt)&& !c.io.contains d&& !(bC y==J d)):=(rfl)
@[go_sem] def zQI{x:PV}:bC (.v x)=ae:=(rfl)
@[go_sem] def zF5:bC .skip=ae:=(rfl)
@[go_sem] def zNG{r:List (List PV)}:bC (.ls es r)=ae:=(rfl)
@[go_sem] def zJY :bC (.bl r)=ae:=(rfl)
@[go_sem] def zLU{j:Nat}:bC (.pt s p i j)=J s:=(rfl)
@[go_sem] def zL1 :bC (.rf s p)=J s:=(rfl)
@[go_sem] def zNT :bC (.rv s p lo hi)=J s:=(rfl)
@[go_sem] def zLR{j n:Nat}:bC (.as b s p i j n)=J s:=(rfl)
@[go_sem] def zJQ :bC (.cl s g us)=J s:=(rfl)
@[go_sem] def zNj{j n:Nat}:bC (.ra s p i j n)=J s:=(rfl)
@[go_sem] def zPw{t:Nat}{x:PF}:ah.put pf d x t=if t=d then x else fy d (pf t):=(rfl)
@[go_sem] def zPi{t:Nat}{x:PF}:ah.bS pf d x t=if t=d then x else pf t:=(rfl)
@[go_sem] def zLL{n t:Nat}:ah.kill pf s n t=cZ s n (pf t):=(rfl)
@[go_sem] def zQm{x:PV}:fy d (.v x)=.v x:=(rfl)
@[go_sem] def zFD :fy d .skip=.skip:=(rfl)
@[go_sem] def zLC{r:List (List PV)}:fy d (.ls es r)=.ls es r:=(rfl)
@[go_sem] def zNP :fy d (.bl r)=.bl r:=(rfl)
@[go_sem] def zMh{j:Nat}:fy d (.pt s p i j)=if s=d then jP else .pt s p i j:=by simp[fy,bC]
@[go_sem] def zLb :fy d (.rf s p)=if s=d then jP else .rf s p:=by simp[fy,bC]
@[go_sem] def zKA :fy d (.rv s p lo hi)=if s=d then jP else .rv s p lo hi:=by simp[fy,bC]
@[go_sem] def zMf{j n:Nat}:fy d (.as b s p i j n)=if s=d then jP else .as b s p i j n:=by simp[fy,bC]
@[go_sem] def zKN :fy d (.cl s g us)=if s=d then jP else .cl s g us:=by simp[fy,bC]
@[go_sem] def zNY{j n:Nat}:fy d (.ra s p i j n)=if s=d then jP else .ra s p i j n:=by simp[fy,bC]
@[go_sem] def zOI :fy d jP=jP:=(rfl)
@[go_sem] def zQ9{n:Nat}{x:PV}:cZ s n (.v x)=.v x:=by simp[cZ,bC]
@[go_sem] def zFG{n:Nat}:cZ s n .skip=.skip:=by simp[cZ,bC]
@[go_sem] def zMr{n:Nat}{r:List (List PV)}:cZ s n (.ls es r)=.ls es r:=by simp[cZ,bC]
@[go_sem] def zL5{n:Nat}:cZ s n (.bl r)=.bl r:=by simp[cZ,bC]
@[go_sem] def zKU{n j:Nat}:cZ s n (.pt s' p i j)=if s'=s/\n<=p.length then jP else .pt s' p i j:=by simp[cZ,bC,lG]
@[go_sem] def zLi{n:Nat}:cZ s n (.rf s' p)=if s'=s/\n<=p.length then jP else .rf s' p:=by simp[cZ,bC,lG]
@[go_sem] def zL2{n:Nat}:cZ s n (.rv s' p lo hi)=if s'=s/\n<=p.length then jP else .rv s' p lo hi:=by simp[cZ,bC,lG]
@[go_sem] def zKr{n j m:Nat}:cZ s n (.as b s' p i j m)=if s'=s/\n<=p.length+1 then jP else .as b s' p i j m:=by simp[cZ,bC,lG]
@[go_sem] def zNn{n:Nat}:cZ s n (.cl s' g us)=if s'=s/\n<=0 then jP else .cl s' g us:=by simp[cZ,bC,lG]
@[go_sem] def zM6{n j m:Nat}:cZ s n (.ra s' p i j m)=if s'=s/\n<=p.length+1 then jP else .ra s' p i j m:=by simp[cZ,bC,lG]
@[go_sem] def zOA{n:Nat}:cZ s n jP=jP:=by simp[cZ,bC,jP]
@[go_sem] def zNp{x:PF}{l:List (Nat×PF)}{t:Nat}:ah.ew ((s,x)::l) t=if t=s then x else ah.ew l t:=(rfl)
@[go_sem] def zO6{t:Nat}:ah.ew [] t=jP:=(rfl)
@[go_sem] def zIM{as:List (Md×PV)}{t:Nat}:qF as t=EY as[t]? :=(rfl)
@[go_sem] def zJa{m:Md}{x:PV}:EY (J (m,x))=.v x:=(rfl)
@[go_sem] def zJg:EY ae=jP:=(rfl)
@[go_sem] def zVg:dt .au=Z:=(rfl)
@[go_sem] def zKH :dt (.bool b)=aa:=(rfl)
@[go_sem] def zPy :dt (.int j n)=aa:=(rfl)
@[go_sem] def zOL{s:ByteArray}:dt (.str s)=aa:=(rfl)
@[go_sem] def zTd{r:List (List PV)}:dt (.sl o es r)=aa:=(rfl)
@[go_sem] def zRu :dt (.fp r)=aa:=(rfl)
@[go_sem] def zS7 :dt (.bx r)=aa:=(rfl)
@[go_sem] def zLZ{a b:List PV}:dt (.func f a b)=aa:=(rfl)
@[go_sem] def zP2 :dt (.agg r)=aa:=(rfl)
@[go_sem] def zPJ :dt (.bO r)=aa:=(rfl)
@[go_sem] def zKG:dt .fB=aa:=(rfl)
@[go_sem] def zMt:dt .fZ=aa:=(rfl)
@[go_sem] def zMo:dt .gG=aa:=(rfl)
@[go_sem] def zSk:bK .au=aa:=by simp[bK]
@[go_sem] def zJc :bK (.bool b)=aa:=by simp[bK]
@[go_sem] def zNN :bK (.int j n)=aa:=by simp[bK]
@[go_sem] def zL9{s:ByteArray}:bK (.str s)=aa:=by simp[bK]
@[go_sem] def zQj :bK (.fp r)=aa:=by simp[bK]
@[go_sem] def zII{a b:List PV}:bK (.func f a b)=aa:=by simp[bK]
@[go_sem] def zIp:bK .fB=aa:=by simp[bK]
@[go_sem] def zI9:bK .fZ=aa:=by simp[bK]
@[go_sem] def zIR:bK .gG=aa:=by simp[bK]
attribute [go_sem] zkK zvf ziJ zt2 zjE zqL zoZ ztG zoX ztM zrt zrh
@[go_sem] def zS4:drop .au=.au:=by simp[drop]
@[go_sem] def zIz :drop (.bool b)=.bool b:=by simp[drop]
@[go_sem] def zLs :drop (.int j n)=.int j n:=by simp[drop]
@[go_sem] def zNf{s:ByteArray}:drop (.str s)=.str s:=by simp[drop]
@[go_sem] def zN9 :drop (.fp r)=.fp r:=by simp[drop]
@[go_sem] def zJC{a b:List PV}:drop (.func f a b)=.func f a b:=by simp[drop]
@[go_sem] def zIq:drop .fB=.fB:=by simp[drop]
@[go_sem] def zIK:drop .fZ=.fZ:=by simp[drop]
@[go_sem] def zIw:drop .gG=.gG:=by simp[drop]
@[go_sem] def zPD:cP .au=Z:=by simp[cP]
@[go_sem] def zE2 :cP (.bool b)=Z:=by simp[cP]
@[go_sem] def zI8 :cP (.int j n)=Z:=by simp[cP]
@[go_sem] def zID{s:ByteArray}:cP (.str s)=Z:=by simp[cP]
@[go_sem] def zKV :cP (.fp r)=aa:=by simp[cP]
@[go_sem] def zHi{a b:List PV}:cP (.func f a b)=aa:=by simp[cP]
@[go_sem] def zIk:cP .fB=Z:=by simp[cP]
@[go_sem] def zFX :ql (.int j n)=Z:=(rfl)
@[go_sem] def zD3 :ql (.bool b)=Z:=(rfl)
@[go_sem] def zHz{s:ByteArray}:ql (.str s)=Z:=(rfl)
@[go_sem] def zJH{r:List (List PV)}:ql (.sl o es r)=Z:=(rfl)
@[go_sem] def zIv :ql (.bx r)=Z:=(rfl)
@[go_sem] def zIS :ql (.fp r)=Z:=(rfl)
@[go_sem] def zEl{a b:List PV}:ql (.func f a b)=Z:=(rfl)
@[go_sem] def zD6 :jS (.int j n)=Z:=(rfl)
@[go_sem] def zCM :jS (.bool b)=Z:=(rfl)
@[go_sem] def zD8{s:ByteArray}:jS (.str s)=Z:=(rfl)
@[go_sem] def zHr{r:List (List PV)}:jS (.sl o es r)=Z:=(rfl)
@[go_sem] def zD5 :jS (.agg r)=Z:=(rfl)
@[go_sem] def zEQ :jS (.bx r)=Z:=(rfl)
@[go_sem] def zEZ :jS (.fp r)=Z:=(rfl)
@[go_sem] def zC9{a b:List PV}:jS (.func f a b)=Z:=(rfl)
@[go_sem] def zHw :cN (.int j n)=[.int j n]:=(rfl)
@[go_sem] def zEf :cN (.bool b)=[.bool b]:=(rfl)
@[go_sem] def zF2{s:ByteArray}:cN (.str s)=[.str s]:=(rfl)
@[go_sem] def zJD{r:List (List PV)}:cN (.sl o es r)=[.sl o es r]:=(rfl)
@[go_sem] def zE0 :cN (.agg r)=r:=(rfl)
@[go_sem] def zJb :cN (.bx r)=[.bx r]:=(rfl)
@[go_sem] def zJt :cN (.fp r)=[.fp r]:=(rfl)
@[go_sem] def zD1{a b:List PV}:cN (.func f a b)=[.func f a b]:=(rfl)
@[go_sem] def zIs :nb e (.bool b)=.bool b:=(rfl)
@[go_sem] def zKe :nb e (.int j n)=.int j n:=(rfl)
@[go_sem] def zLM{s:ByteArray}:nb e (.string s)=.str s:=(rfl)
@[go_sem] def zKf :nb e (.slice ae 0 0)=.sl Z e []:=(rfl)
@[go_sem] def zJs :nb e .nilFunc=.fB:=(rfl)
@[go_sem] def zPP :ct (.int j n)=Z:=(rfl)
@[go_sem] def zNu :ct (.bool b)=Z:=(rfl)
@[go_sem] def zPZ{b:ByteArray}:ct (.string b)=Z:=(rfl)
@[go_sem] def zQl:ct (.slice ae 0 0)=Z:=(rfl)
@[go_sem] def zMO:ct .nilFunc=Z:=(rfl)
@[go_sem] def zRs{t:Tmp}:cq pf (.tmp t)=D3 (pf t):=(rfl)
@[go_sem] def zSW{x:PV}:D3 (.v x)=sR x:=(rfl)
@[go_sem] def zJF:D3 .skip=ae:=(rfl)
@[go_sem] def zL4 :sR (.bool b)=J (.bool b):=(rfl)
@[go_sem] def zPE :sR (.int j n)=J (.int j n):=(rfl)
@[go_sem] def zN7{s:ByteArray}:sR (.str s)=J (.string s):=(rfl)
@[go_sem] def zPT{l:List PV}:sR (.agg l)=(wF l).map λl=>.agg l.toArray:=(rfl)
@[go_sem] def zME:wF []=J []:=(rfl)
@[go_sem] def zMI :wF (.int j n::r)=(wF r).map λl=>.int j n::l:=(rfl)
@[go_sem] def zPe :cq pf (.const (.int j n))=J (.int j n):=(rfl)
@[go_sem] def zLo :cq pf (.const (.bool b))=J (.bool b):=(rfl)
@[go_sem] def zQ3{b:ByteArray}:cq pf (.const (.string b))=J (.string b):=(rfl)
@[go_sem] def zFI :kT (.bool b)=J (.bool b):=(rfl)
@[go_sem] def zJk :kT (.int j n)=J (.int j n):=(rfl)
@[go_sem] def zJG{s:ByteArray}:kT (.string s)=J (.str s):=(rfl)
def CW(f:Value->Option Value)(x:Option Value)(pf:ah):Option (PF×ah):=(x.bind λa=>(f a).bind kT).map λy=>(.v y,pf)
def ww(f:Value->Value->Option Value)(x y:Option Value)(pf:ah):Option (PF×ah):=(x.bind λa=>y.bind λb=>(f a b).bind kT).map λy=>(.v y,pf)
def sx(x:Option Value)(pf:ah):Option (PF×ah):=(x.bind kT).map λy=>(.v y,pf)
@[go_sem] def zKK{f:Value->Option Value}{a:Value}:CW f (J a) pf=sx (f a) pf:=(rfl)
@[go_sem] def zJZ{f:Value->Value->Option Value}{a b:Value}:ww f (J a) (J b) pf=sx (f a b) pf:=(rfl)
@[go_sem] def zLg :sx (J (.bool b)) pf=J (.v (.bool b),pf):=(rfl)
@[go_sem] def zOF :sx (J (.int j n)) pf=J (.v (.int j n),pf):=(rfl)
@[go_sem] def zRd{s:ByteArray}:sx (J (.string s)) pf=J (.v (.str s),pf):=(rfl)
def Bb{o:Oper}{x:Option (PF×ah)}(h:(((gw o.op).bind (pm pf)).bind λvs=>(eD P o.op vs).bind kT).map (λy=>(PF.v y,pf))=x):lR P co o (pw P c k Q) pf=qv P c co x o.dst k Q:=by
 subst h;unfold lR;cases (gw o.op).bind (pm pf)with
 |none=>rfl
 |some vs=>
  simp only[aR];cases (eD P o.op vs).bind kT<;>rfl
@[go_sem ↓] def zLv{op:UnOp}{d:Option Tmp}:pw1 P c co ty (.unOp op t x) d k Q pf=qv P c co (CW (Dn op) (cq pf x) pf) d k Q:=by
 refine Bb (o:=⟨d,.unOp op t x,ty, "",#[],ae⟩) ?_;simp only[gw,pm,aR];cases cq pf x<;>simp[eD,CW]
def X8{s:TypeId}{d:Tmp}(ht:dU P t=Z)(hp:co.hp≠[]\/Jb pf x=Z):pw1 P c co ty (.convert s t x) (J d) k Q pf=qv P c co (yH P s pf x) (J d) k Q:=by
 show(if dU P t=Z then(co.hp≠[]\/Jb pf x=Z)/\xw P co s t x (J d) (pw P c k Q) pf else _)=_;rw[aB ht];unfold xw qv;cases yH P s pf x with
 |none=>simp[hp]
 |some z=>simp[hp,ht]
@[go_sem ↓] def zN5{s:TypeId}{d:Tmp}(ht:dU P t=Z)(hp:co.hp.isEmpty=aa):pw1 P c co ty (.convert s t x) (J d) k Q pf=qv P c co (yH P s pf x) (J d) k Q:=X8 ht (.inl λe=>by rw[e]at hp;cases hp)
@[go_sem] def zNV{rows:List (List PV)}:Hw (.ls 1 rows)=Z:=(rfl)
@[go_sem ↓] def zIJ{s:TypeId}{u:Nat}{d:Tmp}(ht:dU P t=Z)(hl:Hw (pf u)=Z):pw1 P c co ty (.convert s t (.tmp u)) (J d) k Q pf=qv P c co (yH P s pf (.tmp u)) (J d) k Q:=X8 ht (.inr hl)
@[go_sem ↓] def zD2{s:TypeId}{d:Option Tmp}(ht:dU P t=aa):pw1 P c co ty (.convert s t x) d k Q pf=qv P c co (CW (Dq P s t) (cq pf x) pf) d k Q:=by
 have e:pw1 P c co ty (.convert s t x) d k Q pf=lR P co ⟨d,.convert s t x,ty, "",#[],ae⟩ (pw P c k Q) pf:=by
  show(if dU P t=Z then(co.hp≠[]\/Jb pf x=Z)/\xw P co s t x d (pw P c k Q) pf else lR P co ⟨d,.convert s t x,ty, "",#[],ae⟩ (pw P c k Q) pf)=_;rw[az (by simp[ht])]
 rw[e];refine Bb (o:=⟨d,.convert s t x,ty, "",#[],ae⟩) ?_;simp only[gw,pm,aR];cases cq pf x<;>simp[eD,CW]
@[go_sem] def zET{t:Tmp}:ua (.tmp t)=aa:=(rfl)
@[go_sem] def zFk :ua (.const (.int j n))=aa:=(rfl)
@[go_sem] def zEj :ua (.const (.bool b))=aa:=(rfl)
@[go_sem] def zFd{s:ByteArray}:ua (.const (.string s))=aa:=(rfl)
@[go_sem ↓] def zIL{u:TypeId}{op:BinOp}{y:Operand}{d:Option Tmp}(hy:ua y=aa):pw1 P c co ty (.binOp op t x y u) d k Q pf=qv P c co (ww (cW P op t) (cq pf x) (cq pf y) pf) d k Q:=by
 have e:pw1 P c co ty (.binOp op t x y u) d k Q pf=lR P co ⟨d,.binOp op t x y u,ty, "",#[],ae⟩ (pw P c k Q) pf:=by
  show nE P co ⟨d,.binOp op t x y u,ty, "",#[],ae⟩ (pw P c k Q) pf=_;simp only[nE,hy,p8,l7]
 rw[e];refine Bb (o:=⟨d,.binOp op t x y u,ty, "",#[],ae⟩) ?_;simp only[gw,pm,aR];cases cq pf x<;>cases cq pf y<;>simp[eD,ww]
@[go_sem ↓] def zJy{y:Operand}{d:Option Tmp}:pw1 P c co ty (.index t x y) d k Q pf=qv P c co (ww (rP P t) (cq pf x) (cq pf y) pf) d k Q:=by
 refine Bb (o:=⟨d,.index t x y,ty, "",#[],ae⟩) ?_;simp only[gw,pm,aR];cases cq pf x<;>cases cq pf y<;>simp[eD,ww]
@[go_sem ↓] def zOu{y:Operand}{ts:Array TypeId}{d:Option Tmp}:pw1 P c co ty (.call ⟨.builtin .min,#[x,y],ts⟩) d k Q pf=qv P c co (ww (uu aa) (cq pf x) (cq pf y) pf) d k Q:=by
 refine Bb (o:=⟨d,.call ⟨.builtin .min,#[x,y],ts⟩,ty, "",#[],ae⟩) ?_;simp only[gw,pm,aR];cases cq pf x<;>cases cq pf y<;>simp[eD,ww]
@[go_sem ↓] def zOK{y:Operand}{ts:Array TypeId}{d:Option Tmp}:pw1 P c co ty (.call ⟨.builtin .max,#[x,y],ts⟩) d k Q pf=qv P c co (ww (uu Z) (cq pf x) (cq pf y) pf) d k Q:=by
 refine Bb (o:=⟨d,.call ⟨.builtin .max,#[x,y],ts⟩,ty, "",#[],ae⟩) ?_;simp only[gw,pm,aR];cases cq pf x<;>cases cq pf y<;>simp[eD,ww]
@[go_sem] def zJX{s d:TypeId}{i k:IntKind}(hs:jW P s=J i)(hd:jW P d=J k):Dq P s d (.int j n)=J (.int k (k.wrap n)):=by
 unfold Dq
 have:∃u,P.underlying s=J u:=by
  unfold jW at hs;split at hs
  ·rename_i h;exact⟨_,h⟩
  ·cases hs
 obtain⟨u,hu⟩:=this;rw[hu,hd]
@[go_sem] def zOS{b:Int}:cW P .add t (.int j a) (.int j b)=J (.int j (j.wrap (a+b))):=by simp[cW,jK]
@[go_sem] def zPW{b:Int}:cW P .sub t (.int j a) (.int j b)=J (.int j (j.wrap (a-b))):=by simp[cW,jK]
@[go_sem] def zQE{b:Int}:cW P .mul t (.int j a) (.int j b)=J (.int j (j.wrap (a*b))):=by simp[cW,jK]
def uX(b:Int)(x:Value):Option Value:=if b=0 then ae else J x
@[go_sem] def zOM{b:Int}:cW P .quo t (.int j a) (.int j b)=uX b (.int j (j.wrap (a.tdiv b))):=by simp[cW,jK,uX]
@[go_sem] def zQZ{b:Int}:cW P .rem t (.int j a) (.int j b)=uX b (.int j (a.tmod b)):=by simp[cW,jK,uX]
def QZ{b:Int}{x:Value}(h:b≠0):uX b x=J x:=by simp[uX,h]
@[go_sem] def zMx{x:Value}{n:Nat}:uX (OfNat.ofNat (n+1)) x=J x:=by
 refine QZ ?_;show((n+1:Nat):Int)≠0;omega
@[go_sem] def zPH{b:Int}:cW P .eql t (.int j a) (.int j b)=J (.bool (a==b)):=by simp[cW,jK]
@[go_sem] def zOv{b:Int}:cW P .neq t (.int j a) (.int j b)=J (.bool (a !=b)):=by simp[cW,jK]
@[go_sem] def zOh{b:Int}:cW P .lss t (.int j a) (.int j b)=J (.bool (decide (a<b))):=by simp[cW,jK]
@[go_sem] def zPt{b:Int}:cW P .leq t (.int j a) (.int j b)=J (.bool (decide (a<=b))):=by simp[cW,jK]
@[go_sem] def zOy{b:Int}:cW P .gtr t (.int j a) (.int j b)=J (.bool (decide (b<a))):=by simp[cW,jK]
@[go_sem] def zQQ{b:Int}:cW P .geq t (.int j a) (.int j b)=J (.bool (decide (b<=a))):=by simp[cW,jK]
@[go_sem] def zOa{b:Int}:cW P .and t (.int j a) (.int j b)=J (.int j (j.wrap (BitVec.ofInt j.bits a&&&BitVec.ofInt j.bits b).toNat)):=by simp[cW,jK]
@[go_sem] def zSE{b:Int}:cW P .or t (.int j a) (.int j b)=J (.int j (j.wrap (BitVec.ofInt j.bits a|||BitVec.ofInt j.bits b).toNat)):=by simp[cW,jK]
@[go_sem] def zQH{b:Int}:cW P .xor t (.int j a) (.int j b)=J (.int j (j.wrap (BitVec.ofInt j.bits a^^^BitVec.ofInt j.bits b).toNat)):=by simp[cW,jK]
def Aj(b:Int)(x:Value):Option Value:=if b<0 then ae else J x
@[go_sem] def zOc{j':IntKind}{b:Int}:cW P .shl t (.int j a) (.int j' b)=Aj b (.int j (j.wrap (a*2^min b.toNat j.bits))):=by simp[cW,Aj]
@[go_sem] def zPM{j':IntKind}{b:Int}:cW P .shr t (.int j a) (.int j' b)=Aj b (.int j (a.fdiv (2^min b.toNat j.bits))):=by simp[cW,Aj]
def W1{b:Int}{x:Value}(h:0<=b):Aj b x=J x:=by simp[Aj];omega
@[go_sem] def zM9{a:Bool}(h:Fi P t=Z):cW P .eql t (.bool a) (.bool b)=J (.bool (a==b)):=by simp[cW,h]
@[go_sem] def zKQ{a:Bool}(h:Fi P t=Z):cW P .neq t (.bool a) (.bool b)=J (.bool (a !=b)):=by simp[cW,h]
@[go_sem] def zKd{a b:List Value}{o:List Nat}(h:Bi P t=J o):cW P .eql t (.agg a.toArray) (.agg b.toArray)=(tx a b o).map .bool:=by simp[cW,h]
@[go_sem] def zNk{a b:List Value}{o:List Nat}(h:Bi P t=J o):cW P .neq t (.agg a.toArray) (.agg b.toArray)=(tx a b o).map λr=>.bool !r:=by simp[cW,h]
@[go_sem] def zUK{i:IntKind}{b x y:Int}:tx [.int j a,.int i b] [.int j x,.int i y] [0,1]=J (a==x&&b==y):=by simp[tx]
@[go_sem] def zNX{a b:ByteArray}:cW P .eql t (.string a) (.string b)=J (.bool (a.toList==b.toList)):=(rfl)
@[go_sem] def Yu{a b:ByteArray}(h:a.size+b.size<=9223372036854775807):cW P .add t (.string a) (.string b)=J (.string (a++b)):=by simp[cW,h]
@[go_sem] def zVZ{s:TypeId}(h:tO P s=Z):yH P s pf x=(pi 1 pf x).bind λz=>(ux z.1).map λns=>(.v (.str (xQ ns)),z.2):=by unfold yH;rw[aB h]
@[go_sem] def zI3:ux []=J []:=(rfl)
@[go_sem] def zwk{rs:List (List PV)}:ux ([.int .u8 n]::rs)=(ux rs).map (n:: ·):=(rfl)
@[go_sem] def zIm{f:Int->List PV}(h:∀x,f x=[.int .u8 x]){l:List Int}:ux (l.map f)=J l:=by
 induction l with
 |nil=>rfl
 |cons x l ih=>rw[jD,h,zwk,ih];rfl
@[go_sem] def zKF{a b:ByteArray}:cW P .neq t (.string a) (.string b)=J (.bool !(a.toList==b.toList)):=(rfl)
@[go_sem] def zSB :Dn .not (.bool b)=J (.bool !b):=(rfl)
@[go_sem] def zRW :Dn .neg (.int j n)=J (.int j (j.wrap (0-n))):=(rfl)
@[go_sem] def zHx{b:Int}:uu Z (.int j a) (.int j b)=J (.int j (if a<b then b else a)):=by simp[uu]
@[go_sem] def zH3{b:Int}:uu aa (.int j a) (.int j b)=J (.int j (if b<a then b else a)):=by simp[uu]
end
end Go.Pm
