import Derived.Test.YtjnidpmkglobfaaGreatPmH
open Bool renaming false→Z,true→O
open Option renaming none→aa,some→J
set_option linter.defProp false
namespace Go.Pm
def aP:=@Option.bind_some
def Qy:=@List.getElem?_of_mem
def a1F:=@List.drop_eq_getElem_cons
set_option linter.unusedVariables false
set_option linter.unusedSimpArgs false
open Go.Am
def zc:List Nat->List Value->List PV
 |_,[]=>[]
 |[],v::b=>nz 0 v::zc [] b
 |e::f,v::b=>nz e v::zc f b
def VV(P:Program):Nat->TypeId->List Nat
 |0,_=>[]
 |n+1,t=>match P.underlying t with
  |some (.struct b)=>b.toList.flatMap λf=>VV P n f.type
  |some (.array k e)=>(List.replicate k (VV P n e)).flatten
  |some (.slice e)=>[match cE P e with|some z=>z.2.1|none=>0]
  |_=>[0]
def zz(P:Program)(t:TypeId)(z:List Value):List PV:=zc (VV P 8 t) z
def tk(P:Program)(t:TypeId):Option (Bool×Nat):=(cE P t).map λz=>(z.1,z.2.1)
def dz:PV->PV
 | .sl _ e []=>.sl Z e []
 |x=>x
def ud:PV->PV
 | .sl _ e []=>.sl O e []
 |x=>x
def tw(c:aW):Option Tmp->Bool
 |some d=>c.fz.contains (d+c.nt)
 |none=>Z
def uz(b:Bool)(z:List PV):List PV:=if b=O then z.map ud else z
def zr(P:Program)(t:TypeId):Option (List PV):=(cE P t).bind λz=>if z.2.2.2.all cD=O then J (zz P t z.2.2.2)else aa
def mH(P:Program)(t:TypeId):Option Nat:=(df P t).bind λe=>(cE P e).map λz=>z.2.1
def dj(P:Program)(t:TypeId):Nat:=(mH P t).getD 0
def M5:PF->Option PF
 | .as O s p i j _=>J (.rf s (p++[(i,j)]))
 |_=>aa
def I8(P:Program)(t:TypeId)(Y:ae):Operand->Option PF
 | .tmp u=>(tk P t).bind λb=>if b.1=Z then M5 (Y u)else aa
 |_=>aa
def NP(P:Program)(t:TypeId)(u:Nat)(Y:ae):PF->Option Value->Option (PF×ae)
 | .as Z s p i j n,J (.int _ q)=>if mH P t=J 1/\0<=q/\q<n then J (.as O s p i (j+q.toNat) 1,Y.put u jP)else aa
 |_,_=>aa
def E7(P:Program)(t:TypeId)(x i:Operand)(Y:ae):Option (PF×ae):=
 match x with
 | .tmp u=>NP P t u Y (Y u) (cr Y i)
 |_=>aa
def Bz(c:aW)(d:Nat):Bool:=c.fz.contains (d+2*c.nt)
def Dh:PF->Option (Nat×aB)
 | .rf s p=>J (s,p)
 |_=>aa
def Hq(t:Nat):PF->Option PF
 | .bl _=>J (.pt t [] 0 0)
 | .rf s p=>J (.rf s p)
 | .cl s g b=>J (.cl s g b)
 |_=>aa
def Cr(c:aW)(Y:ae):Option Tmp->Operand->Option PF
 |some d,.tmp t=>if Bz c d=O then Hq t (Y t)else aa
 |_,_=>aa
def TZ(c:aW):Option Tmp->Bool
 |some d=>c.fz.contains (d+6*c.nt)
 |none=>Z
def zZ(c:aW)(d:Option Tmp)(Y:ae):PF->Option (PF×ae)
 | .rf s p=>if TZ c d=O then(cj Y s p).bind λx=>if dv x=O then aa else(iL Y s p .az).map λb=>(.v x,b)else J (.rf s p,Y)
 |y=>J (y,Y)
def GW(c:aW)(K:ae->Prop)(d:Option Tmp)(y:PF)(Y:ae):Prop:=
 match zZ c d Y y with
 |some z=>dI c K d z.1 z.2
 |none=>False
def FW(P:Program)(c:aW)(t:TypeId)(a:Operand)(d:Option Tmp)(K:ae->Prop)(Y:ae):Prop:=
 match(tk P t).bind λb=>(nK Y a).bind (Dq b Y)with
 |some y=>GW c K d y Y
 |none=>match I8 P t Y a with
  |some y=>dI c K d y Y
  |none=>False
def rA:PV->Bool
 | .agg _| .bR _| .az=>Z
 |_=>O
def FZ(b:Nat)(x:PV):Bool:=jT x&&decide ((cR x).length=b)&&decide (b≠0)&&(cR x).all rA
def FM(K:ae->Prop)(y:PV)(Y:ae):Option AD->Prop
 |some (.pl s p i j)=>match mK Y s p i j (cR y)with
  |some b=>K b
  |none=>False
 |_=>False
def Gc(P:Program)(c:aW)(t:TypeId)(a x:Operand)(d:Option Tmp)(K:ae->Prop)(Y:ae):Prop:=
 match tk P t,eJ (dj P t) Y x with
 |some (_,e),J (y,b)=>FZ e y=O/\d=aa/\FM K y b (nK b a)
 |_,_=>False
def F2(c:aW)(K:ae->Prop)(d:Option Tmp)(Y:ae):Option AD->Prop
 |some b=>dI c K d (xv b) Y
 |none=>False
def zwO(P:Program)(c:aW)(s:TypeId)(x:Operand)(f:Nat)(d:Option Tmp)(K:ae->Prop)(Y:ae):Prop:=
 F2 c K d Y ((dR P s f).bind λo=>(nK Y x).bind (yS o.1))
def zCm(c:aW)(x:Operand)(d:Option Tmp)(K:ae->Prop)(Y:ae):Prop:=F2 c K d Y (nK Y x)
inductive SB where
 |own (s:Nat) (p:aB) (lo n es:Nat)
 |fz (es:Nat) (rows:List (List PV))
def uf(s:Nat)(p:aB):PV->Option SB
 | .sl O b e=>J (.own s p 0 e.length b)
 | .sl Z b e=>J (.fz b e)
 |_=>aa
def Js(s:Nat)(p:aB)(e b:Nat):PV->Option SB
 | .sl O g f=>if e<=b/\b<=f.length then J (.own s p e (b-e) g)else aa
 | .sl Z g f=>if e<=b/\b<=f.length then J (.fz g ((f.take b).drop e))else aa
 |_=>aa
def uJ(Y:ae)(t:Nat):PF->Option SB
 | .v x=>uf t [] x
 | .rf s p=>(cj Y s p).bind (uf s p)
 | .rv s p e b=>(cj Y s p).bind (Js s p e b)
 |_=>aa
def GI(Y:ae):Operand->Option SB
 | .tmp t=>uJ Y t (Y t)
 |_=>aa
def HB(e:Nat)(j:Int):SB->Option AD
 | .own s p f n b=>if b=e/\0<=j/\j<n then J (.pl s p (f+j.toNat) 0)else aa
 | .fz b g=>if b=e/\0<=j then(g[j.toNat]?).map .fz else aa
def M7(b:Nat)(j:Option Value)(x:SB):Option AD:=
 match j with
 |some (.int _ j)=>HB b j x
 |_=>aa
def JW(P:Program)(t:TypeId):Option (Nat×Nat):=(AA P t).bind λe=>(cE P e.2).map λz=>(e.1,z.2.1)
def M2(f e:Nat)(j:Option Value)(b:AD):Option AD:=
 match j with
 |some (.int _ j)=>if 0<=j/\j<f then yS (j.toNat*e) b else aa
 |_=>aa
def zU(P:Program)(t:TypeId)(x i:Operand)(Y:ae):Option AD:=
 match mH P t with
 |some b=>(GI Y x).bind (M7 b (cr Y i))
 |none=>match JW P t with
  |some (e,b)=>(nK Y x).bind (M2 e b (cr Y i))
  |none=>aa
def ED(P:Program)(c:aW)(t:TypeId)(x i:Operand)(d:Option Tmp)(K:ae->Prop)(Y:ae):Prop:=
 match zU P t x i Y with
 |some b=>dI c K d (xv b) Y
 |none=>match E7 P t x i Y with
  |some y=>dI c K d y.1 y.2
  |none=>False
def Ht(P:Program)(c:aW)(e:TypeId)(d:Option Tmp)(K:ae->Prop)(Y:ae):Prop:=
 match zr P e,d with
 |some z,J d=>ia c d .skip=O/\if c.hp.contains d=O then K (Y.put d (.v (.bx z)))else K (Y.put d (.bl z))
 |_,_=>False
def rQ:PF->Bool
 | .ls .. =>O
 |_=>Z
def xc(Y:ae):Operand->Bool
 | .tmp t=>rQ (Y t)
 |_=>Z
def FQ(P:Program)(c:aW)(e:TypeId)(x:Operand)(d:Option Tmp)(K:ae->Prop)(Y:ae):Prop:=
 match tk P e,eJ (dj P e) Y x,d with
 |some _,J (y,b),J d=>xc Y x=Z/\jT y=O/\ia c d .skip=O/\if c.hp.contains d=O then(if c.fz.contains d=O then K ((b.put d (.v (.bx (cR y)))).put d (.v (drop (.bx (cR y)))))else K (b.put d (.v (.bx (cR y)))))else K (b.put d (.bl (cR y)))
 |_,_,_=>False
def AS(c:aW):Option Tmp->Bool
 |some d=> !c.hp.isEmpty&&c.fz.contains (d+5*c.nt)
 |none=>Z
def Ci(Y:ae)(t s:Nat):aB->Nat->Nat->PF->Option (PF×ae)
 |[],0,0,.bl b=>J (.rf s [],((Y.bV s (.v (.bx b))).kill s 0).put t (.rf s []))
 |_,_,_,_=>aa
def tR(c:aW)(t:Nat)(d:Option Tmp)(K:ae->Prop)(Y:ae):PF->Prop
 | .v x=>dv x=Z/\if bI x=O then dI c K d (.rf t []) Y else dI c K d (.v x) Y
 | .ls b e=>t<c.nt/\dI c K d (.rf t []) ((Y.bV t (.v (.sl O b e))).kill t 0)
 | .bl _=>dI c K d (.pt t [] 0 0) Y
 | .skip=>False
 | .as .. =>False
 | .pt s p i j=>if AS c d=O then match Ci Y t s p i j (Y s)with
  |some y=>dI c K d y.1 y.2
  |none=>False
  else dI c K d (.pt s p i j) Y
 |y=>dI c K d y Y
def uo(e:Nat)(c:aW)(x:Operand)(d:Option Tmp)(K:ae->Prop)(Y:ae):Prop:=
 match x with
 | .tmp t=>tR c t d K Y (Y t)
 |x=>match eJ e Y x with
  |some (y,b)=>dI c K d (.v y) b
  |none=>False
def F3(e:Nat)(c:aW)(x:Operand)(d:Option Tmp)(K:ae->Prop)(Y:ae):Prop:=
 match Cr c Y d x with
 |some y=>dI c K d y Y
 |none=>match eJ e Y x with
  |some (y,b)=>dI c K d (.v y) b
  |none=>False
section
variable {S:Nat}{W:List (Nat×Value)}{U E E':Env}{Y:ae}{X T:FR}{c:aW}{P:Program}
variable{K:ae->Prop}{R:FR->AH->Prop}{a x:Operand}{d:Option Tmp}{fv:FV}{o:Oper}{p:aB}{s:Nat}{t:TypeId}
def GX{x:Bool×Nat}(h:tk P t=J x):∃r,cE P t=J (x.1,x.2,r):=by
 simp only[tk,bL]at h;obtain⟨⟨a,b,e⟩,f,rfl⟩:=h;exact⟨e,f⟩
def zAY{x:List PV}(h:zr P t=J x):∃g s b z,cE P t=J (g,s,b,z)/\z.all cD=O/\x=zz P t z:=by
 simp only[zr,bT]at h;obtain⟨⟨a,b,f,z⟩,i,e⟩:=h;split at e
 ·rename_i j;simp only[aS]at e;exact⟨a,b,f,z,i,j,e.symm⟩
 ·cases e
def GS:∀{n:Nat}{cs:List Value},n<=cs.length->uw n cs=J (cs.take n):=by
 intro n;induction n with
 |zero=>intro cs _;simp[uw]
 |succ n ih=>
  intro cs h;cases cs with
  |nil=>simp at h
  |cons c cs=>simp[uw,ih (by simpa using h)]
def vy(X:FR)(H:AH):FV->Option (List Value)
 | .lp s o=>match X s with
  | .loc b=>J (b.drop o)
  |_=>aa
 | .v (.pointer (J ⟨id,off,aa⟩))=>H.load id off
 |_=>aa
def zm3{H:AH}(h:bO X a=J fv):mI X H a=vy X H fv:=by
 unfold mI vy;rw[h];cases fv with
 |v x=>
  cases x with
  |pointer p=>
   cases p with
   |none=>rfl
   |some a=>obtain⟨b,o,e⟩:=a;cases e<;>rfl
  |_=>rfl
 |_=>rfl
def zzm(r:au S W U E Y X){i j:Nat}{A:List PV}(hx3:L5 E X s p i j fv)(hr:Lr Y s p i=J A):
 ∃cs,vy X E.H fv=J cs/\∀q,j+q<A.length->∃y,cs[q]? =J y/\Wk E X s (p++[(i,j+q)]) y:=by
 obtain⟨zx1,z,b⟩:=bT.1 hr;rcases hx3 with⟨l,n,rfl,rfl,rfl⟩|⟨v0,id,o,w,hd,rfl⟩
 ·have hlen:A.length=l.length:=by
   have u:=r.f s;simp only[cj,bT]at z;obtain⟨x0,f,G⟩:=z;simp only[iV,aS]at G;subst G;cases B:Y s with
   |bl tO=>
    rw[B]at u f;obtain⟨dF,F,c2,_⟩:=u;rw[n]at F;cases F;simp only[fS,aS]at f;subst f;simp only[mp,e7,aS]at b;subst b;exact c2
   |v y=>
    rw[B]at u f;simp only[fS,aS]at f;subst f;obtain⟨wx1,e,_⟩:=gu u (by rintro rfl;simp[mp]at b);rw[n]at e;cases e
   |_=>rw[B]at f;simp[fS]at f
  refine⟨l.drop j,by simp[vy,n],λq H=>?_⟩;have g:j+q<l.length:=by omega
  refine⟨l[j+q],?_,.inr ⟨l,j+q,[],_,n,rfl,cI g,rfl⟩⟩;rw[jq,cI g]
 ·obtain⟨v',w1,w2⟩:=r.at z (by rintro rfl;simp[mp]at b) (jb r w z);have:=w1.same w;subst this;cases w2 with
  | @fN _ I off h nx cc k rows D C m N hn hc hm hrr hl hh=>
   cases hd with
   |sl M L hi=>
   simp only[mp]at b;have hes:=hrr A (eD b);refine⟨k.cells.drop (off+i*h+j),by simp[vy,AH.load,m],λq H=>?_⟩;have h5:(i+1)*h<=cc*h:=gN _ (by omega);rw[kf]at h5;have g:off+i*h+j+q<k.cells.length:=by omega
   refine⟨k.cells[off+i*h+j+q],by rw[jq,cI g],w.snoc ⟨_,off+i*h,k,_,.sl (j:=j) D C hi,?_,m,by rw[<-i9];exact cI g,rfl⟩⟩;rintro Q ⟨_,_,_,e⟩;cases e;omega
  | @bx _ I k tO D C m N hl hh=>
   cases hd with
   |bx M L=>
   simp only[mp,e7,aS]at b;subst b;refine⟨k.cells.drop (0+j),by simp[vy,AH.load,m],λq H=>?_⟩;have g:j+q<k.cells.length:=by omega
   refine⟨k.cells[j+q],by rw[jq,gD,cI g],w.snoc ⟨_,0,k,_,.bx D C,?_,m,by rw[gD];exact cI g,rfl⟩⟩;rintro Q ⟨_,_,_,e⟩;cases e
  |sl0 ob h=>cases hd
  |_=>simp[mp]at b
def SW(r:au S W U E Y X){i q:Nat}{e:List PV}{x:PV}{y:Value}(g:Lr Y s p i=J e)(j:e[q]? =J x)(h:Wk E X s (p++[(i,q)]) y):PR E (J (s,p++[(i,q)])) x y:=by
 by_cases b:x=.az
 ·subst b;exact .az y
 ·obtain⟨l,k,f⟩:=r.at (s:=s) (p:=p++[(i,q)]) (by rw[R0 g];exact j) b (.inl Nw);rw[k.same h]at f;exact f
def JH{y:PF}(b:∀s p,y≠.rf s p)(h:GW c K d y Y):dI c K d y Y:=by
 cases y with
 |rf s p=>exact absurd rfl (b s p)
 |_=>exact h
def ztI(r:au c.nt W U E Y X)(A:eK c W)(h:FW P c t a d K Y)
(w:∀Q T E',K Q->au c.nt W U E' Q T->R T E'.H):match nv P t (mI X E.H a)with|some v=>bu c.nt R d (.v v) X E.H|none=>False:=by
 unfold FW at h;split at h
 ·rename_i y m;simp only[bT]at m;obtain⟨tz,I,ad,kQ,b⟩:=m;obtain⟨fv,ki,eg⟩:=Jz r kQ;rw[zm3 ki];obtain⟨dJ,C⟩:=GX I;obtain⟨g,n⟩:=tz;simp only at C;cases ad with
  |pl s p i j=>
   obtain⟨G,aD⟩:=eg;simp only[Dq,bT]at b;obtain⟨row,L,b⟩:=b;obtain⟨cs,D,H⟩:=zzm r aD L;rw[D];cases g with
   |true=>
    simp only[Cx]at b;split at b
    ·rename_i da;simp only[aS]at b
     have N:n<=cs.length:=by
      rcases Wi n with h0|h0
      ·omega
      ·obtain⟨y,f,_⟩:=H (n-1) (by omega);have:=(cY.1 f).1;omega
     simp only[nv,C,GS N,mz]
     have B:∀(q:Nat) (y:Value),(cs.take n)[q]? =J y->q<n/\Wk E X s (p++[(i,j+q)]) y:=by
      intro q y B;rw[my]at B;split at B
      ·rename_i z;obtain⟨y',f,l⟩:=H q (by omega);rw[f]at B;cases B;exact⟨z,l⟩
      ·cases B
     split at b
     ·rename_i F;subst b;have eN:n≠0:=by rintro rfl;simp at F
      exact jC r A (y:=.ra s p i j n) rfl G ⟨_,rfl,⟨by simp;omega,eN⟩,λq y f=>(B q y (by simpa using f)).2⟩ (JH (by intro s p e;cases e) h) w
     ·rename_i F;subst b;refine hY r A (PR.up (.agg (by simp;omega) λq x y f l=>?_)) (JH (by intro s p e;cases e) h) w;have l:=B q y (by simpa using l);rw[my,aE l.1,jq]at f;refine(SW r L f l.2).free ?_
      have:=Mj.1 (by simpa using F) x (by
       rw[List.mem_iff_getElem?]
       exact⟨q,by rw[my,aE l.1,jq];exact f⟩)
      simpa using this
    ·cases b
   |false=>
    simp only[Cx]at b;split at b
    ·rename_i x a3Y Ba;simp only[aS]at b
     have hx:row[j]? =J x:=by
      have:(row.drop j)[0]? =J x:=by rw[Ba];rfl
      rw[jq]at this;exact this
     obtain⟨y',f,l⟩:=H 0 (by have:=(cY.1 hx).1;omega);rw[sk]at l;cases cs with
     |nil=>simp at f
     |cons c0 cs=>
      simp at f;subst f;simp only[nv,C];split at b
      ·subst b;simp only[GW,zZ]at h;split at h
       ·rename_i zx1 u;split at u
        ·simp only[bT]at u;obtain⟨x0,dG,u⟩:=u;split at u
         ·cases u
         ·rename_i hj0;simp only[bL]at u;obtain⟨Q,Su,rfl⟩:=u;have uP:=oY (x:=x0) (by simpa using hj0);obtain⟨v0,E1,w1,w2,w3,w4⟩:=r.OE (fl:=[]) (λk x v h=>by simp at h) G dG uP (.inl (by simp)) Su;have ev:=w1.same l;subst ev;have:=hY w3 A (w4 0 x0 v0 rfl) h w;rw[w2]at this;exact this
        ·cases u;exact jC r A (y:=.rf s (p++[(i,j)])) rfl G ⟨_,rfl,l⟩ h w
       ·cases h
      ·rename_i F;subst b;exact hY r A ((SW r L hx l).free (by simpa using F)).up (JH (by intro s p e;cases e) h) w
    ·cases b
  |fz row=>
   obtain⟨v,rfl,hv⟩:=eg;cases hv with
   | @fp _ id off k _ hG M hl hh=>
   simp only[Dq]at b;have D:vy X E.H (.v (.pointer (J ⟨id,off,aa⟩)))=J (k.cells.drop off):=by simp[vy,AH.load,M]
   rw[D];cases g with
   |true=>
    simp only[Gm]at b;split at b
    ·rename_i da;simp only[aS]at b;subst b;have N:n<=(k.cells.drop off).length:=by simp;omega
     simp only[nv,C,GS N,mz];refine hY r A (PR.up (.agg (by simp;omega) λq x y f l=>?_)) (JH (by intro s p e;cases e) h) w;have l:((k.cells.drop off).take n)[q]? =J y:=by simpa using l
     rw[my]at f l;split at f
     ·rename_i z;rw[aE z,jq]at l;exact hh q x y f l
     ·cases f
    ·cases b
   |false=>
    simp only[Gm]at b;split at b
    ·rename_i x a3Y;simp only[aS]at b;subst b;have z:off<k.cells.length:=by simp at hl;omega
     rw[a1F z];simp only[nv,C];exact hY r A (PR.up (hh 0 x _ rfl (cI z))) (JH (by intro s p e;cases e) h) w
    ·cases b
 ·split at h
  ·rename_i y m;unfold I8 at m;split at m
   ·rename_i ux1 _;simp only[bT]at m;obtain⟨⟨g,n⟩,I,m⟩:=m;obtain⟨dJ,C⟩:=GX I;split at m
    ·rename_i hg;simp only at hg C;subst hg;have hf:=r.f ux1;unfold M5 at m;split at m
     ·rename_i s p i j nx FK;simp only[aS]at m;subst m;rw[FK]at hf;obtain⟨id,off,k,v,f,hG,M,hc,hw⟩:=hf;have G:=r.rt ux1 s (by rw[FK];rfl);rw[zm3 (fv:=.v (.pointer (J ⟨id,off,aa⟩))) (by simp[bO,f])];have D:vy X E.H (.v (.pointer (J ⟨id,off,aa⟩)))=J (k.cells.drop off):=by simp[vy,AH.load,M]
      rw[D];obtain⟨z,rfl⟩:=cY.1 hc;rw[a1F z];simp only[nv,C];exact jC r A (y:=.rf s (p++[(i,j)])) rfl G ⟨_,rfl,hw⟩ h w
     ·cases m
    ·cases m
   ·cases m
  ·cases h
def Uz{l:Lo}{x:PV}{v:Value}(h:PR E l x v)(b:rA x=O):l8 v=O:=by
 cases h<;>first|rfl|cases b
def zsR(rx1:au c.nt W U E Y X)(ho:o.op=.store t a x)(h:Gc P c t a x o.dst K Y)
(hk:∀C T E',K C->au c.nt W U E' C T->R T E'.H):aN P c.nt o R X E.H:=by
 unfold Gc at h;split at h
 ·rename_i gx1 sz y aR H jA;obtain⟨dJ,B⟩:=GX H;simp only at B;obtain⟨u,h2,f⟩:=h;simp only[FZ,bC,eE]at u;obtain⟨⟨⟨k1,k2⟩,k3⟩,k4⟩:=u;obtain⟨v,fr1,H1,n,m1,r,D,f1⟩:=wz rx1 (fl:=[]) (λk x v h=>by simp at h) jA;have w:PR n (J (c.nt,[(0,0)])) y v:=f1 0 y v rfl;obtain⟨M,N,Q⟩:=Ea (E':=n.rl (iW (c.nt,[(0,0)]) (0,[]) 0 0 y)) (b:=(0,[])) (i:=0) (j:=0) w k1 d7 λa b h=>mi h
  have F:v.cells.toList.all l8=O:=by
   rw[bc]at k4⊢;intro wx1 hw;obtain⟨q,A⟩:=Qy hw;have z:q<(cR y).length:=by have:=(cY.1 A).1;omega
   exact Uz (N q _ wx1 (cI z) A) (k4 _ (eL z))
  have hne:cR y≠[]:=λe=>k3 (by rw[<-k2,e];rfl)
  unfold FM at f;split at f
  ·rename_i s p i j kQ;split at f
   ·rename_i L dA;obtain⟨fv,ki,hs,I⟩:=Jz D kQ;obtain⟨dQ,H2,G,eB,e2,r2⟩:=D.storeAt hs w k1 hne I dA;have g:=hk L dQ G f r2;unfold aN;rw[ho];simp only[m1,B];rw[aE ⟨Q,by rw[<-M,k2],k3,F⟩,ki,h2];rw[e2]at g;rcases eB with⟨s',off,cells,cs,rfl,l,m,rfl,rfl⟩|⟨id,off,k,cs,rfl,l,m,g3,rfl,rfl⟩
    ·simp only[l,m,bu];rw[r]at g;exact g
    ·rw[r]at l g;simp only[l,m,e7,g3,bu];exact g
   ·cases f
  ·cases f
 ·cases h
def zuS{x:Option AD}(h:F2 c K d Y x):∃b,x=J b/\dI c K d (xv b) Y:=by
 cases x with
 |none=>cases h
 |some b=>exact⟨b,rfl,h⟩
def zsH(r:au c.nt W U E Y X)(j:eK c W){s:TypeId}{f:Nat}(q:o.op=.fieldAddr s x f)(h:zwO P c s x f o.dst K Y)
(i:∀k T E',K k->au c.nt W U E' k T->R T E'.H):aN P c.nt o R X E.H:=by
 obtain⟨w,b,g⟩:=zuS h;simp only[bT]at b;obtain⟨⟨off,z⟩,n,y,b,l⟩:=b;obtain⟨fv,u,m⟩:=Jz r b;unfold aN;rw[q];simp only[iO,n,u];rcases ZQ m l with⟨t,v,rfl,e⟩|⟨id,v,rfl,e⟩
 ·exact A0 r j e g i
 ·exact A0 r j e g i
def zwR{b:AD}(h:Fc S E X fv b):(∃s o,fv=.lp s o)\/∃a,fv=.v (.pointer (J a)):=by
 cases b with
 |pl s p i j=>
  rcases h.2 with⟨k,e,f,l,rfl⟩|⟨n,id,o,e,f,rfl⟩
  ·exact .inl ⟨_,_,rfl⟩
  ·exact .inr ⟨_,rfl⟩
 |fz m=>
  obtain⟨v,rfl,g⟩:=h;obtain⟨id,off,rfl⟩:=XE g;exact .inr ⟨_,rfl⟩
def zvV(r:au c.nt W U E Y X)(g:eK c W)(j:o.op=.nilCheck x)(h:zCm c x o.dst K Y)
(f:∀i T E',K i->au c.nt W U E' i T->R T E'.H):aN P c.nt o R X E.H:=by
 obtain⟨m,k,e⟩:=zuS h;obtain⟨fv,l,b⟩:=Jz r k;unfold aN;rw[j];simp only[iO,l];rcases zwR b with⟨s,n,rfl⟩|⟨a,rfl⟩
 ·exact A0 r g b e f
 ·exact A0 r g b e f
def SM{f:Nat}(h:mH P t=J f):∃e g r,df P t=J e/\cE P e=J (g,f,r):=by
 unfold mH at h;cases i:df P t with
 |none=>rw[i]at h;cases h
 |some e=>
  rw[i]at h;simp only[aP]at h;cases b:cE P e with
  |none=>rw[b]at h;cases h
  |some z=>
   rw[b]at h;obtain⟨g,j,r⟩:=z;simp only[mz,aS]at h;subst h;exact⟨e,g,r,rfl,b⟩
def zzu{j f:Nat}(h:JW P t=J (j,f)):∃e g r,AA P t=J (j,e)/\cE P e=J (g,f,r):=by
 unfold JW at h;cases i:AA P t with
 |none=>rw[i]at h;cases h
 |some e=>
  obtain⟨n,e⟩:=e;rw[i]at h;simp only[aP]at h;cases b:cE P e with
  |none=>rw[b]at h;cases h
  |some z=>
   rw[b]at h;obtain⟨g,k,r⟩:=z;simp only[mz,aS,b9]at h;obtain⟨rfl,rfl⟩:=h;exact⟨e,g,r,rfl,b⟩
def zC1(S:Nat)(E:Env)(X:FR)(v:Value):SB->Prop
 | .own s p e n b=>s<S/\((n=0)\/∃id off m f g,Wk E X s p (.slice (J ⟨id,off,J b⟩) m f)/\E.ow id=J (s,p)/\¬E.G id/\e+n<=m/\v=.slice (J ⟨id,off+e*b,J b⟩) n g)
 | .fz b h=>PR E aa (.sl Z b h) v
def YH{x:PV}{v:Value}{f:SB}(m:s<S)(h:uf s p x=J f)(q:Wk E X s p v)(e:PR E (J (s,p)) x v):zC1 S E X v f:=by
 unfold uf at h;split at h
 ·rename_i g r;simp only[aS]at h;subst h;refine⟨m,?_⟩;cases e with
  |sl0 _ _=>exact .inl rfl
  | @fN _ id off g n b k r l i w u j y B C A z=>exact .inr ⟨id,off,n,b,b,q,l,i,by omega,by rw[j];simp⟩
 ·simp only[aS]at h;subst h;exact e.free (by simp[bI])
 ·cases h
def zye(r:au S W U E Y X){F:SB}(h:GI Y x=J F):∃v,bO X x=J (.v v)/\zC1 S E X v F:=by
 cases x with
 |tmp t=>
  simp only[GI]at h;have g:=r.f t
  have M:t<S:=by
   rcases dS t S with b|b
   ·exact b
   ·rw[r.hi t b]at h;simp[uJ,jP,uf]at h
  cases k:Y t with
  |v x=>
   rw[k]at h g;simp only[uJ]at h;obtain⟨v,b,e⟩:=gu g (by rintro rfl;simp[uf]at h);exact⟨v,by simp[bO,b],YH M h (.inl ⟨v,b,rfl⟩) e⟩
  |rf s p=>
   rw[k]at h g;simp only[uJ,bT]at h;obtain⟨x,i,h⟩:=h;obtain⟨v,b,e⟩:=g;obtain⟨z,q,j⟩:=r.at i (by rintro rfl;simp[uf]at h) (jb r e i);have:=q.same e;subst this;exact⟨z,by simp[bO,b],YH (r.rt t s (by rw[k];rfl)) h e j⟩
  |rv s p m C=>
   rw[k]at h g;simp only[uJ,bT]at h;obtain⟨x,i,h⟩:=h;have D:=r.rt t s (by rw[k];rfl);unfold Js at h;split at h
   ·rename_i f N;split at h
    ·rename_i B;simp only[aS]at h;subst h;rcases g with⟨b,e,rfl,rfl⟩|⟨id,off,G,n,u,b,e,A,y⟩
     ·exact⟨.slice aa 0 0,by simp[bO,e],D,.inl (by omega)⟩
     ·obtain⟨z,q,j⟩:=r.at i (by simp) (jb r b i);have:=q.same b;subst this;have w:=Af j;subst w;refine⟨.slice (J ⟨id,off+m*f,J f⟩) (C-m) (u-m),by simp[bO,y],D,?_⟩;cases j with
      |fN L I B Q hn hc hm hr hl hh=>exact .inr ⟨_,_,_,_,_,b,L,I,by omega,rfl⟩
    ·cases h
   ·rename_i f N;split at h
    ·rename_i B;simp only[aS]at h;subst h;rcases g with⟨b,e,rfl,rfl⟩|⟨id,off,G,n,u,b,e,A,y⟩
     ·exact⟨.slice aa 0 0,by simp[bO,e],by show PR E aa (.sl Z f _) _;simpa using PR.sl0 (E:=E) (l:=aa) Z f⟩
     ·obtain⟨z,q,j⟩:=r.at i (by simp) (jb r b i);have:=q.same b;subst this;have w:=Af j;subst w;obtain⟨_,_,_,H⟩:=j.cut e A;exact⟨.slice (J ⟨id,off+m*f,J f⟩) (C-m) (u-m),by simp[bO,y],H.free (by simp[bI])⟩
    ·cases h
   ·cases h
  |_=>rw[k]at h;simp[uJ]at h
 |_=>simp[GI]at h
def au.a4d(r:au S W U E Y X){u n:Nat}{cs:List Value}(i:u<S)(H:X u=.ls n 1 cs):
 ∃E',au S W U E' (Y.put u jP) (X.put u (.v (.slice (J ⟨E.H.n,0,J 1⟩) n n)))/\E'.H=E.H.push ⟨O,cs⟩/\E'.G E.H.n/\∀s,s<S->s≠u->dC E E' (J (s,[])) (J (s,[])):=by
 have b:=r.ok;have j:∀v,(u,v)∉W:=λv I=>by have:=r.pin u v I;rw[H]at this;cases this
 let h:=E.push ⟨O,cs⟩ (u,[]) λ_=>aa
 have L:au S W U h (Y.put u jP) (X.put u (.v (.slice (J ⟨E.H.n,0,J 1⟩) n n))):=
  r.set i j b.nx (λs _ _=>b.nu λ_=>rfl) b.uW b.push.wf b.push.fresh ym λs e=>by simp[jP,bA]at e
 have k:=L.set (fv:=.v (.slice (J ⟨E.H.n,0,J 1⟩) n n)) (y:=jP) i j (qD (a:=(u,[]))) (λs _ e=>zD e) EP b.push.fz.wf b.push.fz.fresh ym λs e=>by simp[jP,bA]at e
 have D:(X.put u (.v (.slice (J ⟨E.H.n,0,J 1⟩) n n))).put u (.v (.slice (J ⟨E.H.n,0,J 1⟩) n n))=X.put u (.v (.slice (J ⟨E.H.n,0,J 1⟩) n n)):=by
  funext t;simp only[FR.put];split<;>rfl
 have F:(Y.put u jP).put u jP=Y.put u jP:=by
  funext t;simp only[ae.put];split
  ·rfl
  ·by_cases g:bA (Y t)=J u
   ·rw[show fV u (Y t)=jP from aE g];simp[fV,jP,bA]
   ·rw[show fV u (Y t)=Y t from aA g,show fV u (Y t)=Y t from aA g]
 rw[D,F]at k;refine⟨_,k,rfl,.inr ⟨[],by simpa using zhu⟩,λs e l id q G g=>?_⟩;obtain⟨m,w,z⟩:=(b.nu (bl:=⟨O,cs⟩) (n:=(u,[])) (f:=λ_=>aa) (a:=(s,[])) λ_=>rfl:dC E h (J (s,[])) (J (s,[]))) id q G g;obtain⟨A,B,C⟩:=(zD (E:=h) (a:=(u,[])) (c:=(s,[])) l) id q m w;exact⟨A,B,C.trans z⟩
def zvj(r:au c.nt W U E Y X)(hp:eK c W){i:Operand}{y:PF×ae}(ho:o.op=.indexAddr t x i)(b:E7 P t x i Y=J y)(h:dI c K o.dst y.1 y.2)
(hk:∀H T E',K H->au c.nt W U E' H T->R T E'.H):aN P c.nt o R X E.H:=by
 unfold E7 at b;split at b
 ·rename_i u;unfold NP at b;split at b
  ·rename_i s p G j n k q l hq;split at b
   ·rename_i N;obtain⟨hes,hq0,I⟩:=N;simp only[aS]at b;subst b;have B:=r.f u;rw[l]at B;obtain⟨f,v,h2,L⟩:=B
    have hu:u<c.nt:=by
     rcases dS u c.nt with w|w
     ·exact w
     ·have:=r.hi u w;rw[l]at this;cases this
    have D:=r.rt u s (by rw[l];rfl);obtain⟨e,g,rr,Q,hz⟩:=SM hes;obtain⟨E',r',A,M,hm⟩:=r.a4d hu v;have C:q.toNat<f.length:=by omega
    have F:=L q.toNat _ (cI C)
    have z:s≠u:=by
     rintro rfl;rcases F with⟨wx1,m,_⟩|⟨cc,_,_,_,m,_⟩<;>rw[v]at m<;>cases m
    have hw':Wk E' (X.put u (.v (.slice (J ⟨E.H.n,0,J 1⟩) n n))) s (p++[(G,j+q.toNat)]) f[q.toNat]:=
     F.ej (KL.J0 (hm s D z)) (cq _) (by simp[FR.put,z])
    unfold aN;rw[ho];right;refine⟨u,n,1,f,k,q,e,g,rr,rfl,v,ql r hq,Q,hz,⟨hq0,I⟩,?_⟩;rw[<-A];refine jC r' hp (y:=.as O s p G (j+q.toNat) 1) rfl D ⟨E.H.n,q.toNat*1,⟨O,f⟩,f[q.toNat],rfl,M,by rw[A];simp[AH.push],by simp[C],hw'⟩ h hk
   ·cases b
  ·cases b
 ·cases b
def zso(r:au c.nt W U E Y X)(w:eK c W){i:Operand}(I:o.op=.indexAddr t x i)(h:ED P c t x i o.dst K Y)
(v:∀N T E',K N->au c.nt W U E' N T->R T E'.H):aN P c.nt o R X E.H:=by
 unfold ED at h;split at h
 case h_2=>
  split at h
  ·rename_i y hy;exact zvj r w I hy h v
  ·cases h
 rename_i ad f;have C:=h;unfold zU at f;split at f
 ·rename_i eW M;simp only[bT]at f;obtain⟨sb,hsb,b⟩:=f;unfold M7 at b;split at b
  ·rename_i q j H;have B:=ql r H;obtain⟨vx1,A,l⟩:=zye r hsb;obtain⟨e,gx1,rr,u,z⟩:=SM M;unfold aN;rw[I];left;cases sb with
   |own s p lo n m=>
    simp only[HB]at b;split at b
    ·rename_i g;obtain⟨rfl,D,ga⟩:=g;simp only[aS]at b;subst b;obtain⟨hs,l⟩:=l;rcases l with l|⟨id,off,mx1,cc,cw,w1,w2,w3,w4,rfl⟩
     ·omega
     ·simp only[iO,A,B,u,z];rw[aE ⟨trivial,D,ga⟩];refine A0 r w (ad:=.pl s p (lo+j.toNat) 0) ⟨hs,.inr ⟨_,id,_,w1,.sl (j:=0) w2 w3 (by omega),?_⟩⟩ C v;rw[oF,sk,i9]
    ·cases b
   |fz m Q=>
    simp only[HB]at b;split at b
    ·rename_i g;obtain⟨rfl,D⟩:=g;simp only[bL]at b;obtain⟨L,F,rfl⟩:=b;have hlt:j.toNat<Q.length:=(cY.1 F).1;cases l with
     |sl0 _ _=>simp at hlt
     | @jX _ id off m n cc k Q hG g hn hc hm hr hl hh=>
      simp only[iO,A,B,u,z];rw[aE ⟨trivial,D,by omega⟩];refine A0 r w (ad:=.fz L) ⟨_,rfl,.fp hG g ?_ λq x y g1 g2=>hh j.toNat L q x y F g1 g2⟩ C v;have sT:=hr L (eD F);have h5:(j.toNat+1)*m<=n*m:=gN _ (by omega);rw[kf]at h5;omega
    ·cases b
  ·cases b
 ·rename_i M;split at f
  ·rename_i len m ha;simp only[bT]at f;obtain⟨ad,f,b⟩:=f;unfold M2 at b;split at b
   ·rename_i q j H;split at b
    ·rename_i g;have B:=ql r H;obtain⟨fv,A,l⟩:=Jz r f;obtain⟨e,gx1,rr,u,z⟩:=zzu ha;unfold aN;rw[I];left;rcases ZQ l b with⟨t',of,rfl,G⟩|⟨id,of,rfl,G⟩
     ·simp only[iO,A,B,u,z];rw[aE g];exact A0 r w G C v
     ·simp only[iO,A,B,u,z];rw[aE g];exact A0 r w G C v
    ·cases b
   ·cases b
  ·cases f
end
end Go.Pm
