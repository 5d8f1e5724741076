import Derived.Test.YtjnidpmkglobfaaGreatPmQ
open Bool renaming false→Z,true→O
open Option renaming some→J
set_option linter.defProp false
namespace Go.Pm
open Go.Am
def Mm:=@List.take_of_length_le
section
variable {R:Nat}{U:List (Nat×Value)}{S E W:Env}{Y:ae}{X T:FR}{c:aW}{P:Program}
variable{ls:Bool}{rg:List Nat}{t:Nat}
def zB4(r:au R U S E Y X)(h:J6 (Y t)=O):∃a,X t=.loc a:=by
 have d:=r.f t;cases b:Y t with
 |bl f=>rw[b]at d;obtain⟨a,e,_⟩:=d;exact⟨a,e⟩
 |_=>rw[b]at h;simp[J6]at h
def okV{l:Lo}{x:PV}{v:Value}(h:PR E l x v)(d:x≠.az) :tP rg ls t (.v v)=O:=by
 cases h with
 |az v=>exact absurd rfl d
 |bR a b _=>
  simp only[tP,sr,List.isEmpty_eq_false_iff];intro e;rw[e]at a;exact b (na a)
 |_=>rfl
def zvn(r:au R U S E Y X)(h:lQ Y rg ls t (Y t)=O):tP rg ls t (X t)=O:=by
 have a:=r.f t;cases e:Y t with
 |v x=>
  rw[e]at h a;simp only[lQ,sr]at h;obtain⟨v,d,f⟩:=gu a (oY h);rw[d];exact okV f (oY h)
 |skip=>rw[e]at a;have a:X t=.skip:=a;rw[a];rfl
 |ls B Q=>
  rw[e]at h a;simp only[lQ]at h;obtain⟨m,l,_⟩:=a;rw[l];exact h
 |bl N=>
  rw[e]at h a;simp only[lQ]at h;obtain⟨m,l,_⟩:=a;rw[l];exact h
 |pt s p i j=>
  rw[e]at h a;simp only[lQ,xK]at h;rcases a with⟨m,d,f,u,G⟩|⟨v0,id,o,d,f,u⟩
  ·rw[G];rcases h with h|h|h
   ·exact h
   rotate_left
   ·rw[f]at h;cases h
   ·exfalso;have w:=r.f s;unfold MB at h;split at h
    ·rename_i x C;rw[C]at w;obtain⟨wx1,q,_⟩:=gu w (oY (by simpa using h));rw[d]at q;cases q
    ·cases h
  ·rw[u];rfl
 |rf s p=>
  rw[e]at h a;simp only[lQ]at h;obtain⟨v,d,f⟩:=a;unfold Oy at h;split at h
  ·rename_i x z;have y:=oY (x:=x) (by simpa using h);obtain⟨v',H,I⟩:=r.at z y (jb r f z);have:=H.same f;subst this;rw[d];exact okV I y
  ·cases h
 |rv s p M L=>
  rw[e]at a;rcases a with⟨_,D,_⟩|⟨id,off,B,n,K,_,_,_,F⟩
  ·rw[D];rfl
  ·rw[F];rfl
 |ra s p i j n=>rw[e]at a;obtain⟨A,d,f⟩:=a;rw[d];rfl
 |as b s p i j n=>
  rw[e]at h a;cases b with
  |false=>obtain⟨A,d,_⟩:=a;rw[d];show ls=O;simpa[lQ]using h
  |true=>obtain⟨id,off,k,v,d,_⟩:=a;rw[d];rfl
 |cl s g us=>rw[e]at a;obtain⟨v,A,d,_⟩:=a;rw[d];rfl
def zwf(r:au R U S E Y X) :∀{l:List Nat},xX Y rg ls l=O->yG rg ls X l=O:=by
 intro l;induction l with
 |nil=>intro _;rfl
 |cons t l ih=>
  intro h;simp only[xX,bC]at h;simp only[yG,bC];exact⟨zvn r h.1,ih h.2⟩
def zvl(r:au R U S E Y X){m:Option Nat}(h:C6 Y m=O):Ff X m=O:=by
 cases m with
 |none=>rfl
 |some t=>
  simp only[C6]at h;simp only[Ff];have a:=r.f t;cases b:Y t with
  |bl x=>rw[b]at a;obtain⟨f,e,_⟩:=a;rw[e];rfl
  |skip=>rw[b]at a;have a:X t=.skip:=a;rw[a];rfl
  |pt s p i j=>
   rw[b]at h a;unfold CQ at h;split at h
   ·cases ‹PF.pt s p i j=_›
   ·cases ‹PF.pt s p i j=_›
   ·rename_i y v w q;cases q;obtain⟨f,n⟩:=zB4 r h;rcases a with⟨u,d,g,k,l⟩|⟨z,id,o,d,g,k⟩
    ·rw[l];rfl
    ·have:=FY d;rw[n]at this;cases this
   ·cases h
  |_=>rw[b]at h;simp[CQ]at h
def zpA(r:au c.nt U S E Y X)(k:eK c U){ext:Bool}{o:Oper}{K:ae->Prop}{K':FR->AH->Prop}(h:sJ P c ext o K Y)
(j:∀i T W,K i->au c.nt U S W i T->K' T W.H):aN P c.nt o (λT g=>(ext=O->fL E.H g)/\K' T g) X E.H:=by
 unfold sJ at h;split at h
 ·rename_i f args n u;split at h
  case isFalse l=>
   rcases O3 (c:=c.Dm) r ⟨k.h⟩ h j with h|h
   ·exact DG (λ_ _ d=>⟨λe=>absurd e l,d⟩) h
   ·exact absurd rfl h.1
  case isTrue l=>
  exact zmV (K':=λT g=>(ext=O->fL E.H g)/\K' T g) r k u h λi T W a b e=>⟨λ_=>e λm s=>(nS.1 s).2,j i T W a b⟩
 ·rename_i v;obtain⟨p,q⟩:=h;rcases O3 (c:=c.Dm) r ⟨k.h⟩ q j with h|h
  ·cases ext with
   |false=>exact DG (λ_ _ d=>⟨λe=>(by cases e),d⟩) h
   |true=>exact DG (λ_ _ d=>⟨λ_=>d.1,d.2⟩) (zAp r.wf (p rfl) (λf args n e=>v f args n e) h)
  ·exact absurd rfl h.1
def zwC(r:au c.nt U S E Y X)(m:eK c U){pre:List (Option Tmp)}{e:DE}{o:Oper}{K:ae->Prop}{n:FR->AH->Prop}(h:Gu P c pre e o K Y)
(l:∀f T W,K f->au c.nt U S W f T->n T W.H):vu P c.nt pre e o n X E.H:=by
 obtain⟨i,d⟩:=h;simp only[bC]at i;refine⟨by simp only[j8,bC];exact⟨zwf r i.1,zvl r i.2⟩,?_⟩;unfold H4 at d;unfold nj;split at d
 ·rename_i k;rw[k];exact zpA r m d l
 ·rename_i j b k;rw[k];simp only;unfold l6 at d;split at d
  ·rename_i y p;rw[zsC r p];simp only;split at d
   ·rename_i g;rw[aE g];exact zpA r m d l
   ·rename_i g;rw[aA g];exact YJ r m d λf T W a b e=>⟨λ_=>by rw[e];exact .refl _,l f T W a b⟩
  ·cases d
def ztX(i:eK c U){pre:List (Option Tmp)}:∀{l:List (DE×Oper)}{E:Env}{Y:ae}{X:FR}{K:ae->Prop}{d:FR->AH->Prop},au c.nt U S E Y X->F0 P c pre l K Y->
 (∀g T W,K g->au c.nt U S W g T->d T W.H)->iE P c.nt pre l d X E.H:=by
 intro l;induction l with
 |nil=>intro E Y X K d r h f;exact f _ _ _ h r
 |cons x l ih=>
  obtain⟨e,o⟩:=x;intro E Y X K d r h f;exact zwC r i h λg T W a b=>ih b a f
def NM(R:Nat)(U:List (Nat×Value))(S:Env)(Q:Exit->ae->Prop):Exit->FR->AH->Prop:=λe X H=>∃Y E,Q e Y/\au R U S E Y X/\E.H=H
def zw8(A:eK c U):∀(x:Code) {Q:Exit->ae->Prop}{E:Env}{Y:ae}{X:FR},gG P c x Q Y->au c.nt U S E Y X->fW P c.nt x (NM c.nt U S Q) X E.H:=by
 intro x;induction x with
 |skip=>intro Q E Y X h r;exact⟨Y,E,h,r,rfl⟩
 |region id H F=>
  intro Q E Y X h r;simp only[gG]at h;simp only[fW];split at h
  ·rename_i hd;rw[aE hd];obtain⟨D,n,h⟩:=h;exact⟨D,n,UJ (λ_ h=>ztX A r h λf T W a b=>⟨f,W,a,b,rfl⟩) h⟩
  ·rename_i hd;rw[aA hd];exact zwy A r h λf T W a b=>⟨f,W,a,b,rfl⟩
 |seq x y s q=>
  intro Q E Y X h r;refine(show fW P c.nt x (Qc (fW P c.nt y (NM c.nt U S Q)) (NM c.nt U S Q)) X E.H from NB ?_ (s h r));rintro e T w ⟨f,W,d,g,rfl⟩;cases e<;>try exact⟨f,W,d,g,rfl⟩
  obtain⟨z,l,d⟩:=d;obtain⟨u,j,k⟩:=au.wk l g;rw[<-k];exact q d j
 |cond b x y s q=>
  intro Q E Y X h r;obtain⟨z,l,h⟩:=h;obtain⟨u,j,k⟩:=au.wk l r;rw[<-k];unfold Tp at h;split at h
  ·rename_i v G C;simp only[fW,ql j C];split at h
   ·rename_i o;rw[aE o];exact s h j
   ·rename_i o;rw[aA o];exact q h j
  ·cases h
 |block id b ih=>
  intro Q E Y X h r;refine(show fW P c.nt b (LM id (NM c.nt U S Q)) X E.H from NB ?_ (ih h r));rintro e T w ⟨f,W,d,g,rfl⟩;cases e<;>try exact⟨f,W,d,g,rfl⟩
  rename_i i;simp only[Jd]at d;simp only[LM];split at d
  ·rename_i p;rw[aE p];exact⟨f,W,d,g,rfl⟩
  ·rename_i p;rw[aA p];exact⟨f,W,d,g,rfl⟩
 |loop b ih=>
  intro Q E Y X h r;obtain⟨n,m⟩:=h;refine⟨n,?_⟩;induction n generalizing E Y X with
  |zero=>exact m.elim
  |succ n B=>
   obtain⟨z,l,m⟩:=m;obtain⟨u,j,k⟩:=au.wk l r;rw[<-k];refine⟨X,λ_=>.inl rfl,NB ?_ (ih m j)⟩;rintro e T w ⟨f,W,d,g,rfl⟩;cases e<;>first|exact B g d|exact⟨f,W,d,g,rfl⟩
 |exit id=>intro Q E Y X h r;exact⟨Y,E,h,r,rfl⟩
 |ret=>intro Q E Y X h r;exact⟨Y,E,h,r,rfl⟩
 |_=>intros;rename_i h _;exact absurd h (by simp[gG])
def zyX(r:au R U S E Y X){d:List (PV×Value)}(i:eA R E d){y:PV}{b:ae}(j:rQ (Y t)=Z)(h:ml Y t (Y t)=J (y,b)):
 ∃v W,X t=.v v/\W.H=E.H/\au R U S W b X/\eA R W (d++[(y,v)]):=by
 obtain⟨v,p,o,e,m,f,n,g⟩:=wz (ez:=0) r i (x:=.tmp t) (show eJ 0 Y (.tmp t)=J (y,b)from h);have k:=zra (ez:=0) r (x:=.tmp t) (show eJ 0 Y (.tmp t)=J (y,b)from h) (by simpa[xc]using j);obtain⟨a,rfl,rfl⟩:=WX m k;refine⟨v,e,?_,f,n,g⟩;simp only[aZ]at a;split at a
 ·rename_i u l;cases a;exact l
 ·cases a
def ztT(r:au R U S E Y X){f:List (PV×Value)}(A:eA R E f){x:ResultVar}{y:PV}{D:ae}(h:De P Y x=J (y,D)):
 ∃v W,wb P X x=J v/\W.H=E.H/\au R U S W D X/\eA R W (f++[(y,v)]):=by
 cases x with
 |tmp t=>
  simp only[De]at h;split at h
  ·cases h
  ·rename_i G;obtain⟨v,W,g,d⟩:=zyX r A (by simpa using G) h;exact⟨v,W,by simp[wb,g],d⟩
 |cell t N=>
  simp only[De]at h;have k:=r.f t;have l:t<R:=NA r (by intro e;rw[e]at h;simp[EM,jP]at h);unfold EM at h;split at h
  ·rename_i I K m C;obtain⟨F,B⟩:=GX C;rw[m]at k;obtain⟨i,n,o,p⟩:=k;split at h
   ·rename_i M;simp only[aS,b9]at h;obtain⟨rfl,rfl⟩:=h;refine⟨.agg i.toArray,E.rl (fD (t,[]) (R,[(0,f.length)])),?_,rfl,?_,?_⟩
    ·simp only[wb,n,nv,B];rw[GS (by omega),Mm (by omega)];rfl
    ·exact r.rG l d7 (λs H u=>jd λq=>lF u) (λL z=>absurd z (BV _)) (λ_ _=>rfl) (λh=>absurd h (zq _)) oi r.ok.rl.wf r.ok.rl.fresh (λ_ _ g d=>.inl (by rw[g]at d;cases d;rfl)) ym rfl r.pin
    ·refine(A.stay d7 (jd λq=>lF (a1J l))).snoc (.agg (by simpa using o) λj x y a b=>?_);refine(p j x y a (by simpa using b)).move d7 (mi λq=>?_);have:=zgn (t,[]) (R,[(0,f.length)]) ((0,j)::q);simpa[cS]using this
   ·cases h
  ·rename_i x I K m C;obtain⟨F,B⟩:=GX C;rw[m]at k;obtain⟨i,n,o,p⟩:=k;simp only[aS,b9]at h;obtain⟨rfl,rfl⟩:=h;cases i with
   |nil=>simp at o
   |cons w i=>
    refine⟨w,E.rl (fD (t,[(0,0)]) (R,[(0,f.length)])),?_,rfl,?_,?_⟩
    ·simp only[wb,n,nv,B]
    ·exact r.rG l d7 (λs H u=>jd λq=>lF u) (λL z=>absurd z (BV _)) (λ_ _=>rfl) (λh=>absurd h (zq _)) oi r.ok.rl.wf r.ok.rl.fresh (λ_ _ g d=>.inl (by rw[g]at d;cases d;rfl)) ym rfl r.pin
    ·exact(A.stay d7 (jd λq=>lF (a1J l))).snoc ((p 0 x w rfl rfl).move d7 (mi λq=>zgn _ _ q))
  ·cases h
def zuh:∀{b:List ResultVar}{E:Env}{Y e:ae}{fl:List (PV×Value)}{d:List PV},au R U S E Y X->eA R E fl->uN P Y b=J (d,e)->
 ∃a W,ta P X b=J a/\W.H=E.H/\au R U S W e X/\a.length=d.length/\eA R W (fl++d.zip a):=by
 intro b;induction b with
 |nil=>
  intro E Y e fl d r f h;simp only[uN,aS,b9]at h;obtain⟨rfl,rfl⟩:=h;exact⟨[],E,rfl,rfl,r,rfl,by simpa using f⟩
 |cons x b ih=>
  intro E Y e fl d r f h;simp only[uN,bT,bL,b9]at h;obtain⟨⟨y,A⟩,m,⟨z,B⟩,n,rfl,rfl⟩:=h;obtain⟨v,w,p,i,s,k⟩:=ztT r f m;obtain⟨a,g,q,j,u,o,l⟩:=ih s k n;exact⟨v::a,g,by simp[ta,p,q],j.trans i,u,by simp[o],by simpa using l⟩
def zyG{Y:ae}:∀{l:List (Md×PV)}{k0 k:Nat}{y:PV},(mq Y k0 l)[k]? =J y->(∃a,l[k]? =J a/\a.1=.io/\y=P8 (Y (k0+k)))\/y=.az:=by
 intro l;induction l with
 |nil=>intro k0 k y h;simp[mq]at h
 |cons a l ih=>
  obtain⟨d,x⟩:=a;intro k0 k y h;cases k with
  |zero=>
   cases d<;>simp[mq]at h<;>subst h
   ·exact .inr rfl
   ·exact .inr rfl
   ·exact .inl ⟨_,rfl,rfl,rfl⟩
  |succ k=>
   have e:(mq Y (k0+1) l)[k]? =J y:=by cases d<;>simpa[mq]using h
   rcases ih e with⟨a,b,f,g⟩|b
   ·exact .inl ⟨a,by simpa using b,f,by rw[g];congr 2;omega⟩
   ·exact .inr b
def Uh{Y:ae}:∀{l:List (Md×PV)}{k0:Nat},(mq Y k0 l).length=l.length:=by
 intro l;induction l with
 |nil=>intro k0;rfl
 |cons a l ih=>intro k0;obtain⟨b,x⟩:=a;cases b<;>simp[mq,ih]
def zA2:∀{l:List (Md×PV)}{k0 k:Nat}{a:Md×PV},l[k]? =J a->a.1=.io->k0+k∈j9 k0 l:=by
 intro l;induction l with
 |nil=>intro k0 k a h;simp at h
 |cons b l ih=>
  obtain⟨f,x⟩:=b;intro k0 k a h d;cases k with
  |zero=>simp at h;subst h;simp only at d;subst d;simp[j9]
  |succ k=>
   have:=ih (k0:=k0+1) (by simpa using h) d;have e:k0+1+k=k0+(k+1):=by omega
   rw[e]at this;cases f<;>simp[j9,this]
def qt:Nat->List (Md×PV)->List Value->List (Nat×Value)
 |k,(.io,_)::l,v::a=>(k,v)::qt (k+1) l a
 |k,_::l,_::a=>qt (k+1) l a
 |_,_,_=>[]
def Xe:∀{l:List (Md×PV)}{d:List Value}{k0 j:Nat}{v:Value},(j,v)∈qt k0 l d->∃k a,j=k0+k/\l[k]? =J a/\a.1=.io/\d[k]? =J v:=by
 intro l;induction l with
 |nil=>intro d k0 j v h;simp[qt]at h
 |cons b l ih=>
  obtain⟨f,x⟩:=b;intro d k0 j v h;cases d with
  |nil=>cases f<;>simp[qt]at h
  |cons w d=>
   have e:(j,v)∈qt (k0+1) l d->∃k a,j=k0+k/\((f,x)::l)[k]? =J a/\a.1=.io/\(w::d)[k]? =J v:=by
    intro h;obtain⟨k,a,n,g,i,m⟩:=ih h;exact⟨k+1,a,by omega,by simpa using g,i,by simpa using m⟩
   cases f with
   |io=>
    simp only[qt,gp,b9]at h;rcases h with⟨rfl,rfl⟩|h
    ·exact⟨0,_,by omega,rfl,rfl,rfl⟩
    ·exact e h
   |sh=>exact e (by simpa[qt]using h)
   |mv=>exact e (by simpa[qt]using h)
def zAt:∀{l:List (Md×PV)}{d:List Value}{k0 k:Nat}{a:Md×PV}{v:Value},l[k]? =J a->a.1=.io->d[k]? =J v->(k0+k,v)∈qt k0 l d:=by
 intro l;induction l with
 |nil=>intro d k0 k a v h;simp at h
 |cons b l ih=>
  obtain⟨j,x⟩:=b;intro d k0 k a v g i f;cases d with
  |nil=>simp at f
  |cons w d=>
   cases k with
   |zero=>simp at g f;subst g;subst f;simp only at i;subst i;simp[qt]
   |succ k=>
    have:=ih (k0:=k0+1) (by simpa using g) i (by simpa using f);have e:k0+1+k=k0+(k+1):=by omega
    rw[e]at this;cases j<;>simp[qt,this]
def zsb{f:FuncId}{d:Func}{F:Code}{b:List (Md×PV)}{u:PV->List PV->Prop}{fz hp:List Nat}(Q:aC P f)(hf:P.funcs[f]? =J d)(hb:d.body=J F)(hlen:b.length<=d.ntmps)
(h:gG P ⟨d.ntmps,j9 0 b,fz,hp⟩ F (uc P d.results.toList b u) (sR b)):aq P f b u:=by
 refine⟨Q,λE m ok Gy hargs=>?_⟩;refine znc Q hf hb rfl (by omega) λ_=>?_
 let L:aW:=⟨d.ntmps,j9 0 b,fz,hp⟩
 have j3:eK L (qt 0 b m):=⟨λk v I=>by
  obtain⟨k',a,w,z,A,N⟩:=Xe I
  rw[w];exact zA2 z A⟩
 have r:au d.ntmps (qt 0 b m) E E (sR b) (FR.init m):=by
  refine⟨gi.refl E,ok.wf,ok.fresh,λt=>?_,λt ht=>?_,λt s l=>?_,λk v I=>?_⟩
  ·unfold sR;cases p:b[t]? with
   |none=>exact ym
   |some a=>
    have hlt:t<m.length:=by have:=(cY.1 p).1;omega
    have B:=cI hlt;have:=hargs t a _ p B;refine pu (v:=m[t]) (by simp[FR.init,B]) ?_;unfold KY at this;split at this
    ·exact this.up
    ·exact this
  ·simp only[sR];rw[BT (by omega)];rfl
  ·simp only[sR]at l;cases p:b[t]? with
   |none=>rw[p]at l;simp[EV,jP,bA]at l
   |some a=>rw[p]at l;simp[EV,bA]at l
  ·obtain⟨k',a,rfl,z,A,N⟩:=Xe I;simp[FR.init,N]
 refine NB ?_ (zw8 (c:=L) j3 F h r);rintro e T H' ⟨pf',E1,g,r1,rfl⟩
 have done:Gk b u (uN P pf' d.results.toList)->match ta P T d.results.toList with|some C=>∃r outs W,u r outs/\W.H=E1.H/\a0V E W b.length m r (D0 C) outs|none=>False:=by
  intro g;unfold Gk at g;split at g
  ·rename_i x G7;obtain⟨ys,K⟩:=x;obtain⟨C,n,m1,G,i,l1,H⟩:=zuh r1 (fl:=[]) (λk x v h=>by simp at h) G7;rw[m1];simp only[nb]at H
   have D:∀(o:Env),GK n o->(∀s:Nat,s<d.ntmps->dC n o (J (s,[])) (J (s,[])))->∀(k:Nat) (y:PV) (v:Value),(mq K 0 b)[k]? =J y->m[k]? =J v->PR o (J (k,[])) y v:=by
    intro o hg hm k y v hy B;rcases zyG hy with⟨a,w,z,rfl⟩|rfl
    ·rw[gD];have OR:k<d.ntmps:=by have:=(cY.1 w).1;omega
     have As:=i.pin k v (by simpa using zAt (k0:=0) w z B);have qG:=i.f k;cases ul:K k with
     |v zx1=>
      rw[ul]at qG;show PR o _ zx1 v;by_cases hz:zx1=.az
      ·subst hz;exact .az v
      ·obtain⟨wx1,M,g2⟩:=gu qG hz;rw[As]at M;cases M;exact g2.move hg (hm k OR)
     |_=>exact .az v
    ·exact .az v
   match ys,C,l1 with
   |[],[],_=>exact⟨_,_,n,g,G,⟨i.ok,i.since,.az _,Uh,D n (GK.refl _) λs _=>.refl _⟩⟩
   |[y],[ux1],_=>
    refine⟨_,_,n.rl (fD (d.ntmps,[(0,0)]) (b.length,[])),g,G,⟨i.ok.rl,i.since.trans oi,(H 0 y ux1 rfl).move d7 (mi λq=>zgn _ _ q),Uh,D _ d7 λs l=>jd λq=>lF (by show s≠d.ntmps;omega)⟩⟩
   |y::y2::ys,ux1::u2::C,hl=>
    refine⟨_,_,n.rl (fD (d.ntmps,[]) (b.length,[])),g,G,⟨i.ok.rl,i.since.trans oi,.bR (by simpa using hl.symm) (by simp) λj x wx1 a bx1=>?_,Uh,D _ d7 λs l=>jd λq=>lF (by show s≠d.ntmps;omega)⟩⟩;have:=H j x wx1 (by rw[HN];exact⟨a,by simpa using bx1⟩);refine this.move d7 (mi λq=>?_);have A:=zgn (d.ntmps,[]) (b.length,[]) ((0,j)::q);simpa[cS]using A
  ·cases g
 cases e<;>first|exact done g|exact g.elim
end
end Go.Pm
