import Derived.Test.YtjnidpmkglobfaaGreatPmJ
open Bool renaming false→Z,true→O
open Option renaming none→aa,some→J
set_option linter.defProp false
namespace Go.Pm
def Ml:=@List.getElem?_replicate
set_option linter.unusedSimpArgs false
open Go.Am
def CL(s:Nat):PF->Option (Nat×List PV)
 | .v (.bR a)=>J (s,a)
 |_=>aa
def Es(Y:ae):Operand->Option (Nat×List PV)
 | .tmp t=>match Y t with
  | .rf s []=>CL s (Y s)
  |y=>CL t y
 |_=>aa
def Jt(c:aW)(i:Nat)(d:Option Tmp)(K:ae->Prop)(Y:ae)(s:Nat)(a:List PV):Option PV->Prop
 |some y=>dv y=Z/\if bI y=O then dI c K d (.v y) ((Y.bV s (.v (.bR (a.set i .az)))).kill s 1)else dI c K d (.v y) Y
 |none=>False
def Gn(c:aW)(x:Operand)(i:Nat)(d:Option Tmp)(K:ae->Prop)(Y:ae):Prop:=
 match Es Y x with
 |some (s,a)=>s<c.nt/\Jt c i d K Y s a a[i]?
 |none=>False
def ez(P:Program)(t:TypeId):Option (Nat×Nat×List PV):=(df P t).bind λe=>(cE P e).bind λz=>if(decide (z.2.2.2.length=z.2.1)&&decide (z.2.1≠0)&&z.2.2.2.all cD)=O then J (z.2.1,z.2.2.1,(zz P e z.2.2.2).map dz)else aa
def ezz(P:Program)(t:TypeId):Option (Nat×Nat×List Value):=(df P t).bind λe=>(cE P e).map λz=>z.2
def O5(c:aW)(d:Option Tmp)(K:ae->Prop)(Y:ae)(z:Nat×Nat×List PV):Option Value->Option Value->Prop
 |some (.int .i64 n),J (.int .i64 m)=>(0<=n/\n<=m/\z.2.1*m<=140737488355328/\m<=4611686018427387904)/\
  dI c K d (.v (.sl O z.1 (List.replicate n.toNat (uz (tw c d) z.2.2)))) Y
 |_,_=>False
def HD(P:Program)(c:aW)(t:TypeId)(l a:Operand)(d:Option Tmp)(K:ae->Prop)(Y:ae):Prop:=
 match ez P t with
 |some z=>O5 c d K Y z (cr Y l) (cr Y a)
 |none=>False
def jH:PV->Option (List (List PV))
 | .sl _ _ a=>J a
 |_=>aa
def zO(Y:ae)(t:Nat):PF->ae
 | .ls a b=>(Y.bV t (.v (.sl O a b))).kill t 0
 |_=>Y
def Er(P:Program)(c:aW)(t:TypeId)(x:Operand)(d:Option Tmp)(K:ae->Prop)(Y:ae):Prop:=
 match x with
 | .tmp a=>match(df P t).bind λ_=>(d5 (zO Y a (Y a)) (zO Y a (Y a) a)).bind jH with
  |some b=>b.length<=kA->dI c K d (.v (.int .i64 b.length)) (zO Y a (Y a))
  |none=>False
 |_=>False
def TN(Y:ae):PF->Option (List (List PV))
 | .v (.sl _ _ a)=>J a
 | .rf s p=>match cj Y s p with
  |some (.sl _ _ a)=>J a
  |_=>aa
 |_=>aa
def VN(Y:ae):Operand->Option (List (List PV))
 | .tmp t=>TN Y (Y t)
 |_=>aa
def Dw(P:Program)(c:aW)(a:BinOp)(t:TypeId)(x:Operand)(d:Option Tmp)(K:ae->Prop)(Y:ae):Prop:=
 match d,x,Lz a,VN Y x with
 |some d,.tmp _,J q,J e=>(df P t).isSome=O/\∀b,(e≠[]->b= !q)->dI c K (J d) (.v (.bool b)) Y
 |_,_,_,_=>False
def pm(Y:ae):Option Operand->Option (Option Nat)
 |none=>J aa
 |some x=>(cr Y x).bind λ
  | .int _ n=>if 0<=n then J (J n.toNat)else aa
  |_=>aa
def ui(d l:Nat)(h:Option Nat)(y:Nat->Nat->PF):PV->Option PF
 | .sl O b a=>if b=d/\l<=h.getD a.length/\h.getD a.length<=a.length then J (y l (h.getD a.length))else aa
 | .sl Z b a=>if b=d/\l<=h.getD a.length/\h.getD a.length<=a.length then J (.v (.sl Z b ((a.take (h.getD a.length)).drop l)))else aa
 |_=>aa
def IC(f l:Nat)(h:Option Nat)(s:Nat)(p:aB)(a b:Nat):PV->Option PF
 | .sl O d e=>if(d=f/\a<=b/\b<=e.length)/\l<=h.getD (b-a)/\h.getD (b-a)<=b-a then J (.rv s p (a+l) (a+h.getD (b-a)))else aa
 | .sl Z d e=>if(d=f/\a<=b/\b<=e.length)/\l<=h.getD (b-a)/\h.getD (b-a)<=b-a then J (.v (.sl Z d ((e.take (a+h.getD (b-a))).drop (a+l))))else aa
 |_=>aa
def nD(d l:Nat)(h:Option Nat)(Y:ae)(t:Nat):PF->Option PF
 | .v x=>ui d l h (λa b=>.rv t [] a b) x
 | .rf s p=>(cj Y s p).bind (ui d l h λa b=>.rv s p a b)
 | .rv s p f e=>(cj Y s p).bind (IC d l h s p f e)
 |_=>aa
def Ha(c:aW)(a:Nat)(t:Nat)(d:Option Tmp)(K:ae->Prop)(Y:ae)(l h m:Option (Option Nat)):Prop:=
 match l,h,m with
 |some l,J h,J aa=>match nD a (l.getD 0) h Y t (Y t)with
  |some y=>dI c K d y Y
  |none=>False
 |some l,J (J h),J (J m)=>match(d5 Y (Y t)).bind jH with
  |some b=>(l.getD 0=h/\h=m/\m<=b.length)/\(∃y,nD a (l.getD 0) (J h) Y t (Y t)=J y)/\dI c K d (.v (.sl O a [])) Y
  |none=>False
 |_,_,_=>False
def GP(P:Program)(c:aW)(b:TypeId)(x:Operand)(l h m:Option Operand)(d:Option Tmp)(K:ae->Prop)(Y:ae):Prop:=
 match x,mH P b with
 | .tmp t,J a=>Ha c a t d K Y (pm Y l) (pm Y h) (pm Y m)
 |_,_=>False
def OP(c:aW)(d:Option Tmp)(K:ae->Prop)(Y:ae)(x y:Operand):Option Value->Prop
 |some (.bool O)=>match(cr Y x).bind lY with
  |some v=>dI c K d (.v v) Y
  |none=>False
 |some (.bool Z)=>match(cr Y y).bind lY with
  |some v=>dI c K d (.v v) Y
  |none=>False
 |_=>False
def Hj(c:aW)(b x y:Operand)(d:Option Tmp)(K:ae->Prop)(Y:ae):Prop:=OP c d K Y x y (cr Y b)
section
variable {R:Nat}{W:List (Nat×Value)}{U E S:Env}{Y:ae}{X T:FR}{c:aW}{P:Program}
variable{K:ae->Prop}{K':FR->AH->Prop}{o:Oper}{t:TypeId}{x:Operand}
def zx6(r:au R W U E Y X){s:Nat}{f:List PV}(h:Es Y x=J (s,f)):∃v,Y s=.v (.bR f)/\X s=.v v/\PR E (J (s,[])) (.bR f) v/\∀H,bm X H x=J (v,X,H):=by
 have k:∀{e:Nat}{y:PF},CL e y=J (s,f)->e=s/\y=.v (.bR f):=by
  intro e y h;unfold CL at h;split at h
  ·cases h;exact⟨rfl,rfl⟩
  ·cases h
 cases x with
 |tmp t=>
  simp only[Es]at h;split at h
  ·rename_i e m;obtain⟨rfl,d⟩:=k h;have i:=r.f t;rw[m]at i;obtain⟨v,n,p⟩:=i;have j:=FY p;have b:=r.f e;rw[d]at b;obtain⟨l,a,g⟩:=gu b (by simp);rw[j]at a;cases a;exact⟨v,d,j,g,λH=>by simp[bm,n]⟩
  ·obtain⟨rfl,d⟩:=k h;have b:=r.f t;rw[d]at b;obtain⟨l,a,g⟩:=gu b (by simp);exact⟨l,d,a,g,λH=>by simp[bm,a]⟩
 |_=>simp[Es]at h
def zqy(r:au c.nt W U E Y X)(p:eK c W){i:Nat}(d:o.op=.extract x i)(h:Gn c x i o.dst K Y)
(n:∀z T S,K z->au c.nt W U S z T->K' T S.H):aN P c.nt o K' X E.H:=by
 obtain⟨dx1,op,ty,ps,af,g⟩:=o;simp only at d h;subst d;unfold Gn at h;split at h
 ·rename_i s xs r8;obtain⟨M,h⟩:=h;unfold Jt at h;split at h
  ·rename_i y v;obtain⟨hj,h⟩:=h;obtain⟨vx1,fP,N,D,B⟩:=zx6 r r8;cases D with
   | @bR _ _ A L G m=>
   have I:i<A.toList.length:=by have:=(cY.1 v).1;omega
   have f:=cI I;have k:=m i y _ v f;refine ON (P:=P) (op:=.extract x i) rfl (B _) (w:=A.toList[i]) (by simp only[fk];exact f) ?_;split at h
   ·
    have C:∀t:Nat,t≠s->∀q:aB,fD (s,[(0,i)]) (c.nt,[(0,0)]) (t,q)=aa:=λt u q=>lF u
    have Q:au c.nt W U (E.rl (fD (s,[(0,i)]) (c.nt,[(0,0)]))) ((Y.bV s (.v (.bR (xs.set i .az)))).kill s 1) X:=by
     refine r.rG M d7 (λt u uO=>jd λq=>C t uO _) (λLx1 hL=>⟨λid q a b F=>?_,λid q a b F=>rfl⟩) (λ_ _=>rfl) (λ_=>.inl rfl) oi r.ok.rl.wf r.ok.rl.fresh (λ_ _ H l=>.inl (by rw[H]at l;cases l;rfl)) ?_ rfl r.pin
     ·have:q=[]:=na (by omega);subst this;exact⟨by simp[Env.rl,a,fD],b⟩
     ·refine pu N (.bR (by simpa using L) (by intro e;exact G (by simpa using e)) λj x y a b=>?_);rw[Et]at a;by_cases e:i=j
      ·subst e;rw[aE rfl]at a;split at a
       ·cases a;exact .az y
       ·cases a
      ·rw[aA e]at a;refine(m j x y a b).move d7 (jd λq=>?_);simp[fD,cS,Lo.ch,e]
    exact hY Q p (k.move d7 (mi λq=>by simpa[cS]using zgn (s,[(0,i)]) (c.nt,[(0,0)]) q)) h n
   ·rename_i d;exact hY r p ((k.free (by simpa using d)).up) h n
  ·cases h
 ·cases h
def P1{d:Nat}:∀{b:List (List Value)}(_:∀e,e∈b->e.length=d) {i j:Nat}{e:List Value},b[i]? =J e->j<d->b.flatten[i*d+j]? =e[j]? :=by
 intro b;induction b with
 |nil=>intro _ i j e h;simp at h
 |cons a l ih=>
  intro g i j e h m;have f:=g a (qQ ..);rw[HK];cases i with
  |zero=>
   simp at h;subst h;rw[Nat.zero_mul,gD,fE (by omega)]
  |succ i=>
   rw[f9 (by rw[f,kf];omega),f];have:=ih (λe k=>g e (oH _ k)) (i:=i) (by simpa using h) m;rw[<-this];congr 1;rw[kf];omega
def FD{es:Nat}:∀{b:List (List Value)}(_:∀e,e∈b->e.length=es),b.flatten.length=b.length*es:=by
 intro b;induction b with
 |nil=>intro _;simp
 |cons a l ih=>
  intro h;rw[HK,cy,h a (qQ ..),ih (λe d=>h e (oH _ d)),fG,kf];omega
def Ep{x:Nat×Nat×List PV}(h:ez P t=J x):∃e g a b z,df P t=J e/\cE P e=J (g,a,b,z)/\z.length=a/\a≠0/\z.all cD=O/\x=(a,b,(zz P e z).map dz):=by
 simp only[ez,bT]at h;obtain⟨e,f,⟨g,a,b,z⟩,i,h⟩:=h;split at h
 ·rename_i d;simp only[bC,eE]at d;simp only[aS]at h;exact⟨e,g,a,b,z,f,i,d.1.1,d.1.2,d.2,h.symm⟩
 ·cases h
def zt9(r:au c.nt W U E Y X)(Q:eK c W){l k:Operand}(N:o.op=.makeSlice t l k)(h:HD P c t l k o.dst K Y)
(I:∀z T S,K z->au c.nt W U S z T->K' T S.H):aN P c.nt o K' X E.H:=by
 unfold HD at h;split at h
 ·rename_i zx1 hz;obtain⟨e,gx1,a,bx1,zc,g,ht,f,v,w,rfl⟩:=Ep hz;unfold O5 at h;split at h
  ·rename_i n m M L;obtain⟨⟨D,F,u,G⟩,y⟩:=h;simp only at u y;unfold aN;rw[N];simp only[g,ql r M,ql r L,ht];rw[aE ⟨D,F,u,G,f,v,w⟩];have b:=r.ok;have A:∀e,e∈List.replicate m.toNat zc->e.length=a:=λe g=>by rw[(nS.1 g).2];exact f
   have C:PR (E.push ⟨O,(List.replicate m.toNat zc).flatten⟩ (c.nt,[(0,0)]) λ_=>aa) (J (c.nt,[(0,0)])) (.sl O a (List.replicate n.toNat (uz (tw c o.dst) ((zz P e zc).map dz)))) (.slice (J ⟨E.H.n,0,J a⟩) n.toNat m.toNat):=by
    refine .fN zhu b.y9 yP rfl (by simp) (by omega) (by unfold kA;omega) (λrw hr=>by rw[(nS.1 hr).2,KA];exact f) ⟨⟨v,rfl⟩,?_⟩ λi rw j x yx1 p q d=>?_
    ·rw[gD,FD A];simp
    ·rw[gD]at d;have hi:i<n.toNat:=by have:=(cY.1 p).1;simpa using this
     have B:=(nS.1 (eD p)).2;subst B;have H:j<a:=by have:=(cY.1 q).1;rw[KA]at this;omega
     rw[P1 A (e:=zc) (by rw[Ml,aE (by omega)]) H]at d;exact Uc w (λ_=>J (cS (c.nt,[(0,0)]) i j)) j x yx1 q d
   have:=hY (K':=K') (r.env b.push b.uW λs _=>b.nu λ_=>rfl) Q C y I;exact this
  ·cases h
 ·cases h
def SL(r:au R W U E Y X){t:Nat}{b:List (List PV)}(h:(d5 Y (Y t)).bind jH=J b):∃p d,X t=.v (.slice p b.length d)/\b.length<=kA:=by
 obtain⟨x,a,n⟩:=bT.1 h
 have y:∀{l:Lo}{o:Bool}{m:Nat}{b:List (List PV)}{v:Value},PR E l (.sl o m b) v->∃p d,v=.slice p b.length d/\b.length<=kA:=by
  intro l o m b v h;generalize a:PV.sl o m b=x at h;cases h with
  |sl0 o m=>cases a;exact⟨aa,0,rfl,Mk _⟩
  |jX M C q N w Q n h=>cases a;exact⟨_,_,by rw[q],by rw[q];exact w⟩
  |fN how M C aY q N w Q n h=>cases a;exact⟨_,_,by rw[q],by rw[q];exact w⟩
  |_=>cases a
 have i:=r.f t;cases x with
 |sl o m Ae=>
  simp only[jH,aS]at n;subst n;cases k:Y t with
  |v x=>
   rw[k]at a i;simp only[d5,aS]at a;subst a;obtain⟨v,f,g⟩:=gu i (by simp);obtain⟨p,d,rfl,u⟩:=y g;exact⟨p,d,f,u⟩
  |rf s p=>
   rw[k]at a i;simp only[d5]at a;obtain⟨v,f,g⟩:=i;obtain⟨v',A,B⟩:=r.at a (by simp) (jb r g a);have:=A.same g;subst this;obtain⟨p,d,rfl,u⟩:=y B;exact⟨p,d,f,u⟩
  |rv s p G D=>
   rw[k]at a i;obtain⟨yx1,F,e⟩:=bT.1 a;unfold Fx at e;split at e
   ·rename_i o' H rows2;split at e
    ·rename_i C;simp only[aS,PV.sl.injEq]at e;obtain⟨rfl,rfl,rfl⟩:=e;rcases i with⟨f,g,rfl,rfl⟩|⟨id,off,H,nx,d,f,g,u,L⟩
     ·exact⟨aa,0,by simpa using g,by simp⟩
     ·obtain⟨v',A,B⟩:=r.at F (by simp) (jb r f F);have:=A.same f;subst this;obtain⟨p,cc',I,e2⟩:=y B;cases I;have:((rows2.take D).drop G).length=D-G:=by simp;omega
      rw[this];exact⟨_,_,L,by omega⟩
    ·cases e
   ·cases e
  |ra s p ix1 j nx=>
   rw[k]at a;simp only[d5,bT]at a;obtain⟨row,_,z⟩:=a;unfold yu at z;split at z<;>cases z
  |_=>rw[k]at a;simp[d5]at a
 |_=>simp[jH]at n
def zxK(r:au R W U E Y X){t:Nat}{e:List (List PV)}(h:TN Y (Y t)=J e):(X t=.v (.slice aa 0 0)/\e=[])\/∃a n b,X t=.v (.slice (J a) n b):=by
 have q:∀{l:Lo}{o:Bool}{f:Nat}{e:List (List PV)}{v:Value},PR E l (.sl o f e) v->(v=.slice aa 0 0/\e=[])\/∃a n b,v=.slice (J a) n b:=by
  intro l o f e v h;generalize d:PV.sl o f e=x at h;cases h with
  |sl0 o f=>cases d;exact .inl ⟨rfl,rfl⟩
  |jX w y C z B D A h=>cases d;exact .inr ⟨_,_,_,rfl⟩
  |fN I w y H C z B D A h=>cases d;exact .inr ⟨_,_,_,rfl⟩
  |_=>cases d
 have j:=r.f t;unfold TN at h;split at h
 ·rename_i o f u k;cases h;rw[k]at j;obtain⟨v,g,i⟩:=gu j (by simp);rcases q i with⟨rfl,m⟩|⟨a,n,b,rfl⟩
  ·exact .inl ⟨g,m⟩
  ·exact .inr ⟨a,n,b,g⟩
 ·rename_i s p k;split at h
  ·rename_i o f u d;cases h;rw[k]at j;obtain⟨v,g,i⟩:=j;obtain⟨L,F,G⟩:=r.at d (by simp) (jb r i d);have:=F.same i;subst this;rcases q G with⟨rfl,m⟩|⟨a,n,b,rfl⟩
   ·exact .inl ⟨g,m⟩
   ·exact .inr ⟨a,n,b,g⟩
  ·cases h
 ·cases h
def ztR(r:au c.nt W U E Y X)(z:eK c W){i:BinOp}{y:Operand}{u:TypeId}(w:o.op=.binOp i t x y u)(C:wc y=O)(h:Dw P c i t x o.dst K Y)
(v:∀j T S,K j->au c.nt W U S j T->K' T S.H):fY P c.nt o K' X E.H:=by
 unfold Dw at h;split at h
 ·rename_i d G q F hd A B;obtain⟨m,g⟩:=h
  have e:∀b,dI c K (J d) (.v (.bool b)) Y->d<c.nt/\K' (X.put d (.v (.bool b))) E.H:=by
   intro b p;have:=hY (E:=E) r z (.bool b) p v;simpa[bu]using this
  have k:d<c.nt:=(e (!q) (g (!q) λ_=>rfl)).1;unfold fY;rw[w,hd];refine⟨⟨k,C,m⟩,?_⟩;simp only[A];rcases zxK r B with⟨f,l⟩|⟨a,n,D,f⟩
  ·simp only[aZ,f];exact λb=>(e b (g b λs=>absurd l s)).2
  ·simp only[aZ,f];exact(e (!q) (g (!q) λ_=>rfl)).2
 ·cases h
def zwb(r:au c.nt W U E Y X)(G:eK c W){args:Array Operand}(s:o.op=.call ⟨.builtin .len,args,#[t]⟩)(C:args.toList=[x])(h:Er P c t x o.dst K Y)
(F:∀u T S,K u->au c.nt W U S u T->K' T S.H):aN P c.nt o K' X E.H:=by
 obtain⟨d,op,ty,ps,N,gx1⟩:=o;simp only at s h;subst s;unfold Er at h;split at h
 ·rename_i b;split at h
  ·rename_i z i;obtain⟨e,D,i⟩:=bT.1 i
   have I:∃n f g,bm X E.H (.tmp b)=J (n,f,g.H)/\f b=.v n/\au c.nt W U g (zO Y b (Y b)) f:=by
    cases j:Y b with
    |ls Q M=>
     have H:b<c.nt:=by
      rcases dS b c.nt with a|a
      ·exact a
      ·have:=r.hi b a;rw[j]at this;cases this
     obtain⟨v,f,g,l,m,L,_,_⟩:=r.RA H j;exact⟨v,f,g,l,m,L⟩
    |_=>
     have k:=i;rw[j]at k;simp only[zO]at k;obtain⟨p,A,a,q⟩:=SL r k;exact⟨_,X,E,by simp only[bm,a],a,by simpa[zO]using r⟩
   obtain⟨n,f,g,l,m,y⟩:=I;obtain⟨p,A,a,q⟩:=SL y i;rw[m]at a;cases a;have B:=hY y G (.int .i64 (z.length:Int)) (h q) F;exact ON (P:=P) (op:=.call ⟨.builtin .len,args,#[t]⟩) (x:=.tmp b) (by simp[iA,C]) l (w:=.int .i64 z.length) (by simp[fk,Am.jH,D]) B
  ·cases h
 ·cases h
def ztN(r:au c.nt W U E Y X)(i:eK c W){b y:Operand}(k:o.op=.pick b x y)(h:Hj c b x y o.dst K Y)
(g:∀j T S,K j->au c.nt W U S j T->K' T S.H):aN P c.nt o K' X E.H:=by
 unfold Hj OP at h;unfold aN;rw[k];simp only;split at h
 ·rename_i e;rw[ql r e];split at h
  ·rename_i v f;obtain⟨w,a,d⟩:=bT.1 f;simp only[ql r a];exact hY r i (Rw d) h g
  ·cases h
 ·rename_i e;rw[ql r e];split at h
  ·rename_i v f;obtain⟨w,a,d⟩:=bT.1 f;simp only[ql r a];exact hY r i (Rw d) h g
  ·cases h
 ·cases h
end
end Go.Pm
