import Derived.Test.YtjnidpmkglobfaaGreatPmM
open Bool renaming false→Z,true→O
open Option renaming none→aa,some→J
set_option linter.defProp false
namespace Go.Pm
open Go.Am
def iC:=@List.length_nil
def su:=@Nat.mul_le_mul
def QA:=@Nat.div_add_mod
def a1G:=@List.drop_zero
def a1H:=@Nat.div_lt_of_lt_mul
def a1I:=@List.replicate_succ
def a5M:=@List.length_replicate
def zK(es:Nat):PV->Option (List (List PV))
 | .sl O a b=>if a=es then J b else aa
 |_=>aa
def rR(a:List (List PV)):Bool:=a.all (·.all λx=> !bI x)
def n9(a:List (List PV)):Bool:=a.all (·.all rA)
def rE(es:Nat):PV->Option (List (List PV))
 | .sl O b a=>if b=es/\rR a=O then J a else aa
 | .sl Z b a=>if b=es then J a else aa
 |_=>aa
def rD(es:Nat)(Y:ae)(t:Nat):PF->Option (List (List PV)×ae)
 | .ls b a=>if b=es then J (a,(Y.bV t jP).kill t 0)else aa
 |y=>(d5 Y y).bind λx=>(rE es x).map λa=>(a,Y)
def qm(es:Nat)(Y:ae):Operand->Option (List (List PV)×ae)
 | .tmp t=>if t<0 then aa else rD es Y t (Y t)
 | .const (.slice aa 0 0)=>J ([],Y)
 |_=>aa
def PC(c:aW)(z:Nat×Nat×List PV)(d:Option Tmp)(K:ae->Prop)(a:List (List PV)):Option (List (List PV)×ae)->Prop
 |some (rows2,b)=>n9 rows2=O/\((a.length+rows2.length)*z.2.1<=140737488355328/\a.length+rows2.length<=4611686018427387904)/\
  dI c K d (.v (.sl O z.1 (a++rows2))) b
 |none=>False
def MX(c:aW)(z:Nat×Nat×List PV)(x:Operand)(d:Option Tmp)(K:ae->Prop):Option (PV×ae)->Prop
 |some (b,a)=>match zK z.1 b with
  |some e=>PC c z d K e (qm z.1 a x)
  |none=>False
 |none=>False
def Gv(P:Program)(c:aW)(t:TypeId)(s x:Operand)(d:Option Tmp)(K:ae->Prop)(Y:ae):Prop:=
 match ez P t with
 |some z=>MX c z x d K (eJ z.1 Y s)
 |none=>False
def vrF:PF->Bool
 | .v _| .rf _ _=>O
 |_=>Z
def VP(c:aW)(z:Nat×Nat×List PV)(d:Tmp)(n:Nat)(K:ae->Prop):Option (PV×ae)->Prop
 |some (b,e)=>match zK z.1 b with
  |some a=>(n9 [uz (tw c (J d)) z.2.2]=O/\(a.length+n)*z.2.1<=140737488355328/\a.length+n<=4611686018427387904)/\dI c K (J d) (.v (.sl O z.1 (a++List.replicate n (uz (tw c (J d)) z.2.2)))) e
  |none=>False
 |none=>False
def HU(P:Program)(c:aW)(t a:TypeId)(s x:Operand)(d:Option Tmp)(K:ae->Prop)(Y:ae):Prop:=
 match d,ez P t,cr Y x,s with
 |some d,J z,J (.int .i64 n),.tmp q=>(c.hp≠[]/\(kv P a).isSome=O/\vrF (Y q)=O/\0<n/\(z.2.1:Int)*n<=140737488355328/\n<=4611686018427387904)/\VP c z d n.toNat K (eJ z.1 Y (.tmp q))
 |_,_,_,_=>False
def zCf(P:Program)(t:TypeId)(Y:ae):PF->Option ae
 | .rv s [] b a=>match ez P t,Y s with
  |some (1,_,[.int k n]),.v (.sl O 1 d)=>if b<a/\a<=d.length then J ((Y.bV s (.v (.sl O 1 (d.take b++(List.replicate (a-b) [.int k n]++d.drop a))))).kill s 1)else aa
  |_,_=>aa
 |_=>aa
def S5(c:aW)(K:ae->Prop):Option ae->Prop
 |some a=>c.hp≠[]/\K a
 |none=>False
def OG(P:Program)(c:aW)(d:Option Tmp)(K:ae->Prop)(Y:ae):List Operand->Array TypeId->Prop
 |[.tmp q],⟨[t]⟩=>d=aa/\S5 c K (zCf P t Y (Y q))
 |_,_=>False
def Yi:List PV->Option Int
 |[.int .u8 n]=>J n
 |_=>aa
def xb:List (List PV)->Option (List Int)
 |[]=>J []
 |r::a=>(Yi r).bind λn=>(xb a).map (n:: ·)
def Bs(P:Program)(s:TypeId)(Y:ae)(x:Operand):Option (PF×ae):=
 if uu P s=O then(qm 1 Y x).bind λz=>(xb z.1).map λa=>(.v (.str (xV a)),z.2)else aa
def KH:PF->Bool
 | .ls es _=>es==1
 |_=>Z
def JL(Y:ae):Operand->Bool
 | .tmp u=>KH (Y u)
 |_=>Z
def yn(P:Program)(c:aW)(s t:TypeId)(x:Operand)(d:Option Tmp)(K:ae->Prop)(Y:ae):Prop:=
 match d,Bs P s Y x with
 |some d,J (y,a)=>eS P t=O/\dI c K (J d) y a
 |_,_=>False
section
variable {Q:Nat}{W:List (Nat×Value)}{S E E':Env}{Y:ae}{X U:FR}{c:aW}{P:Program}
variable{K:ae->Prop}{K':FR->AH->Prop}{R:Nat×aB}{args:Array Operand}{es n:Nat}{f:Nat×aB->Option (Nat×aB)}{o:Oper}{rows2:List (List PV)}{t:TypeId}{x:Operand}
def zyD:∀{a b:List Nat}{X:FR}{H:AH},pd (a++b) X H=(pd a X H).bind λx=>pd b x.1 x.2:=by
 intro a;induction a with
 |nil=>intro b X H;rfl
 |cons t a ih=>
  intro b X H;simp only[tJ,pd];split
  ·exact ih
  ·rfl
def zpK{q:Bool}:∀{d:List Operand}{E:Env}{Y j:ae}{X:FR}{e:List PV},au Q W S E Y X->s9 q Y d=J (e,j)->
 ∃i U E' u,pd u X E.H=J (U,E'.H)/\(q=Z->u=[])/\(∀t w,X t=.v w->U t=.v w)/\(∀b,(∀t w,U t=.v w->b t=.v w)->∀H,cz b H d=J (i,b,H))/\GK E E'/\au Q W S E' j U/\i.length=e.length/\e.length=d.length/\∀(k:Nat) (y:PV) (v:Value),e[k]? =J y->i[k]? =J v->PR E' aa y v:=by
 intro d;induction d with
 |nil=>
  intro E Y j X e r h;simp only[s9,aS,b9]at h;obtain⟨rfl,rfl⟩:=h;exact⟨[],X,E,[],rfl,λ_=>rfl,λ_ _ h=>h,λb _ H=>rfl,GK.refl E,r,rfl,rfl,λk y v h=>by simp at h⟩
 |cons x d ih=>
  intro E Y j X e r h;simp only[s9,bT,bL,b9]at h;obtain⟨⟨y,aR⟩,G,⟨UM,bU⟩,I,rfl,rfl⟩:=h;obtain⟨v,fr1,E1,ts1,L,C,s1,N,F,r1,p1⟩:=zwr r G;obtain⟨i,b,z,ts2,M,D,s,T,p,r2,k2,k3,p2⟩:=ih r1 I;refine⟨v::i,b,z,ts1++ts2,by rw[zyD,L];exact M,λg=>by rw[C g,D g];rfl,λt w a=>s t w (s1 t w a),λm g H=>?_,F.trans p,r2,by simp[k2],by simp[k3],λk zx1 w l a=>?_⟩
  ·have A:=N m (λt w a=>g t w (s t w a)) H;have B:=T m g H;simp[cz,A,B]
  ·cases k with
   |zero=>simp at l a;subst l;subst a;exact p1.mono p
   |succ k=>exact p2 k zx1 w (by simpa using l) (by simpa using a)
def ztS(r:au c.nt W S E Y X)(hp:eK c W){u:Fn}{d w:Array Operand}(ho:o.op=.makeFunc u d w)(h:Fv c u d.toList w.toList o.dst K Y)
(hk:∀pf' U E',K pf'->au c.nt W S E' pf' U->K' U E'.H):aN P c.nt o K' X E.H\/(c.hp≠[]/\fY P c.nt o K' X E.H):=by
 obtain⟨dx1,op,ty,pp,af,gx1⟩:=o;simp only at ho h;subst ho;unfold Fv at h;split at h
 ·split at h
  ·rename_i y aR hy;obtain⟨⟨G,s,zs⟩,g,h2⟩:=bT.1 hy;simp only[K1,bL,b9]at h2;obtain⟨⟨us,bU⟩,I,rfl,rfl⟩:=h2;unfold J4 at g;split at g
   ·rename_i gg' s' zs' iD AL;split at g
    ·rename_i row fP;cases g;obtain⟨v,g1,_⟩:=gu (by have:=r.f s;rw[fP]at this;exact this) (by simp)
     have hs:s<c.nt:=by
      rcases dS s c.nt with g|g
      ·exact g
      ·have:=r.hi s g;rw[fP]at this;cases this
     obtain⟨m,k,j,T,l,B,s1,M,g2,N,z,l2,A⟩:=zpK r I;have g3:=s1 s v g1;have H:=jC (K':=K') N hp (y:=.cl s G us) rfl hs (fv:=.v (.func (.func G) #[] (v::m).toArray)) ⟨v,m,rfl,.inl ⟨v,g3,rfl⟩,z.symm,A⟩ h hk;have F:d.size=0:=by have:=iB List.length iD;simpa using this
     have p:dK P c.nt ⟨dx1,.makeFunc (.func G) d w,ty,pp,af,gx1⟩ K' k j.H:=by
      have hm:cz k j.H (d.toList++w.toList)=J (v::m,k,j.H):=by
       rw[iD,AL];have:=M k (λ_ _ h=>h) j.H;simp[cz,bm,g3,this]
      simp only[dK,iA,hm,fk,F];exact H
     cases q:c.hp.isEmpty with
     |true=>
      rw[B (by rw[q];rfl)]at l;simp only[pd,aS,b9]at l;obtain⟨C,D⟩:=l;rw[<-C,<-D]at p;exact .inl p
     |false=>
      have L:c.hp≠[]:=λe=>by rw[e]at q;cases q
      exact .inr ⟨L,T,k,j.H,l,p⟩
    ·cases g
   ·cases g
  ·cases h
 split at h
 ·rename_i vs aR I;obtain⟨m,k,j,T,l,B,s1,M,g1,N,z,l2,A⟩:=zpK r I;have F:d.size=d.toList.length:=by simp
  have hv:PR j aa (.func u (vs.take d.toList.length) (vs.drop d.toList.length)) (.func u (m.take d.size).toArray (m.drop d.size).toArray):=by
   rw[F];refine .func u (by simp[z]) (by simp[z]) (λi x y a b=>?_) λi x y a b=>?_
   ·have b:(m.take d.toList.length)[i]? =J y:=by simpa using b
    rw[my]at a b;split at a
    ·rename_i hlt;rw[aE hlt]at b;exact A i x y a b
    ·cases a
   ·have b:(m.drop d.toList.length)[i]? =J y:=by simpa using b
    rw[jq]at a b;exact A _ x y a b
  have H:=hY N hp hv.up h hk
  have p:dK P c.nt ⟨dx1,.makeFunc u d w,ty,pp,af,gx1⟩ K' k j.H:=by
   simp only[dK,iA,M k (λ_ _ h=>h),fk];exact H
  cases q:c.hp.isEmpty with
  |true=>
   rw[B (by rw[q];rfl)]at l;simp only[pd,aS,b9]at l;obtain⟨C,D⟩:=l;rw[<-C,<-D]at p;exact .inl p
  |false=>
   have L:c.hp≠[]:=λe=>by rw[e]at q;cases q
   exact .inr ⟨L,T,k,j.H,l,p⟩
 ·cases h
structure Fh (E:Env) (es:Nat) (rows:List (List PV)) (new:List Value) (T:Lo) (f:Nat×aB->Option (Nat×aB)) (n:Nat) (R:Nat×aB):Prop where
 len:new.length=rows.length*es
 rl:∀r,r∈rows->r.length=es
 el:∀(i:Nat) (r:List PV) (j:Nat) (x:PV) (y:Value),rows[i]? =J r->r[j]? =J x->new[i*es+j]? =J y->PR E (T.ch i j) x y
 mv:∀a,T=J a->∀i j r,f (a.1,a.2++(i,j)::r)=J (R.1,R.2++(n+i,j)::r)
def TR{cc:Nat}{rows:List (List PV)}{old new cells2:List Value}{T:Lo}{id2:Nat}
(C:es≠0)(B:∀(i:Nat) (r:List PV) (j:Nat) (x:PV) (y:Value),rows[i]? =J r->r[j]? =J x->old[i*es+j]? =J y->PR E (J (cS R i j)) x y)(u:∀r,r∈rows->r.length=es)(M:rows.length=n)
(k:Fh E es rows2 new T f n R)(m:GK E E')(z:∀i j,dC E E' (J (cS R i j)) (J (cS R i j)))(rI:∀a b:Nat×aB,(∀r,f (a.1,a.2++r)=J (b.1,b.2++r))->dC E E' (J a) (J b))
(N:E'.ow id2=J R)(D:¬E'.G id2)(F:E'.H.b id2=J ⟨O,cells2⟩)(rW:n+rows2.length<=cc)(I:cc*es<=cells2.length)(L:n+rows2.length<=kA)
(v:∀q,q<n*es->cells2[q]? =old[q]?)(w:∀q,q<new.length->cells2[n*es+q]? =new[q]?):
 PR E' (J R) (.sl O es (rows++rows2)) (.slice (J ⟨id2,0,J es⟩) (n+rows2.length) cc):=by
 refine .fN N D F rfl (by simp[M]) rW L (λr h=>?_) ⟨⟨C,rfl⟩,by rw[gD];exact I⟩ λi r j x y d l g=>?_
 ·rcases ke.1 h with h|h
  ·exact u r h
  ·exact k.rl r h
 ·rw[gD]at g;by_cases G:i<rows.length
  ·rw[fE G]at d;have A:=u r (eD d);have H:j<es:=by have:=(cY.1 l).1;omega
   have p:i*es+j<n*es:=by
    have:(i+1)*es<=n*es:=gN _ (by omega);rw[kf]at this;omega
   rw[v _ p]at g;exact(B i r j x y d l g).move m (z i j)
  ·rw[f9 (by omega)]at d;have A:=k.rl r (eD d);have H:j<es:=by have:=(cY.1 l).1;omega
   have fa:i-rows.length<rows2.length:=(cY.1 d).1
   have p:(i-rows.length)*es+j<new.length:=by
    rw[k.len];have:(i-rows.length+1)*es<=rows2.length*es:=gN _ (by omega);rw[kf]at this;omega
   have e:i*es+j=n*es+((i-rows.length)*es+j):=by
    rw[<-i9,<-oF];congr 2;omega
   rw[e,w _ p]at g;have s:=k.el _ r j x y d l g;cases T with
   |none=>exact s.move m True.intro
   |some a=>
    refine s.move m (rI (cS a (i-rows.length) j) (cS R i j) λq=>?_);have:=k.mv a rfl (i-rows.length) j q;rw[show n+(i-rows.length)=i by omega]at this;simpa[cS]using this
def Zu(p:ew E){g:Bool}{e:TypeId}{cH:Nat}{z:List Value}(he:df P t=J e)(ht:cE P e=J (g,es,cH,z))(hz:z.length=es)(h0:es≠0)
{rows:List (List PV)}{sv:Value}{new:List Value}{T:Lo}(hx:PR E (J R) (.sl O es rows) sv)
(M:Fh E es rows2 new T f rows.length R)(Bb:new.all l8=O)(D:∀r,f (R.1,R.2++r)=aa)
(N:(rows.length+rows2.length)*cH<=140737488355328)(ga:rows.length+rows2.length<=4611686018427387904):
 ∃vx1 E',th P t sv new rows2.length E.H=J (vx1,E'.H)/\ew E'/\gi E E'/\PR E' (J R) (.sl O es (rows++rows2)) vx1/\
  (∀a:Nat×aB,(∀r,f (a.1,a.2++r)=aa)->(∀r,(a.1,a.2++r)≠R)->dC E E' (J a) (J a)):=by
 have zT:¬(es=0\/z.length≠es\/new.all l8=Z):=by
  rintro(h|h|h)
  ·exact h0 h
  ·exact h hz
  ·rw[Bb]at h;cases h
 have VI:∀(a:Nat×aB) i j,(∀r,f (a.1,a.2++r)=aa)->∀r,f ((cS a i j).1,(cS a i j).2++r)=aa:=λa i j h r=>by rw[ze];exact h _
 by_cases hm:rows2.length=0
 ·
  have f7:rows2=[]:=na hm;subst f7;refine⟨sv,E,?_,p,gi.refl E,by simpa using hx,λa _ _=>.refl _⟩;simp only[th,he,ht,aA zT];cases hx with
  |sl0 _ _=>simp
  |fN B hG I G hn hc gZ hr F hh=>simp
 ·cases hx with
  |sl0 _ _=>
   simp only[iC,gD]at N ga;refine⟨.slice (J ⟨E.H.n,0,J es⟩) rows2.length rows2.length,E.push ⟨O,new⟩ R f,?_,p.push,p.uW,?_,λa w _=>p.nu w⟩
   ·simp only[th,he,ht,aA zT,aA hm];rw[aE ⟨N,ga⟩];rfl
   ·have:=TR (E:=E) (E':=E.push ⟨O,new⟩ R f) (rows:=[]) (rows2:=rows2) (old:=[]) (new:=new) (cells2:=new) (R:=R) (T:=T) (f:=f) (id2:=E.H.n) (n:=0) (cc:=rows2.length) h0 (λi r j x y h=>by simp at h) (λr h=>by cases h) rfl M p.nx
     (λi j=>p.nu (VI R i j D)) (λa b h=>p.U2 h) zhu p.y9 yP (by omega) (by rw[M.len];exact cq _) (by unfold kA;omega) (λq C=>by omega) (λq C=>by simp)
    simpa using this
  | @fN _ id off _ n c k _ B hG I G hn hc gZ hr F hh=>
   obtain⟨⟨zN,rfl⟩,F⟩:=F;subst hn;rw[gD]at F;have hlen:rows.length*es<=k.cells.length:=ii (gN _ hc) F;have hko:k=⟨O,k.cells⟩:=by obtain⟨q,cs⟩:=k;simp only at G;subst G;rfl
   have hold:∀(i:Nat) (r:List PV) (j:Nat) (x:PV) (y:Value),rows[i]? =J r->r[j]? =J x->k.cells[i*es+j]? =J y->PR E (J (cS R i j)) x y:=
    λi r j x y a1 a2 a3=>hh i r j x y a1 a2 (by rw[gD];exact a3)
   have pK:new.length=rows2.length*es:=M.len
   have hne:new≠[]:=by
    intro e;rw[e]at pK;have:1*1<=rows2.length*es:=su (by omega) (by omega);simp at pK;omega
   have a0b:∀a:Nat×aB,(∀r,(a.1,a.2++r)≠R)->∀i r,E.ow i=J (a.1,a.2++r)->i≠id:=λa ha i r h e=>by
    subst e;rw[B]at h;exact ha r (zt h).symm
   have YU:∀i j,∀r,((cS R i j).1,(cS R i j).2++r)≠R:=λi j r e=>by
    have:=iB (λz=>z.2.length) e;simp[cS]at this
   by_cases oz:rows.length+rows2.length<=c
   ·
    have Je:(rows.length+rows2.length)*es<=c*es:=gN _ oz;rw[oF]at Je;obtain⟨cs,dU⟩:=EA (cs:=k.cells) (n:=0+rows.length*es) hne (by omega);obtain⟨b1,b2,b3,b4⟩:=Fj hne dU;rw[gD]at b2 b3 b4
    let d:Env:=⟨E.H.set id (J ⟨O,cs⟩),E.G,λi=>(E.ow i).map λx=>(f x).getD x⟩
    have u:∀i,i≠id->d.H.b i=E.H.b i:=λi l=>by simp[d,AH.set,l]
    have L:GK E d:=λi l=>⟨l,λk0 v=>⟨k0,(u i λe=>hG (by rw[<-e];exact l)).trans v,rfl⟩⟩
    have TY:ew d:=⟨λi k0 v=>by
     by_cases e:i=id
     ·subst e;exact p.wf i k I
     ·rw[u i e]at v;exact p.wf i k0 v,λi l=>by
     obtain⟨m,s⟩:=p.fresh i l
     exact⟨by simp[d,m],s⟩⟩
    have H:∀a:Nat×aB,(∀r,f (a.1,a.2++r)=aa)->(∀r,(a.1,a.2++r)≠R)->dC E d (J a) (J a):=λa w h2 i r m s=>
     ⟨by simp[d,m,w],s,u i (a0b a h2 i r m)⟩
    have rI:∀a b:Nat×aB,(∀r,f (a.1,a.2++r)=J (b.1,b.2++r))->dC E d (J a) (J b):=λa b h i r m s=>
     ⟨by simp[d,m,h],s,u i λe=>by
       subst e;rw[B]at m;have:=h r;rw[<-zt m]at this;have A:=D [];rw[EZ]at A
       rw[A]at this;cases this⟩
    have hR1:d.ow id=J R:=by
     have A:=D [];rw[EZ]at A;simp[d,B,A]
    refine⟨.slice (J ⟨id,0,J es⟩) (rows.length+rows2.length) c,d,?_,TY,⟨cq _,L,λi _ l=>⟨by simp[d,l],u i (λe=>by rw[e,B]at l;cases l),λh=>h⟩⟩,?_,H⟩
    ·simp only[th,he,ht,aA zT,aA hm,I];rw[aE ⟨G,trivial,by omega,N,ga⟩,aE oz,dU]
    ·exact TR (cells2:=cs) zN hold hr rfl M L (λi j=>H _ (VI R i j D) (YU i j)) rI hR1 hG (by simp[d,AH.set]) oz (by rw[b1];exact F) (by unfold kA;omega)
      (λq C=>b3 q (by omega)) (λq C=>b4 q C)
   ·
    let cells2:=k.cells.take (rows.length*es)++new
    have a4x:cells2.length=(rows.length+rows2.length)*es:=by simp[cells2,pK,oF];omega
    let d:Env:=⟨(E.H.set id aa).push ⟨O,cells2⟩,E.G,λi=>if i=E.H.n then J R else(E.ow i).map λx=>(f x).getD x⟩
    have a56:id<E.H.n:=p.wf id k I
    have u:∀i,i≠id->i<E.H.n->d.H.b i=E.H.b i:=λi l hlt=>by
     simp only[d,AH.push,AH.set];have h9:i≠E.H.n:=tF hlt;simp[h9,l]
    have a4D:d.H.b E.H.n=J ⟨O,cells2⟩:=by simp[d,AH.push,AH.set]
    have L:GK E d:=λi l=>⟨l,λk0 v=>⟨k0,(u i (λe=>hG (by rw[<-e];exact l)) (p.ltG l)).trans v,rfl⟩⟩
    have TY:ew d:=⟨λi k0 v=>by
     show i<E.H.n+1;by_cases h9:i<E.H.n
     ·omega
     ·by_cases h8:i=E.H.n
      ·omega
      ·have h7:i≠id:=by omega
       simp[d,AH.push,AH.set,h8,h7]at v;have:=p.wf i k0 v;omega,λi l=>by
     have l:E.H.n+1<=i:=l;obtain⟨m,s⟩:=p.fresh i (by omega)
     exact⟨by simp only[d];rw[aA (by omega),m];rfl,s⟩⟩
    have H:∀a:Nat×aB,(∀r,f (a.1,a.2++r)=aa)->(∀r,(a.1,a.2++r)≠R)->dC E d (J a) (J a):=λa w h2 i r m s=>
     ⟨by simp only[d];rw[aA (tF (p.lt m)),m];simp[w],s,u i (a0b a h2 i r m) (p.lt m)⟩
    have rI:∀a b:Nat×aB,(∀r,f (a.1,a.2++r)=J (b.1,b.2++r))->dC E d (J a) (J b):=λa b h i r m s=>
     ⟨by simp only[d];rw[aA (tF (p.lt m)),m];simp[h],s,u i (λe=>by
       subst e;rw[B]at m;have:=h r;rw[<-zt m]at this;have A:=D [];rw[EZ]at A
       rw[A]at this;cases this) (p.lt m)⟩
    have nL:(k.cells.take (rows.length*es)).length=rows.length*es:=by rw[tH];omega
    refine⟨.slice (J ⟨E.H.n,0,J es⟩) (rows.length+rows2.length) (rows.length+rows2.length),d,?_,TY,
     ⟨Eu _,L,λi w l=>⟨by simp only[d];rw[aA (tF w),l];rfl,u i (λe=>by rw[e,B]at l;cases l) w,λh=>h⟩⟩,?_,H⟩
    ·simp only[th,he,ht,aA zT,aA hm,I];rw[aE ⟨G,trivial,by omega,N,ga⟩,aA oz,aE trivial]
    ·exact TR (cells2:=cells2) zN hold hr rfl M L (λi j=>H _ (VI R i j D) (YU i j)) rI (by simp[d]) (λh=>(p.fresh _ (cq _)).2 h) a4D (cq _) (by rw[a4x];exact cq _) (by unfold kA;omega)
      (λq C=>by simp only[cells2];rw[fE (by omega),my,aE C]) (λq C=>by simp only[cells2];rw[f9 (by omega),nL];congr 1;omega)
def SP :Fh E es [] [] aa f n R:=⟨by simp,λr h=>(by cases h),λi r j x y h=>(by simp at h),λa h=>(by cases h)⟩
def FH(r:au Q W S E Y X){bU:ae}(hR:R.1=Q){g:Bool}{e:TypeId}{cH:Nat}{zx1:List Value}(he:df P t=J e)(ht:cE P e=J (g,es,cH,zx1))(h0:es≠0)
(h:qm es Y x=J (rows2,bU)):
 ∃w Tx1 f,iF P t X E.H x=J (w,rows2.length)/\Fh E es rows2 w Tx1 f n R/\(∀r,f (R.1,R.2++r)=aa)/\
  (∀E',ew E'->gi E E'->(∀a:Nat×aB,(∀r,f (a.1,a.2++r)=aa)->a.1<Q->dC E E' (J a) (J a))->au Q W S E' bU X):=by
 have Pf:∀{F:Nat}{v:Value}{y:PV},X F=.v v->(∃l,PR E l y v)->rE es y=J rows2->
  ∃w,iF P t X E.H (.tmp F)=J (w,rows2.length)/\Fh E es rows2 w aa (λ_=>aa) n R:=by
  intro F v y hv fm u;obtain⟨l,fm⟩:=fm;unfold rE at u;split at u
  ·rename_i b rows;split at u
   ·rename_i I;obtain⟨rfl,qU⟩:=I;simp only[aS]at u;subst u;cases fm with
    |sl0 _ _=>exact⟨[],by simp[iF,he,ht,hv],SP⟩
    | @fN l id off _ m cc k _ how hG hb aY M I gZ N C hh=>
     obtain⟨⟨zN,rfl⟩,C⟩:=C;rw[gD]at C;have hlen:m*b<=k.cells.length:=ii (gN _ I) C;refine⟨k.cells.take (m*b),?_,?_,N,λi r j x y q z G=>?_,λa h=>(by cases h)⟩
     ·simp only[iF,he,ht,hv];by_cases H:m=0
      ·subst H;rw[aE rfl];simp[M]
      ·rw[aA H,aA (by simp)];simp only[AH.load,hb,mz,aP,a1G,GS hlen,M]
     ·rw[tH,M];omega
     ·have fJ:=N r (eD q);have hj:j<b:=by have:=(cY.1 z).1;omega
      have B:i<m:=by have:=(cY.1 q).1;omega
      have hlt:i*b+j<m*b:=by
       have:(i+1)*b<=m*b:=gN _ (by omega);rw[kf]at this;omega
      rw[my,aE hlt]at G;refine(hh i r j x y q z (by rw[gD];exact G)).free ?_;have d:=bc.1 qU r (eD q);have p:=bc.1 d x (eD z);simpa using p
   ·cases u
  ·rename_i b rows;split at u
   ·rename_i I;subst I;simp only[aS]at u;subst u;cases fm with
    |sl0 _ _=>exact⟨[],by simp[iF,he,ht,hv],SP⟩
    | @jX _ id off _ m cc k _ hG hb M I gZ N C hh=>
     obtain⟨zN,C⟩:=C;have hlen:m*b<=(k.cells.drop off).length:=by simp;omega
     refine⟨(k.cells.drop off).take (m*b),?_,?_,N,λi r j x y q z G=>?_,λa h=>(by cases h)⟩
     ·simp only[iF,he,ht,hv];by_cases H:m=0
      ·subst H;rw[aE rfl];simp[M]
      ·rw[aA H,aA (by simp)];simp only[AH.load,hb,mz,aP,GS hlen,M]
     ·rw[tH,M];omega
     ·have fJ:=N r (eD q);have hj:j<b:=by have:=(cY.1 z).1;omega
      have B:i<m:=by have:=(cY.1 q).1;omega
      have hlt:i*b+j<m*b:=by
       have:(i+1)*b<=m*b:=gN _ (by omega);rw[kf]at this;omega
      rw[my,aE hlt,jq]at G;exact hh i r j x y q z (by rw[i9];exact G)
   ·cases u
  ·cases u
 have tx:bU=Y->∀E',ew E'->gi E E'->(∀a:Nat×aB,(∀r,(λ_:Nat×aB=>(aa:Option (Nat×aB))) (a.1,a.2++r)=aa)->a.1<Q->dC E E' (J a) (J a))->au Q W S E' bU X:=by
  intro e E' d p A;subst e;exact r.env d p λs hs=>A (s,[]) (λ_=>rfl) hs
 cases x with
 |const k=>
  have hk:k=.slice aa 0 0:=by
   unfold qm at h;split at h
   ·rename_i yL;cases yL
   ·rename_i yL;cases yL;rfl
   ·cases h
  subst hk;simp only[qm,aS,b9]at h;obtain⟨rfl,rfl⟩:=h;exact⟨[],aa,λ_=>aa,by simp[iF,he,ht],SP,λ_=>rfl,tx rfl⟩
 |tmp F=>
  simp only[qm,BV,ja]at h;have L:=r.f F
  have nL:F<Q:=by
   rcases dS F Q with d|d
   ·exact d
   ·rw[r.hi F d]at h;simp[rD,jP,d5,rE]at h
  cases aD:Y F with
  |ls b rows=>
   rw[aD]at h L;simp only[rD]at h;split at h
   ·rename_i hes;subst hes;simp only[aS,b9]at h;obtain⟨rfl,rfl⟩:=h;obtain⟨cells,c1,c2,c3,c4,c5⟩:=L
    let f:Nat×aB->Option (Nat×aB):=λx=>if x.1=F then match x.2 with
     |(i,j)::r=>J (R.1,R.2++(n+i,j)::r)
     |[]=>aa else aa
    refine⟨cells,J (F,[]),f,by simp[iF,he,ht,c1],⟨c2,c4,λi r j x y q z G=>by simpa[Lo.ch,cS]using c5 i r j x y q z G,λa ha i j qx1=>?_⟩,λqx1=>?_,λE' d p A=>?_⟩
    ·cases ha;simp[f]
    ·have:R.1≠F:=λe=>by rw[hR]at e;exact zq _ (e▸nL)
     simp[f,this]
    ·refine r.rG nL p.g (λs hs eB=>A (s,[]) (λqx1=>by simp[f,eB]) hs) (λLx1 hL=>absurd hL (BV _)) (λ_ _=>rfl) (λh=>absurd h (zq _)) p d.wf d.fresh (λ_ _ d p=>.inl (by rw[d]at p;cases p;rfl)) ym rfl r.pin
   ·cases h
  |v x=>
   rw[aD]at h L;simp only[rD,d5,aP,bL,b9]at h;obtain⟨rows,d,rfl,rfl⟩:=h;obtain⟨v,p,A⟩:=gu L (by rintro rfl;simp[rE]at d);obtain⟨w,q1,q2⟩:=Pf p ⟨_,A⟩ d;exact⟨w,aa,_,q1,q2,λ_=>rfl,tx rfl⟩
  |rf s px1=>
   rw[aD]at h L;simp only[rD,d5,bT,bL,b9]at h;obtain⟨x,hx,rows,d,rfl,rfl⟩:=h;obtain⟨v,p,A⟩:=L;obtain⟨v',w1,w2⟩:=r.at hx (by rintro rfl;simp[rE]at d) (jb r A hx);have:=w1.same A;subst this;obtain⟨w,q1,q2⟩:=Pf p ⟨_,w2⟩ d;exact⟨w,aa,_,q1,q2,λ_=>rfl,tx rfl⟩
  |rv s px1 D B=>
   rw[aD]at h L;simp only[rD,d5,bT,bL,b9]at h;obtain⟨x,⟨y,u,T⟩,rows,d,rfl,rfl⟩:=h;unfold Fx at T;split at T
   ·rename_i o b a5c;split at T
    ·rename_i hb;simp only[aS]at T;subst T;rcases L with⟨p,A,rfl,rfl⟩|⟨id,off,es2,m,cc,p,A,h4,h5⟩
     ·obtain⟨w,q1,q2⟩:=Pf A ⟨aa,by simpa using PR.sl0 (E:=E) (l:=aa) o b⟩ d;exact⟨w,aa,_,q1,q2,λ_=>rfl,tx rfl⟩
     ·obtain⟨v',w1,w2⟩:=r.at u (by simp) (jb r p u);have:=w1.same p;subst this;have ee:=Af w2;subst ee;cases o with
      |false=>
       obtain⟨_,_,_,e3⟩:=w2.cut A h4;obtain⟨w,q1,q2⟩:=Pf h5 ⟨_,e3⟩ d;exact⟨w,aa,_,q1,q2,λ_=>rfl,tx rfl⟩
      |true=>
       simp only[rE]at d;split at d
       ·rename_i I;obtain⟨rfl,qU⟩:=I;simp only[aS]at d;subst d;cases w2 with
        | @fN l id off _ m cc k _ how hG gY aY M I gZ N C hh=>
         obtain⟨⟨zN,rfl⟩,C⟩:=C;rw[gD]at C h5;have hhi:B*b<=k.cells.length:=ii (gN _ (by omega)) C;have a51:D*b+(B-D)*b=B*b:=by rw[<-oF];congr 1;omega
         have hlen:(B-D)*b<=(k.cells.drop (D*b)).length:=by simp;omega
         have fJ:((a5c.take B).drop D).length=B-D:=by simp;omega
         refine⟨(k.cells.drop (D*b)).take ((B-D)*b),aa,λ_=>aa,?_,⟨?_,λr iu=>N r (Ez (HM iu)),λi r j x y q z G=>?_,λa h=>(by cases h)⟩,λ_=>rfl,tx rfl⟩
         ·simp only[iF,he,ht,h5];by_cases H:B-D=0
          ·rw[aE H,H];simp[fJ,H]
          ·rw[aA H,aA (by simp)];simp only[AH.load,gY,mz,aP,GS hlen,fJ]
         ·rw[tH,fJ];omega
         ·have g1':=q;rw[jq,my]at q;split at q
          ·rename_i a6v;have fJ:=N r (eD q);have hj:j<b:=by have:=(cY.1 z).1;omega
           have hlt:i*b+j<(B-D)*b:=by
            have:(i+1)*b<=(B-D)*b:=gN _ (by omega);rw[kf]at this;omega
           rw[my,aE hlt,jq]at G;refine(hh (D+i) r j x y q z (by rw[gD,<-G];congr 1;rw[oF];omega)).free ?_;have d:=bc.1 qU r (eD g1');have p:=bc.1 d x (eD z);simpa using p
          ·cases q
       ·cases d
    ·cases T
   ·cases T
  |ra s px1 i j m=>
   rw[aD]at h;simp only[rD,d5,bT,bL,b9]at h;obtain⟨x,⟨y,_,nl⟩,rows,d,_⟩:=h;unfold yu at nl;split at nl
   ·cases nl;simp[rE]at d
   ·cases nl
  |_=>rw[aD]at h;simp[rD,d5]at h
 |func _=>simp[qm]at h
 |global _=>simp[qm]at h
def zwl:∀{b:List (List PV)}{a:List Int},xb b=J a->a.length=b.length/\∀(i:Nat) (n:Int),a[i]? =J n->b[i]? =J [.int .u8 n]:=by
 intro b;induction b with
 |nil=>intro a h;simp only[xb,aS]at h;subst h;exact⟨rfl,λi n h=>by simp at h⟩
 |cons r q ih=>
  intro a h;simp only[xb,bT,bL]at h;obtain⟨n,d,p,g,rfl⟩:=h;obtain⟨l,m⟩:=ih g
  have j:r=[.int .u8 n]:=by
   unfold Yi at d;split at d
   ·cases d;rfl
   ·cases d
  refine⟨by simp[l],λi k e=>?_⟩;cases i with
  |zero=>simp at e;subst e;simp[j]
  |succ i=>simpa using m i k (by simpa using e)
def zot(r:au c.nt W S E Y X)(N:eK c W){s:TypeId}(M:o.op=.convert s t x)(h:yn P c s t x o.dst K Y)
(L:∀B U E',K B->au c.nt W S E' B U->K' U E'.H):fY P c.nt o K' X E.H:=by
 unfold yn at h;split at h
 ·rename_i d yx1 bU hd k;obtain⟨G,h⟩:=h;unfold Bs at k;split at k
  ·rename_i a;simp only[bT,bL,b9]at k;obtain⟨⟨rows,pf3⟩,u,j,v,rfl,rfl⟩:=k
   obtain⟨e,w,l⟩:∃e,df P s=J e/\∃g b z,cE P e=J (g,1,b,z):=by
    unfold uu at a;split at a
    ·rename_i e w;split at a
     ·rename_i l;exact⟨e,w,_,_,_,l⟩
     ·cases a
    ·cases a
   obtain⟨g,b,z,l⟩:=l;obtain⟨m,T,f,q1,q2,_,q4⟩:=FH (n:=0) (R:=(c.nt,[])) r rfl w l (by omega) u;have r2:=q4 E r.ok (gi.refl E) λax1 _ _=>λid qx1 u v=>⟨u,v,rfl⟩
   obtain⟨n1,n2⟩:=zwl v
   have zT:m=j.map (Value.int .u8):=by
    have A:=q2.len;dsimp only at A n1;rw[Mh]at A;apply List.ext_getElem?;intro i;by_cases p:i<m.length
    ·have H:i<j.length:=by omega
     have y:j[i]? =J j[i]:=cI H;have D:=n2 i _ y;have F:m[i*1+0]? =J (m[i]'p):=by simp[cI p]
     have q:=q2.el i _ 0 _ _ D rfl F;rw[cI p,Ex,y];generalize m[i]'p=wx1 at q⊢;generalize T.ch i 0=lo at q;cases q;rfl
    ·rw[BT (by omega),BT (by simp;omega)]
   have C:d<c.nt:=by
    have:=h.1;simp only[ia,bC,eE]at this;exact this.1.1
   have I:=hY r2 N (.str (xV j)) h L;unfold fY;rw[M,hd];simp only[q1];refine⟨⟨C,a,G⟩,j,zT,?_⟩;simpa[bu,C]using I
  ·cases k
 ·cases h
def zAJ(r:au c.nt W S E Y X){s:TypeId}(j:o.op=.convert s t x)(b:JL Y x=O)(h:fY P c.nt o K' X E.H):aN P c.nt o K' X E.H:=by
 cases x with
 |tmp u=>
  obtain⟨g,m⟩:∃g,Y u=.ls 1 g:=by
   have b:KH (Y u)=O:=b;cases e:Y u with
   |ls es g=>
    rw[e]at b;have i:es=1:=by simpa[KH]using b
    exact⟨g,by rw[i]⟩
   |_=>rw[e]at b;cases b
  have k:=r.f u;rw[m]at k;obtain⟨p,i,_⟩:=k;cases hd:o.dst with
  |none=>simp only[fY,j,hd]at h
  |some d=>
   simp only[fY,j,hd]at h;obtain⟨⟨k1,k2,k3⟩,h⟩:=h;split at h
   ·rename_i cs n a;obtain⟨l,rfl,q⟩:=h;simp only[aN,j];refine .inr ⟨⟨k2,k3,by rw[hd];rfl⟩,g.length,l,?_,by rw[hd];simpa[bu,k1]using q⟩
    have v:p=l.map (Value.int .u8):=by
     unfold iF at a;split at a
     ·cases a
     ·split at a
      ·cases a
      ·simp only[i]at a;split at a
       ·cases a;rfl
       ·cases a
    simp only[GQ,i,v,e7]
   ·cases h
 |_=>cases b
def zvA(rx1:au c.nt W S E Y X)(hp:eK c W){s:Operand}(ho:o.op=.call ⟨.builtin .append,args,#[t,t]⟩)(ha:args.toList=[s,x])(h:Gv P c t s x o.dst K Y)
(hk:∀w U E',K w->au c.nt W S E' w U->K' U E'.H):aN P c.nt o K' X E.H:=by
 unfold Gv at h;split at h
 ·rename_i zx1 hz;obtain⟨e,gx1,es,bx1,zc,m,v,td,B,Aw,rfl⟩:=Ep hz;unfold MX at h;split at h
  ·rename_i y aR jA;split at h
   ·rename_i A b;obtain⟨C,fr1,H1,F,m1,e1,z,f1⟩:=wz rx1 (fl:=[]) (λk x vx1 h=>by simp at h) jA;have hfl:PR F (J (c.nt,[(0,0)])) y C:=f1 0 y C rfl
    have hy:y=.sl O es A:=by
     unfold zK at b;split at b
     ·split at b
      ·rename_i p;simp only[aS]at b;subst b;simp only at p;rw[p]
      ·cases b
     ·cases b
    subst hy;unfold PC at h;split at h
    ·rename_i rows2 bU u;obtain⟨D,⟨j,l⟩,i⟩:=h;simp only at j l i u;obtain⟨new,Tx1,f,q1,q2,q3,q4⟩:=FH (P:=P) z (R:=(c.nt,[(0,0)])) (n:=A.length) rfl m v B u
     have H:new.all l8=O:=by
      rw[bc];intro wx1 hw;obtain⟨q,r⟩:=Qy hw;have hlt:q<rows2.length*es:=by have:=(cY.1 r).1;rw[q2.len]at this;exact this
      have qY:0<es:=by omega
      have g:q/es<rows2.length:=a1H (by rw[xJ];exact hlt);have hj:q%es<es:=nc _ qY;have hr:=q2.rl _ (eL g)
      have hx:=q2.el (q/es) rows2[q/es] (q%es) (rows2[q/es][q%es]'(by omega)) wx1 (cI g) (cI _) (by
       rw[show q/es*es+q%es=q by rw[xJ];exact QA q es];exact r)
      have d:=bc.1 D _ (eL g);exact Uz hx (bc.1 d _ (eL _))
     obtain⟨vx1,G,I,L,M,N,T⟩:=Zu (P:=P) z.ok m v td B hfl q2 H q3 j l
     have r2:=q4 G L M λa d h2=>T a d λq e=>by
      have:=iB Prod.fst e;simp only at this;omega
     have:=hY r2 hp N i hk;unfold aN;rw[ho];simp only[ha,m1];rw[aE trivial];rw[<-e1];simp only[q1,I];exact this
    ·cases h
   ·cases h
  ·cases h
 ·cases h
def zBN(r:au Q W S E Y X){z q:Nat}{y:PV}{g:ae}(h:eJ z Y (.tmp q)=J (y,g))(e:vrF (Y q)=O):∃v,X q=.v v:=by
 have a:=r.f q;simp only[eJ]at h;cases b:Y q with
 |v x=>
  rw[b]at h a;simp only[ml,AF]at h;split at h
  ·cases h
  ·rename_i i;obtain⟨v,d,_⟩:=gu a (oY (by simpa using i));exact⟨v,d⟩
 |rf s p=>
  rw[b]at a;obtain⟨v,d,_⟩:=a;exact⟨v,d⟩
 |_=>rw[b]at e;cases e
def ztO(r:au c.nt W S E Y X)(hp:eK c W){t':TypeId}{s:Operand}(ho:o.op=.call ⟨.builtin .append,args,#[t,t']⟩)(ha:args.toList=[s,x])(h:HU P c t t' s x o.dst K Y)
(hk:∀pf' U E',K pf'->au c.nt W S E' pf' U->K' U E'.H):c.hp≠[]/\fY P c.nt o K' X E.H:=by
 unfold HU at h;split at h
 ·rename_i d zx1 n q hd hz B;obtain⟨e,gx1,es,bx1,zc,he,ht,b,sO,D,rfl⟩:=Ep hz;obtain⟨⟨k1,k2,k3,k4,k5,k6⟩,h⟩:=h;refine⟨k1,?_⟩;unfold VP at h;split at h
  ·rename_i y aR jA;split at h
   ·rename_i rows a;obtain⟨⟨F,M,ga⟩,L⟩:=h;obtain⟨w,i⟩:=zBN r jA k3;obtain⟨p,N,H1,G,m,e1,r1,f1⟩:=wz r (fl:=[]) (λk x v h=>by simp at h) jA
    have hm:p=w/\N=X/\H1=E.H:=by
     simp only[bm,i,aS,b9]at m;exact⟨m.1.symm,m.2.1.symm,m.2.2.symm⟩
    obtain⟨rfl,rfl,rfl⟩:=hm;have hfl:PR G (J (c.nt,[(0,0)])) y p:=f1 0 y p rfl
    have hy:y=.sl O es rows:=by
     unfold zK at a;split at a
     ·split at a
      ·rename_i hh;simp only[aS]at a;subst a;simp only at hh;rw[hh]
      ·cases a
     ·cases a
    subst hy;simp only at F M ga L;have z:(List.replicate n.toNat (uz (tw c (J d)) ((zz P e zc).map dz))).length=n.toNat:=by simp
    have C:∀l,l∈List.replicate n.toNat zc->l.length=es:=λl u=>by rw[(nS.1 u).2];exact b
    have q2:Fh G es (List.replicate n.toNat (uz (tw c (J d)) ((zz P e zc).map dz))) (List.replicate n.toNat zc).flatten aa (λ_=>aa) rows.length (c.nt,[(0,0)]):=by
     refine⟨by rw[FD C];simp,λl u=>by rw[(nS.1 u).2,KA];exact b,λix1 l j x y T g2 g3=>?_,λax1 h=>by cases h⟩;have hi:ix1<n.toNat:=by have:=(cY.1 T).1;simpa using this
     have aY:=(nS.1 (eD T)).2;subst aY;have hj:j<es:=by have:=(cY.1 g2).1;rw[KA]at this;omega
     rw[P1 C (e:=zc) (by rw[Ml,aE (by omega)]) hj]at g3;exact Uc D (λ_=>aa) j x y g2 g3
    have UB:(List.replicate n.toNat zc).flatten.all l8=O:=by
     rw[bc];intro w i;obtain⟨q,hq⟩:=Qy i;have A:q<n.toNat*es:=by have:=(cY.1 hq).1;rw[FD C]at this;simpa using this
     have qY:0<es:=by omega
     have hi:q/es<n.toNat:=a1H (by rw[xJ];exact A);have hj:q%es<es:=nc _ qY;have NX:(uz (tw c (J d)) ((zz P e zc).map dz)).length=es:=by rw[KA];exact b
     have B:=q2.el (q/es) (uz (tw c (J d)) ((zz P e zc).map dz)) (q%es) ((uz (tw c (J d)) ((zz P e zc).map dz))[q%es]'(by omega)) w (by rw[Ml,aE hi]) (cI _) (by
      rw[show q/es*es+q%es=q by rw[xJ];exact QA q es];exact hq)
     have h1:=bc.1 F _ (gE.2 rfl);exact Uz B (bc.1 h1 _ (eL _))
    obtain⟨v,H,I,a2,a3,a4,a5⟩:=Zu (P:=P) r1.ok he ht b sO hfl q2 UB (λ_=>rfl) (by rw[z];exact M) (by rw[z];exact ga)
    have r2:=r1.env a2 a3 λs hs=>a5 (s,[]) (λ_=>rfl) λq e=>by
     have:=iB Prod.fst e;simp only at this;omega
    have g:=hY r2 hp a4 L hk;rw[z,e1]at I
    have il:d<c.nt/\K' (N.put d (.v v)) H.H:=by
     simp only[bu]at g;split at g
     ·rename_i A;exact⟨A,g⟩
     ·cases g
    unfold fY;rw[ho,hd];simp only[ha,he,ql r B,ht];refine .inr ⟨⟨il.1,k2,k4,k5,k6,b,sO,D⟩,p,v,H.H,by simp[aZ,i],I,il.2⟩
   ·cases h
  ·cases h
 ·cases h
def zvZ(r:au c.nt W S E Y X){ts:Array TypeId}(ho:o.op=.call ⟨.builtin .clear,args,ts⟩)(h:OG P c o.dst K Y args.toList ts)
(hk:∀pf' U E',K pf'->au c.nt W S E' pf' U->K' U E'.H):c.hp≠[]/\fY P c.nt o K' X E.H:=by
 unfold OG at h;split at h
 ·rename_i qx1 t ha;obtain⟨hd,h⟩:=h;unfold S5 at h;split at h
  ·rename_i pf' A;obtain⟨pE,hK⟩:=h;refine⟨pE,?_⟩;have IV:=r.f qx1;unfold zCf at A;split at A
   ·rename_i s d p hq;rw[hq]at IV;split at A
    ·rename_i cH v y rows hz hs;split at A
     ·rename_i hlt;simp only[aS]at A;subst A;obtain⟨e,g,es,b,z,he,ht,td,sO,Aw,G⟩:=Ep hz;simp only[b9]at G;obtain⟨rfl,rfl,G⟩:=G;have jE:=r.f s;rw[hs]at jE;obtain⟨vx1,F,v2⟩:=gu jE (by simp);have jg:s<c.nt:=r.rt qx1 s (by rw[hq];rfl);cases v2 with
      |sl0 o' br=>simp at hlt;omega
      | @fN _ id off _ n cc k _ how hG hb aY M hc hm hr hl hh=>
       obtain⟨⟨_,rfl⟩,hl⟩:=hl
       obtain⟨w,rfl⟩:∃w,z=[w]:=by
        cases z with
        |nil=>simp at td
        |cons a l=>cases l with
         |nil=>exact⟨a,rfl⟩
         |cons b l=>simp at td
       have hw:w=.int v y:=by
        have:=Uc (P:=P) (E:=E) (b:=Z) (t:=e) (z:=[w]) Aw (λ_=>aa) 0 (.int v y) w (by simp only[uz,lL,ja,<-G];rfl) rfl;cases this;rfl
       subst hw
       have hfl:(List.replicate (p-d) [Value.int v y]).flatten=List.replicate (p-d) (Value.int v y):=by
        generalize p-d=mx1;induction mx1 with
        |zero=>rfl
        |succ mx1 ih=>simp[a1I,ih]
       have nQ:X qx1=.v (.slice (J ⟨id,d,J 1⟩) (p-d) (cc-d)):=by
        rcases IV with⟨w1,_⟩|⟨En,a6C,br,n',c',w1,_,_,w2⟩
        ·rcases w1 with⟨r0,q,a2⟩|⟨c0,j',p',y',q,_⟩
         ·rw[F]at q;cases q;cases a2
         ·rw[F]at q;cases q
        ·rcases w1 with⟨r0,q,a2⟩|⟨c0,j',p',y',q,_⟩
         ·rw[F]at q;cases q;cases a2;simpa using w2
         ·rw[F]at q;cases q
       have hne:List.replicate (p-d) (Value.int v y)≠[]:=λe0=>by
        have:=iB List.length e0;simp at this;omega
       obtain⟨cs,dU⟩:=EA (cs:=k.cells) (n:=d) hne (by simp;omega);obtain⟨b1,b2,b3,b4⟩:=Fj hne dU
       let B:Env:={E with H:=E.H.set id (J ⟨O,cs⟩)}
       have N:∀i,i≠id->B.H.b i=E.H.b i:=λi b7=>by simp[B,AH.set,b7]
       have Vo:B.H.b id=J ⟨O,cs⟩:=by simp[B,AH.set]
       have T:GK E B:=λi hGi=>⟨hGi,λk' L=>by
        have:i≠id:=λe=>hG (by rw[<-e];exact hGi)
        exact⟨k',(N i this).trans L,rfl⟩⟩
       have rI:∀a:Nat×aB,a≠(s,[])->(∀r,(a.1,a.2++r)≠(s,[]))->dC E B (J a) (J a):=λa _ ha i r m u=>by
        refine⟨m,u,N i λe=>?_⟩;subst e;rw[how]at m;exact ha r (zt m).symm
       have eB:fY P c.nt o K' X E.H=(((p-d≠0/\p-d<=cc-d/\(1=1)/\k.rw=O/\[Value.int v y].length=1/\1≠0/\[Value.int v y].all cD=O/\[Value.int v y].all l8=O)/\∃cs,gk k.cells d (List.replicate (p-d) [Value.int v y]).flatten=J cs/\K' X (E.H.set id (J ⟨O,cs⟩)))):=by
        unfold fY;rw[ho,hd];simp only[ha,he,aZ,nQ,ht,hb]
       rw[eB,hfl];refine⟨⟨by omega,by omega,rfl,aY,rfl,by decide,Aw,rfl⟩,cs,dU,?_⟩;refine hk _ X B hK ?_
       refine r.rG jg T (λt' ht' uO=>rI (t',[]) (λe=>uO (iB Prod.fst e)) λr e=>uO (iB Prod.fst e)) (λLx1 hL=>⟨λi px1 m u D=>⟨m,u⟩,λi px1 m u D=>by omega⟩) (λ_ _=>rfl) (λ_=>.inl rfl)
        ⟨cq _,T,λi _ M=>⟨M,N i (λe=>by rw[e,how]at M;cases M),λh=>h⟩⟩ (λi k' L=>?_) (λi b7=>r.fresh i b7) (λ_ _ I h2=>.inl (by rw[I]at h2;cases h2;rfl)) ?_ rfl r.pin
       ·by_cases e:i=id
        ·subst e;exact r.wf i k hb
        ·rw[N i e]at L;exact r.wf i k' L
       ·have hlr:(rows.take d).length=d:=by rw[tH];omega
        refine pu F (.fN how hG Vo rfl (by simp;omega) hc hm (λC iu=>?_) ⟨⟨by decide,rfl⟩,by rw[b1];exact hl⟩ λi C j x yx1 m u D=>?_)
        ·rcases ke.1 iu with h|h
         ·exact hr C (Ez h)
         ·rcases ke.1 h with h|h
          ·rw[(nS.1 h).2];rfl
          ·exact hr C (HM h)
        ·have old:rows[i]? =J C->¬(d<=i/\i<p)->PR B (J (cS (s,[]) i j)) x yx1:=λI h2=>by
          have hj:j=0:=by
           have:=hr C (eD I);have:=(cY.1 u).1;omega
          subst hj;rw[b3 _ (by simp;omega)]at D;exact(hh i C 0 x yx1 I u D).move T (rI _ (by simp[cS]) λr e=>by simp[cS]at e)
         rcases dS i d with XR|XR
         ·rw[fE (by omega),my,aE XR]at m;exact old m (by omega)
         ·rw[f9 (by omega),hlr]at m;rcases dS i p with fa|fa
          ·rw[fE (by simp;omega),Ml,aE (by omega)]at m;cases m;cases j with
           |succ j=>simp at u
           |zero=>
            simp at u;subst u;have:=b4 (i-d) (by simp;omega);rw[show d+(i-d)=0+i*1+0 by omega,D,Ml,aE (by omega)]at this;cases this;exact .int v y
          ·rw[f9 (by simp;omega),jq]at m;simp only[a5M]at m;rw[show p+(i-d-(p-d))=i by omega]at m;exact old m (by omega)
     ·cases A
    ·cases A
   ·cases A
  ·cases h
 ·cases h
end
end Go.Pm
