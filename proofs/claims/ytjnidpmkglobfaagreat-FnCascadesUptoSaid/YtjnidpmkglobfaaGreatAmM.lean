import Derived.Test.YtjnidpmkglobfaaGreatAmL
open Bool renaming false→Z,true→O
open Option renaming none→aa,some→J
set_option linter.defProp false
namespace Go.Am
section
variable {c:rV}{m:Mu}{Y:FR}{H:AH}{a:Act}{w:World}{P:Program}{K:FR->AH->Prop}{next:Act->World->Prop}
def a2H(c:rV)(Q:Exit->FR->AH->Prop):Exit->Act->World->Prop:=λe a w=>∃m Y H,Q e Y H/\aT c m Y H a w
def zxZ:∀(x:Code) {Q:Exit->FR->AH->Prop}{m:Mu}{Y:FR}{H:AH}{a:Act}{w:World},fW P c.nt x Q Y H->aT c m Y H a w->x.wp P (a2H c Q) a w:=by
 intro x;induction x with
 |skip=>intro Q m Y H a w h r;exact wp_skip ⟨m,Y,H,h,r⟩
 |region id M v=>
  intro Q m Y H a w h r;simp only[fW]at h;split at h
  ·rename_i hd;subst hd;exact ztU h r λk g f l p u d=>⟨k,g,f,u,d⟩
  ·rename_i hd;have E:v=Z:=by simpa using hd
   subst E;exact wp_region_list (zv1 _ h r λk g f l p u d=>⟨k,g,f,u,d⟩)
 |seq x y G F=>
  intro Q m Y H a w h r;refine wp_seq (Code.wp_mono ?_ (G h r));rintro e l p ⟨k,g,f,j,d⟩;cases e<;>first|exact F j d|exact⟨k,g,f,j,d⟩
 |cond I t e B A=>
  intro Q m Y H a w h r;simp only[fW]at h;split at h
  ·rename_i b C;refine wp_cond (t:=b) (KV (gz r C)) ?_;split at h
   ·rename_i q;rw[aE q];exact B h r
   ·rename_i q;rw[aA q];exact A h r
  ·cases h
 |block id b ih=>
  intro Q m Y H a w h r;refine wp_block (Code.wp_mono ?_ (ih h r));rintro e l p ⟨k,g,f,j,d⟩;cases e<;>try exact⟨k,g,f,j,d⟩
  rename_i i;simp only[LM]at j;simp only[Exit.inBlock];split at j
  ·rename_i s;rw[aE s];exact⟨k,g,f,j,d⟩
  ·rename_i s;rw[aA s];exact⟨k,g,f,j,d⟩
 |loop b ih=>
  intro Q m Y H a w h r;obtain⟨n,o⟩:=h;refine wp_loop_rounds n ?_;induction n generalizing m Y H a w with
  |zero=>exact o
  |succ n z=>
   rw[rounds_succ];obtain⟨L,D,o⟩:=o;refine Code.wp_mono ?_ (ih o (r.weaken D));rintro e l p ⟨k,g,f,j,d⟩;cases e<;>first|exact z d j|exact⟨k,g,f,j,d⟩
 |exit id=>intro Q m Y H a w h r;exact wp_exit ⟨m,Y,H,h,r⟩
 |ret=>intro Q m Y H a w h r;exact wp_ret ⟨m,Y,H,h,r⟩
 |rangeFunc=>intro Q m Y H a w h r;exact absurd h (by simp[fW])
 |scope=>intro Q m Y H a w h r;exact absurd h (by simp[fW])
 |label=>intro Q m Y H a w h r;exact absurd h (by simp[fW])
 |goto=>intro Q m Y H a w h r;exact absurd h (by simp[fW])
 |refuse=>intro Q m Y H a w h r;exact absurd h (by simp[fW])
def Ih(b:Array Value):ResultVar->Sem Value
 | .tmp t=>pure (b.getD t undef)
 | .cell t d=>do loadVar d (<-asAddr (b.getD t undef))
def zvm(d:Func)(e:Array Value):results d e=(do let b<-d.results.mapM (Ih e);pure (if h:b.size=1 then b[0]else .tuple b)):=by
 unfold results;congr 2
def zvp(r:aT c m Y H a w){x:ResultVar}{v:Value}(h:wb P Y x=J v):∃y,(Ih a.tmps x).run P w=.ok y w/\V m v y:=by
 cases x with
 |tmp t=>
  simp only[wb]at h;split at h
  ·rename_i u f;cases h;exact⟨_,rfl,gz r (x:=.tmp t) (by simp[aZ,f])⟩
  ·cases h
 |cell t o=>
  simp only[wb]at h;split at h
  ·rename_i n f;have d:=r.f t;unfold RF at d;rw[f]at d;obtain⟨b,cs,e,g,i,j⟩:=d;obtain⟨y,l,k⟩:=zsM (P:=P) h (RI i j);refine⟨y,?_,k⟩;simp only[Ih,g,asAddr,Sem.run_bind,Sem.run_pure,Result.andThen_ok,l]
  ·cases h
def zwv(r:aT c m Y H a w):∀{b:List ResultVar}{d:List Value},ta P Y b=J d->
 ∃e,(b.mapM (Ih a.tmps)).run P w=.ok e w/\Vl m d e:=by
 intro b;induction b with
 |nil=>intro d h;simp only[ta,aS]at h;subst h;exact⟨[],by simp,.nil m⟩
 |cons x b ih=>
  intro d h;simp only[ta]at h;split at h
  ·rename_i v n g i;cases h;obtain⟨y,l,j⟩:=zvp r g;obtain⟨e,f,k⟩:=ih i;refine⟨y::e,?_,.cons j k⟩;rw[List.mapM_cons];simp only[Sem.run_bind,l,Result.andThen_ok,f,Sem.run_pure]
  ·cases h
def zrk(r:aT c m Y H a w){f:Func}{e:List Value}(h:ta P Y f.results.toList=J e):∃y,(results f a.tmps).run P w=.ok y w/\V m (D0 e) y:=by
 obtain⟨d,g,b⟩:=zwv r h
 have l:(f.results.mapM (Ih a.tmps)).run P w=.ok d.toArray w:=by
  rw[a5I,Sem.run_map,g,Result.andThen_ok]
 refine⟨if h:d.toArray.size=1 then d.toArray[0]else .tuple d.toArray,?_,?_⟩
 ·rw[zvm,Sem.run_bind,l];rfl
 ·match e,d,b with
  |[],d,b=>exact .az _
  |[v],d,b=>
   obtain⟨y,n,rfl,i,j⟩:=b.cons_inv;rw[j.a0X];simpa[D0]using i
  |v::u::e,d,b=>
   have k:=b.1;rw[dif_neg (by simp at k⊢;omega)];exact .tuple b.1 (by simpa using b.2)
def NB{i:Nat}:∀{x:Code}{Q f:Exit->FR->AH->Prop}(_:∀e Y H,Q e Y H->f e Y H) {Y:FR}{H:AH},fW P i x Q Y H->fW P i x f Y H:=by
 intro x;induction x with
 |skip=>intro Q f d Y H h;exact d _ _ _ h
 |region id u s=>
  intro Q f d Y H h;simp only[fW]at h⊢;split at h
  ·rename_i hd;rw[aE hd];exact zws (d .normal) h
  ·rename_i hd;rw[aA hd];exact zxy (d .normal) h
 |seq x y r q=>
  intro Q f d Y H h;refine r (λe Y H h=>?_) h;cases e<;>first|exact q d h|exact d _ _ _ h
 |cond c t e l k=>
  intro Q f d Y H h;simp only[fW]at h⊢;split at h
  ·split at h
   ·rename_i e;rw[aE e];exact l d h
   ·rename_i e;rw[aA e];exact k d h
  ·cases h
 |block id b ih=>
  intro Q f d Y H h;refine ih (λe Y H h=>?_) h;cases e<;>try exact d _ _ _ h
  simp only[LM]at h⊢;split at h
  ·rename_i e;rw[aE e];exact d _ _ _ h
  ·rename_i e;rw[aA e];exact d _ _ _ h
 |loop b ih=>
  intro Q f d Y H h;obtain⟨n,g⟩:=h;refine⟨n,?_⟩;induction n generalizing Y H with
  |zero=>exact g
  |succ n j=>
   obtain⟨o,p,g⟩:=g;refine⟨o,p,ih (λe Y H h=>?_) g⟩;cases e<;>first|exact j h|exact d _ _ _ h
 |exit id=>intro Q f d Y H h;exact d _ _ _ h
 |ret=>intro Q f d Y H h;exact d _ _ _ h
 |rangeFunc=>intro Q f d Y H h;exact absurd h (by simp[fW])
 |scope=>intro Q f d Y H h;exact absurd h (by simp[fW])
 |label=>intro Q f d Y H h;exact absurd h (by simp[fW])
 |goto=>intro Q f d Y H h;exact absurd h (by simp[fW])
 |refuse=>intro Q f d Y H h;exact absurd h (by simp[fW])
def znc{f:FuncId}{d:Func}{z:Code}{args:List Value}{R:Value->AH->Prop}{nt:Nat}(hc:aC P f)(hf:P.funcs[f]? =J d)(l:d.body=J z)(Ho:d.ntmps=nt)(hlen:args.length<=nt)
(h:mF H->fW P nt z (Qp P d.results R) (FR.init args) H):qH P f args H R:=by
 refine⟨hc,λm w eY W X q=>?_⟩;have h:=h W.lt;have eN:eY.size=args.length:=by have:=X.1;simp at this;omega
 have htb:∀g,KW=J g->¬(w.heap.size<=g\/∃id k,H.b id=J k/\k.rw=O/\(m.f id).bn=g)/\g<w.heap.size/\∃e s,w.heap[g]? =J (Obj.cells OT e s):=λg hg=>by
  obtain⟨⟨e,s,u⟩,p⟩:=q g hg;have U:=(BU.1 u).1;refine⟨?_,U,e,s,u⟩;rintro(h|⟨id,k,i,o,e2⟩)
  ·omega
  ·exact p id k i o e2
 let T:rV:={A:=λb=>w.heap.size<=b\/∃id k,H.b id=J k/\k.rw=O/\(m.f id).bn=b,S:=λb=>w.heap.size<=b\/∃id k,H.b id=J k/\(m.f id).bn=b,w0:=w,m0:=m,nt:=nt,tb:=htb}
 have Ma:∀t,(eY++Array.replicate (d.ntmps-eY.size) undef).getD t undef=(eY[t]?).getD undef:=by
  intro t;simp only[xG,Array.getElem?_append];split
  ·rfl
  ·rename_i U;rw[Array.getElem?_replicate,Array.getElem?_eq_none (by omega)];split<;>rfl
 have C:∀t,cP (FR.init args) (eY++Array.replicate (d.ntmps-eY.size) undef) t=aa:=by
  intro t;unfold cP FR.init;split<;>simp_all
  ·split at* <;>simp_all
  ·split at* <;>simp_all
 have rx1:aT T m (FR.init args) H {tmps:=eY++Array.replicate (d.ntmps-eY.size) undef,defers:=[]} w:=by
  refine⟨W,λt=>?_,rfl,?_,λt t' b h=>?_,λt b id k h=>?_,λt b h=>?_,λid k i o=>.inr ⟨id,k,i,o,rfl⟩,λb _ _=>rfl,cq _,λb l=>.inl l,λid k i=>.inr ⟨id,k,i,rfl⟩,λb l=>.inl l,m.le_refl,⟨⟨rfl,rfl⟩,λb cs e s h=>⟨cs,h⟩⟩⟩
  ·unfold RF FR.init;simp only[Ma];cases q:args[t]? with
   |none=>
    have:eY[t]? =aa:=by
     rw[Array.getElem?_eq_none_iff];rcases dS t args.length with h|h
     ·rw[cI h]at q;cases q
     ·omega
    simp[this]
   |some x=>
    obtain⟨y,F,E⟩:=X.get q;have:eY[t]? =J y:=by simpa using F
    simpa[this]using E
  ·show(eY++Array.replicate (d.ntmps-eY.size) undef).size=nt;simp;omega
  ·rw[C]at h;cases h
  ·rw[C]at h;cases h
  ·rw[C]at h;cases h
 refine calls_of_wp hf l (Code.wp_mono ?_ (zxZ (c:=T) z h rx1));rintro e N v ⟨m',aj,M,n,j⟩
 have done:∀L,ta P aj d.results.toList=J L->R (D0 L) M->N.defers=[]/\∃vx1,(results d N.tmps).run P v=.ok vx1 v/\
  ∃Q ux1 I r,Ending.returned vx1=.returned Q/\R ux1 I/\V r ux1 Q/\gf r I v/\m.le r/\IQ m H w v/\VY m H w r I:=by
  intro L kt hR;obtain⟨y,F,E⟩:=zrk j kt;refine⟨j.d,y,F,y,_,M,m',rfl,hR,E,j.h,j.le,⟨j.grow,λb l qU=>j.ej b l ?_,j.io⟩,λid G i=>?_⟩
  ·rintro(h|⟨id,k,i,o,e⟩)
   ·exact absurd h (Nat.not_le_of_lt l)
   ·exact qU id k i o e
  ·cases o:G.rw with
   |true=>
    rcases j.jB id G i o with h|⟨B,k0,D,u,p⟩
    ·exact .inl h
    ·exact .inr ⟨B,k0,D,p,λ_=>u⟩
   |false=>
    rcases j.mU id G i with h|⟨B,k0,D,p⟩
    ·exact .inl h
    ·exact .inr ⟨B,k0,D,p,λe=>by cases e⟩
 cases e<;>simp only[Qp]at n<;>try (cases n;done)
 ·split at n
  ·exact done _ ‹_› n
  ·cases n
 ·split at n
  ·exact done _ ‹_› n
  ·cases n
end
def R8(P:Program)(g:FuncId)(t:TypeId):Prop:=∀(n:Int) (H:AH) (e:TypeId) (b:Bool) (d h:Nat) (z:List Value),df P t=J e->cE P e=J (b,d,h,z)->0<=n->h*n<=140737488355328->n<=4611686018427387904->z.length=d->d≠0->z.all cD=O->
 qH P g [.slice aa 0 0,.int .i64 n] H (λv f=>(n=0/\v=.slice aa 0 0/\f=H)\/(0<n/\v=.slice (J ⟨H.n,0,J d⟩) 0 n.toNat/\f=H.push ⟨O,(List.replicate n.toNat z).flatten⟩))
def zVj(P:Program)(g:FuncId):Prop:=∀(id n c i j:Nat) (b:List Value) (H:AH),H.b id=J ⟨O,b⟩->i<j->j<=n->n<=c->c<=b.length->n*8<=140737488355328->(∀q,q<n->∃m,b[q]? =J (.int .i64 m))->
 qH P g [.slice (J ⟨id,0,J 1⟩) n c,.int .i64 i,.int .i64 j] H (λv d=>v=.slice (J ⟨id,0,J 1⟩) (i+(n-j)) c/\∃cs,d=H.set id (J ⟨O,cs⟩)/\cs.length=b.length/\∀q,q<i+(n-j)->cs[q]? =if q<i then b[q]? else b[q+(j-i)]?)
def srt(l:List Int):List Int:=l.mergeSort λx y=>decide (x<=y)
def zVz(l:List Int):List Int:=((List.range l.length).filter λj=>j==0||l.getD j 0 !=l.getD (j-1) 0).map λj=>l.getD j 0
def zVx(P:Program)(g:FuncId):Prop:=∀(id off c n:Nat) (k:mP) (a:Int) (H:AH),H.b id=J k->k.cells[off]? =J (.int .i64 a)->id<H.n->1<=c->1<=n->n<=1000000->
 qH P g [.slice (J ⟨id,off,J 1⟩) 1 c,.int .i64 n] H (λv b=>v=.slice (J ⟨H.n,0,J 1⟩) n n/\b=H.push ⟨O,List.replicate n (.int .i64 a)⟩)
end Go.Am
