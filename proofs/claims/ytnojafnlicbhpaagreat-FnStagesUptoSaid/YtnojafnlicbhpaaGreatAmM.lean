import Derived.Test.YtnojafnlicbhpaaGreatAmL
open Bool renaming false→aa,true→Z
open Option renaming none→ae,some→J
set_option linter.defProp false
namespace Go.Am
section
variable {c:q9}{m:Mu}{fr:FR}{H:AH}{a:Act}{w:World}{P:Program}{K:FR->AH->Prop}{next:Act->World->Prop}
def a1U(c:q9)(Q:Exit->FR->AH->Prop):Exit->Act->World->Prop:=λe a w=>∃m fr H,Q e fr H/\aX c m fr H a w
def zyp:∀(x:Code) {Q:Exit->FR->AH->Prop}{m:Mu}{fr:FR}{H:AH}{a:Act}{w:World},fc P c.nt x Q fr H->aX c m fr H a w->x.wp P (a1U c Q) a w:=by
 intro x;induction x with
 |skip=>intro Q m fr H a w h r;exact wp_skip ⟨m,fr,H,h,r⟩
 |region id ops zd=>
  intro Q m fr H a w h r;simp only[fc]at h;split at h
  ·rename_i hd;subst hd;exact zuD h r λm' ai H' a' w' hk r'=>⟨m',ai,H',hk,r'⟩
  ·rename_i hd;have hZ:zd=aa:=by simpa using hd
   subst hZ;exact wp_region_list (zwT _ h r λm' ai H' a' w' hk r'=>⟨m',ai,H',hk,r'⟩)
 |seq x y tW tA=>
  intro Q m fr H a w h r;refine wp_seq (Code.wp_mono ?_ (tW h r));rintro e a' w' ⟨m',ai,H',hq,r'⟩;cases e<;>first|exact tA hq r'|exact⟨m',ai,H',hq,r'⟩
 |cond cd t e Ps Tk=>
  intro Q m fr H a w h r;simp only[fc]at h;split at h
  ·rename_i b hb;refine wp_cond (t:=b) (G4 (f8 r hb)) ?_;split at h
   ·rename_i hh;rw[aB hh];exact Ps h r
   ·rename_i hh;rw[az hh];exact Tk h r
  ·cases h
 |block id b ih=>
  intro Q m fr H a w h r;refine wp_block (Code.wp_mono ?_ (ih h r));rintro e a' w' ⟨m',ai,H',hq,r'⟩;cases e<;>try exact⟨m',ai,H',hq,r'⟩
  rename_i i;simp only[Io]at hq;simp only[Exit.inBlock];split at hq
  ·rename_i hi;rw[aB hi];exact⟨m',ai,H',hq,r'⟩
  ·rename_i hi;rw[az hi];exact⟨m',ai,H',hq,r'⟩
 |loop b ih=>
  intro Q m fr H a w h r;obtain⟨n,hn⟩:=h;refine wp_loop_rounds n ?_;induction n generalizing m fr H a w with
  |zero=>exact hn
  |succ n Cn=>
   rw[rounds_succ];obtain⟨dI,hw,hn⟩:=hn;refine Code.wp_mono ?_ (ih hn (r.weaken hw));rintro e a' w' ⟨m',ai,H',hq,r'⟩;cases e<;>first|exact Cn r' hq|exact⟨m',ai,H',hq,r'⟩
 |exit id=>intro Q m fr H a w h r;exact wp_exit ⟨m,fr,H,h,r⟩
 |ret=>intro Q m fr H a w h r;exact wp_ret ⟨m,fr,H,h,r⟩
 |rangeFunc=>intro Q m fr H a w h r;exact absurd h (by simp[fc])
 |scope=>intro Q m fr H a w h r;exact absurd h (by simp[fc])
 |label=>intro Q m fr H a w h r;exact absurd h (by simp[fc])
 |goto=>intro Q m fr H a w h r;exact absurd h (by simp[fc])
 |refuse=>intro Q m fr H a w h r;exact absurd h (by simp[fc])
def Ih(tm:Array Value):ResultVar->Sem Value
 | .tmp t=>pure (tm.getD t undef)
 | .cell t ty=>do loadVar ty (<-asAddr (tm.getD t undef))
def zvS(fn:Func)(tm:Array Value):results fn tm=(do let vs<-fn.results.mapM (Ih tm);pure (if h:vs.size=1 then vs[0]else .tuple vs)):=by
 unfold results;congr 2
def zw1(r:aX c m fr H a w){x:ResultVar}{v:Value}(h:rV P fr x=J v):∃y,(Ih a.tmps x).run P w=.ok y w/\V m v y:=by
 cases x with
 |tmp t=>
  simp only[rV]at h;split at h
  ·rename_i u hu;cases h;exact⟨_,rfl,f8 r (x:=.tmp t) (by simp[be,hu])⟩
  ·cases h
 |cell t ty=>
  simp only[rV]at h;split at h
  ·rename_i cells hu;have hf:=r.f t;unfold RF at hf;rw[hu]at hf;obtain⟨b,cs,e,h1,h2,h3⟩:=hf;obtain⟨y,hy,hV⟩:=V1 (P:=P) h (TM h2 h3);refine⟨y,?_,hV⟩;simp only[Ih,h1,asAddr,Sem.run_bind,Sem.run_pure,Result.andThen_ok,hy]
  ·cases h
def zvK(r:aX c m fr H a w):∀{xs:List ResultVar}{vs:List Value},pB P fr xs=J vs->
 ∃ys,(xs.mapM (Ih a.tmps)).run P w=.ok ys w/\Vl m vs ys:=by
 intro xs;induction xs with
 |nil=>intro vs h;simp only[pB,aT]at h;subst h;exact⟨[],by simp,.nil m⟩
 |cons x xs ih=>
  intro vs h;simp only[pB]at h;split at h
  ·rename_i v II h1 h2;cases h;obtain⟨y,hy,hV⟩:=zw1 r h1;obtain⟨ys,zI,hVs⟩:=ih h2;refine⟨y::ys,?_,.cons hV hVs⟩;rw[List.mapM_cons];simp only[Sem.run_bind,hy,Result.andThen_ok,zI,Sem.run_pure]
  ·cases h
def zrB(r:aX c m fr H a w){fn:Func}{vs:List Value}(h:pB P fr fn.results.toList=J vs):∃y,(results fn a.tmps).run P w=.ok y w/\V m (xc vs) y:=by
 obtain⟨ys,zI,hV⟩:=zvK r h
 have hm:(fn.results.mapM (Ih a.tmps)).run P w=.ok ys.toArray w:=by
  rw[a2b,Sem.run_map,zI,Result.andThen_ok]
 refine⟨if h:ys.toArray.size=1 then ys.toArray[0]else .tuple ys.toArray,?_,?_⟩
 ·rw[zvS,Sem.run_bind,hm];rfl
 ·match vs,ys,hV with
  |[],ys,hV=>exact .au _
  |[v],ys,hV=>
   obtain⟨y,pR,rfl,h1,h2⟩:=hV.cons_inv;rw[h2.a0d];simpa[xc]using h1
  |v::u::vs,ys,hV=>
   have hl:=hV.1;rw[dif_neg (by simp at hl⊢;omega)];exact .tuple hV.1 (by simpa using hV.2)
def Lr{nt:Nat}:∀{x:Code}{Q Q2:Exit->FR->AH->Prop}(_:∀e fr H,Q e fr H->Q2 e fr H) {fr:FR}{H:AH},fc P nt x Q fr H->fc P nt x Q2 fr H:=by
 intro x;induction x with
 |skip=>intro Q Q2 hq fr H h;exact hq _ _ _ h
 |region id ops zd=>
  intro Q Q2 hq fr H h;simp only[fc]at h⊢;split at h
  ·rename_i hd;rw[aB hd];exact zvZ (hq .normal) h
  ·rename_i hd;rw[az hd];exact zyc (hq .normal) h
 |seq x y tW tA=>
  intro Q Q2 hq fr H h;refine tW (λe fr H h=>?_) h;cases e<;>first|exact tA hq h|exact hq _ _ _ h
 |cond c t e Ps Tk=>
  intro Q Q2 hq fr H h;simp only[fc]at h⊢;split at h
  ·split at h
   ·rename_i e;rw[aB e];exact Ps hq h
   ·rename_i e;rw[az e];exact Tk hq h
  ·cases h
 |block id b ih=>
  intro Q Q2 hq fr H h;refine ih (λe fr H h=>?_) h;cases e<;>try exact hq _ _ _ h
  simp only[Io]at h⊢;split at h
  ·rename_i e;rw[aB e];exact hq _ _ _ h
  ·rename_i e;rw[az e];exact hq _ _ _ h
 |loop b ih=>
  intro Q Q2 hq fr H h;obtain⟨n,hn⟩:=h;refine⟨n,?_⟩;induction n generalizing fr H with
  |zero=>exact hn
  |succ n Cn=>
   obtain⟨dI,hw,hn⟩:=hn;refine⟨dI,hw,ih (λe fr H h=>?_) hn⟩;cases e<;>first|exact Cn h|exact hq _ _ _ h
 |exit id=>intro Q Q2 hq fr H h;exact hq _ _ _ h
 |ret=>intro Q Q2 hq fr H h;exact hq _ _ _ h
 |rangeFunc=>intro Q Q2 hq fr H h;exact absurd h (by simp[fc])
 |scope=>intro Q Q2 hq fr H h;exact absurd h (by simp[fc])
 |label=>intro Q Q2 hq fr H h;exact absurd h (by simp[fc])
 |goto=>intro Q Q2 hq fr H h;exact absurd h (by simp[fc])
 |refuse=>intro Q Q2 hq fr H h;exact absurd h (by simp[fc])
def Pf{f:FuncId}{fn:Func}{code:Code}{args:List Value}{R:Value->AH->Prop}{nt:Nat}(hc:ax P f)(hf:P.funcs[f]? =J fn)(hb:fn.body=J code)(y9:fn.ntmps=nt)(hlen:args.length<=nt)
(h:mJ H->fc P nt code (Ft P fn.results R) (FR.init args) H):pZ P f args H R:=by
 refine⟨hc,λm w eG hm hv ht=>?_⟩;have h:=h hm.lt;have ey:eG.size=args.length:=by have:=hv.1;simp at this;omega
 have htb:∀g,H7=J g->¬(w.heap.size<=g\/∃id k,H.b id=J k/\k.rw=Z/\(m.f id).bq=g)/\g<w.heap.size/\∃e fz,w.heap[g]? =J (Obj.cells Mi e fz):=λg hg=>by
  obtain⟨⟨e,fz,h1⟩,h2⟩:=ht g hg;have hlt:=(A0.1 h1).1;refine⟨?_,hlt,e,fz,h1⟩;rintro(h|⟨id,k,hk,bc,e2⟩)
  ·omega
  ·exact h2 id k hk bc e2
 let cx:q9:={A:=λb=>w.heap.size<=b\/∃id k,H.b id=J k/\k.rw=Z/\(m.f id).bq=b,S:=λb=>w.heap.size<=b\/∃id k,H.b id=J k/\(m.f id).bq=b,w0:=w,m0:=m,nt:=nt,tb:=htb}
 have I5:∀t,(eG++Array.replicate (fn.ntmps-eG.size) undef).getD t undef=(eG[t]?).getD undef:=by
  intro t;simp only[v8,Array.getElem?_append];split
  ·rfl
  ·rename_i hlt;rw[Array.getElem?_replicate,Array.getElem?_eq_none (by omega)];split<;>rfl
 have df:∀t,cK (FR.init args) (eG++Array.replicate (fn.ntmps-eG.size) undef) t=ae:=by
  intro t;unfold cK FR.init;split<;>simp_all
  ·split at* <;>simp_all
  ·split at* <;>simp_all
 have r:aX cx m (FR.init args) H {tmps:=eG++Array.replicate (fn.ntmps-eG.size) undef,defers:=[]} w:=by
  refine⟨hm,λt=>?_,rfl,?_,λt t' b h=>?_,λt b id k h=>?_,λt b h=>?_,λid k hk bc=>.inr ⟨id,k,hk,bc,rfl⟩,λb _ _=>rfl,cy _,λb hb=>.inl hb,λid k hk=>.inr ⟨id,k,hk,rfl⟩,λb hb=>.inl hb,m.le_refl,⟨⟨rfl,rfl⟩,λb cs e fz h=>⟨cs,h⟩⟩⟩
  ·unfold RF FR.init;simp only[I5];cases ht:args[t]? with
   |none=>
    have:eG[t]? =ae:=by
     rw[Array.getElem?_eq_none_iff];rcases dK t args.length with h|h
     ·rw[cE h]at ht;cases ht
     ·omega
    simp[this]
   |some x=>
    obtain⟨y,hy,hV⟩:=hv.get ht;have:eG[t]? =J y:=by simpa using hy
    simpa[this]using hV
  ·show(eG++Array.replicate (fn.ntmps-eG.size) undef).size=nt;simp;omega
  ·rw[df]at h;cases h
  ·rw[df]at h;cases h
  ·rw[df]at h;cases h
 refine calls_of_wp hf hb (Code.wp_mono ?_ (zyp (c:=cx) code h r));rintro e a' w' ⟨m',ai,H',hq,r'⟩
 have done:∀vs,pB P ai fn.results.toList=J vs->R (xc vs) H'->a'.defers=[]/\∃v,(results fn a'.tmps).run P w'=.ok v w'/\
  ∃cv u n9 HA,Ending.returned v=.returned cv/\R u n9/\V HA u cv/\fW HA n9 w'/\m.le HA/\JZ m H w w'/\PU m H w HA n9:=by
  intro vs j3 hR;obtain⟨y,hy,hV⟩:=zrB r' j3;refine⟨r'.d,y,hy,y,_,H',m',rfl,hR,hV,r'.h,r'.le,⟨r'.grow,λb hb qP=>r'.dZ b hb ?_,r'.io⟩,λid k' hk=>?_⟩
  ·rintro(h|⟨id,k,hk,bc,e⟩)
   ·exact absurd h (Nat.not_le_of_lt hb)
   ·exact qP id k hk bc e
  ·cases bc:k'.rw with
   |true=>
    rcases r'.jm id k' hk bc with h|⟨dM,k0,h0,h1,h2⟩
    ·exact .inl h
    ·exact .inr ⟨dM,k0,h0,h2,λ_=>h1⟩
   |false=>
    rcases r'.mj id k' hk with h|⟨dM,k0,h0,h2⟩
    ·exact .inl h
    ·exact .inr ⟨dM,k0,h0,h2,λe=>by cases e⟩
 cases e<;>simp only[Ft]at hq<;>try (cases hq;done)
 ·split at hq
  ·exact done _ ‹_› hq
  ·cases hq
 ·split at hq
  ·exact done _ ‹_› hq
  ·cases hq
end
def KV(P:Program)(g:FuncId)(t:TypeId):Prop:=∀(n:Int) (H:AH) (e:TypeId) (b:Bool) (es cB:Nat) (z:List Value),cS P t=J e->cA P e=J (b,es,cB,z)->0<=n->cB*n<=140737488355328->n<=4611686018427387904->z.length=es->es≠0->z.all ct=Z->
 pZ P g [.slice ae 0 0,.int .i64 n] H (λv H'=>(n=0/\v=.slice ae 0 0/\H'=H)\/(0<n/\v=.slice (J ⟨H.n,0,J es⟩) 0 n.toNat/\H'=H.push ⟨Z,(List.replicate n.toNat z).flatten⟩))
def zWb(P:Program)(g:FuncId):Prop:=∀(id n c i j:Nat) (cells:List Value) (H:AH),H.b id=J ⟨Z,cells⟩->i<j->j<=n->n<=c->c<=cells.length->n*8<=140737488355328->(∀q,q<n->∃m,cells[q]? =J (.int .i64 m))->
 pZ P g [.slice (J ⟨id,0,J 1⟩) n c,.int .i64 i,.int .i64 j] H (λv H'=>v=.slice (J ⟨id,0,J 1⟩) (i+(n-j)) c/\∃cs,H'=H.set id (J ⟨Z,cs⟩)/\cs.length=cells.length/\∀q,q<i+(n-j)->cs[q]? =if q<i then cells[q]? else cells[q+(j-i)]?)
def srt(l:List Int):List Int:=l.mergeSort λx y=>decide (x<=y)
def zWD(l:List Int):List Int:=((List.range l.length).filter λj=>j==0||l.getD j 0 !=l.getD (j-1) 0).map λj=>l.getD j 0
def zWA(P:Program)(g:FuncId):Prop:=∀(id off c n:Nat) (k:mi) (a:Int) (H:AH),H.b id=J k->k.cells[off]? =J (.int .i64 a)->id<H.n->1<=c->1<=n->n<=1000000->
 pZ P g [.slice (J ⟨id,off,J 1⟩) 1 c,.int .i64 n] H (λv H'=>v=.slice (J ⟨H.n,0,J 1⟩) n n/\H'=H.push ⟨Z,List.replicate n (.int .i64 a)⟩)
end Go.Am
