import Derived.Test.YtnojafnlicbhpaaGreatAmL
open Bool renaming false→aa,true→Z
open Option renaming none→ae,some→J
set_option linter.defProp false
namespace Go.Am
section
variable {c:rA}{m:Mu}{fr:FR}{H:AH}{a:Act}{w:World}{P:Program}{K:FR->AH->Prop}{next:Act->World->Prop}
def a3B(c:rA)(Q:Exit->FR->AH->Prop):Exit->Act->World->Prop:=λe a w=>∃m fr H,Q e fr H/\aX c m fr H a w
def zyb:∀(x:Code) {Q:Exit->FR->AH->Prop}{m:Mu}{fr:FR}{H:AH}{a:Act}{w:World},fu P c.nt x Q fr H->aX c m fr H a w->x.wp P (a3B c Q) a w:=by
 intro x;induction x with
 |skip=>intro Q m fr H a w h r;exact wp_skip ⟨m,fr,H,h,r⟩
 |region id ops BJ=>
  intro Q m fr H a w h r;simp only[fu]at h;split at h
  ·rename_i hd;subst hd;exact zuD h r λm' ak H' a' w' hk r'=>⟨m',ak,H',hk,r'⟩
  ·rename_i hd;have iw:BJ=aa:=by simpa using hd
   subst iw;exact wp_region_list (zwu _ h r λm' ak H' a' w' hk r'=>⟨m',ak,H',hk,r'⟩)
 |seq x y uu uC=>
  intro Q m fr H a w h r;refine wp_seq (Code.wp_mono ?_ (uu h r));rintro e a' w' ⟨m',ak,H',hq,r'⟩;cases e<;>first|exact uC hq r'|exact⟨m',ak,H',hq,r'⟩
 |cond cd t e Tk RS=>
  intro Q m fr H a w h r;simp only[fu]at h;split at h
  ·rename_i b hb;refine wp_cond (t:=b) (LM (gx r hb)) ?_;split at h
   ·rename_i hh;rw[aD hh];exact Tk h r
   ·rename_i hh;rw[aB hh];exact RS h r
  ·cases h
 |block id b ih=>
  intro Q m fr H a w h r;refine wp_block (Code.wp_mono ?_ (ih h r));rintro e a' w' ⟨m',ak,H',hq,r'⟩;cases e<;>try exact⟨m',ak,H',hq,r'⟩
  rename_i i;simp only[In]at hq;simp only[Exit.inBlock];split at hq
  ·rename_i hi;rw[aD hi];exact⟨m',ak,H',hq,r'⟩
  ·rename_i hi;rw[aB hi];exact⟨m',ak,H',hq,r'⟩
 |loop b ih=>
  intro Q m fr H a w h r;obtain⟨n,hn⟩:=h;refine wp_loop_rounds n ?_;induction n generalizing m fr H a w with
  |zero=>exact hn
  |succ n Db=>
   rw[rounds_succ];obtain⟨dN,hw,hn⟩:=hn;refine Code.wp_mono ?_ (ih hn (r.weaken hw));rintro e a' w' ⟨m',ak,H',hq,r'⟩;cases e<;>first|exact Db r' hq|exact⟨m',ak,H',hq,r'⟩
 |exit id=>intro Q m fr H a w h r;exact wp_exit ⟨m,fr,H,h,r⟩
 |ret=>intro Q m fr H a w h r;exact wp_ret ⟨m,fr,H,h,r⟩
 |rangeFunc=>intro Q m fr H a w h r;exact absurd h (by simp[fu])
 |scope=>intro Q m fr H a w h r;exact absurd h (by simp[fu])
 |label=>intro Q m fr H a w h r;exact absurd h (by simp[fu])
 |goto=>intro Q m fr H a w h r;exact absurd h (by simp[fu])
 |refuse=>intro Q m fr H a w h r;exact absurd h (by simp[fu])
def KZ(tm:Array Value):ResultVar->Sem Value
 | .tmp t=>pure (tm.getD t undef)
 | .cell t ty=>do loadVar ty (<-asAddr (tm.getD t undef))
def zwj(fn:Func)(tm:Array Value):results fn tm=(do let vs<-fn.results.mapM (KZ tm);pure (if h:vs.size=1 then vs[0]else .tuple vs)):=by
 unfold results;congr 2
def zv0(r:aX c m fr H a w){x:ResultVar}{v:Value}(h:s8 P fr x=J v):∃y,(KZ a.tmps x).run P w=.ok y w/\V m v y:=by
 cases x with
 |tmp t=>
  simp only[s8]at h;split at h
  ·rename_i u hu;cases h;exact⟨_,rfl,gx r (x:=.tmp t) (by simp[be,hu])⟩
  ·cases h
 |cell t ty=>
  simp only[s8]at h;split at h
  ·rename_i cells hu;have hf:=r.f t;unfold RF at hf;rw[hu]at hf;obtain⟨b,cs,e,h1,h2,h3⟩:=hf;obtain⟨y,hy,hV⟩:=ztJ (P:=P) h (Vh h2 h3);refine⟨y,?_,hV⟩;simp only[KZ,h1,asAddr,Sem.run_bind,Sem.run_pure,Result.andThen_ok,hy]
  ·cases h
def zwL(r:aX c m fr H a w):∀{xs:List ResultVar}{vs:List Value},qi P fr xs=J vs->
 ∃ys,(xs.mapM (KZ a.tmps)).run P w=.ok ys w/\Vl m vs ys:=by
 intro xs;induction xs with
 |nil=>intro vs h;simp only[qi,aT]at h;subst h;exact⟨[],by simp,.nil m⟩
 |cons x xs ih=>
  intro vs h;simp only[qi]at h;split at h
  ·rename_i v IW h1 h2;cases h;obtain⟨y,hy,hV⟩:=zv0 r h1;obtain⟨ys,zS,hVs⟩:=ih h2;refine⟨y::ys,?_,.cons hV hVs⟩;rw[List.mapM_cons];simp only[Sem.run_bind,hy,Result.andThen_ok,zS,Sem.run_pure]
  ·cases h
def zrN(r:aX c m fr H a w){fn:Func}{vs:List Value}(h:qi P fr fn.results.toList=J vs):∃y,(results fn a.tmps).run P w=.ok y w/\V m (xT vs) y:=by
 obtain⟨ys,zS,hV⟩:=zwL r h
 have hm:(fn.results.mapM (KZ a.tmps)).run P w=.ok ys.toArray w:=by
  rw[a5q,Sem.run_map,zS,Result.andThen_ok]
 refine⟨if h:ys.toArray.size=1 then ys.toArray[0]else .tuple ys.toArray,?_,?_⟩
 ·rw[zwj,Sem.run_bind,hm];rfl
 ·match vs,ys,hV with
  |[],ys,hV=>exact .ax _
  |[v],ys,hV=>
   obtain⟨y,qx,rfl,h1,h2⟩:=hV.cons_inv;rw[h2.W3];simpa[xT]using h1
  |v::u::vs,ys,hV=>
   have hl:=hV.1;rw[dif_neg (by simp at hl⊢;omega)];exact .tuple hV.1 (by simpa using hV.2)
def On{nt:Nat}:∀{x:Code}{Q Q2:Exit->FR->AH->Prop}(_:∀e fr H,Q e fr H->Q2 e fr H) {fr:FR}{H:AH},fu P nt x Q fr H->fu P nt x Q2 fr H:=by
 intro x;induction x with
 |skip=>intro Q Q2 hq fr H h;exact hq _ _ _ h
 |region id ops BJ=>
  intro Q Q2 hq fr H h;simp only[fu]at h⊢;split at h
  ·rename_i hd;rw[aD hd];exact zv4 (hq .normal) h
  ·rename_i hd;rw[aB hd];exact zx0 (hq .normal) h
 |seq x y uu uC=>
  intro Q Q2 hq fr H h;refine uu (λe fr H h=>?_) h;cases e<;>first|exact uC hq h|exact hq _ _ _ h
 |cond c t e Tk RS=>
  intro Q Q2 hq fr H h;simp only[fu]at h⊢;split at h
  ·split at h
   ·rename_i e;rw[aD e];exact Tk hq h
   ·rename_i e;rw[aB e];exact RS hq h
  ·cases h
 |block id b ih=>
  intro Q Q2 hq fr H h;refine ih (λe fr H h=>?_) h;cases e<;>try exact hq _ _ _ h
  simp only[In]at h⊢;split at h
  ·rename_i e;rw[aD e];exact hq _ _ _ h
  ·rename_i e;rw[aB e];exact hq _ _ _ h
 |loop b ih=>
  intro Q Q2 hq fr H h;obtain⟨n,hn⟩:=h;refine⟨n,?_⟩;induction n generalizing fr H with
  |zero=>exact hn
  |succ n Db=>
   obtain⟨dN,hw,hn⟩:=hn;refine⟨dN,hw,ih (λe fr H h=>?_) hn⟩;cases e<;>first|exact Db h|exact hq _ _ _ h
 |exit id=>intro Q Q2 hq fr H h;exact hq _ _ _ h
 |ret=>intro Q Q2 hq fr H h;exact hq _ _ _ h
 |rangeFunc=>intro Q Q2 hq fr H h;exact absurd h (by simp[fu])
 |scope=>intro Q Q2 hq fr H h;exact absurd h (by simp[fu])
 |label=>intro Q Q2 hq fr H h;exact absurd h (by simp[fu])
 |goto=>intro Q Q2 hq fr H h;exact absurd h (by simp[fu])
 |refuse=>intro Q Q2 hq fr H h;exact absurd h (by simp[fu])
def TY{f:FuncId}{fn:Func}{code:Code}{args:List Value}{R:Value->AH->Prop}{nt:Nat}(hc:aA P f)(hf:P.funcs[f]? =J fn)(hb:fn.body=J code)(G5:fn.ntmps=nt)(hlen:args.length<=nt)
(h:mJ H->fu P nt code (ED P fn.results R) (FR.init args) H):qj P f args H R:=by
 refine⟨hc,λm w eT hm hv ht=>?_⟩;have h:=h hm.lt;have eI:eT.size=args.length:=by have:=hv.1;simp at this;omega
 have htb:∀g,IR=J g->¬(w.heap.size<=g\/∃id k,H.b id=J k/\k.rw=Z/\(m.f id).bu=g)/\g<w.heap.size/\∃e fz,w.heap[g]? =J (Obj.cells PN e fz):=λg hg=>by
  obtain⟨⟨e,fz,h1⟩,h2⟩:=ht g hg;have hlt:=(BZ.1 h1).1;refine⟨?_,hlt,e,fz,h1⟩;rintro(h|⟨id,k,hk,bc,e2⟩)
  ·omega
  ·exact h2 id k hk bc e2
 let cx:rA:={A:=λb=>w.heap.size<=b\/∃id k,H.b id=J k/\k.rw=Z/\(m.f id).bu=b,S:=λb=>w.heap.size<=b\/∃id k,H.b id=J k/\(m.f id).bu=b,w0:=w,m0:=m,nt:=nt,tb:=htb}
 have Kc:∀t,(eT++Array.replicate (fn.ntmps-eT.size) undef).getD t undef=(eT[t]?).getD undef:=by
  intro t;simp only[xF,Array.getElem?_append];split
  ·rfl
  ·rename_i hlt;rw[Array.getElem?_replicate,Array.getElem?_eq_none (by omega)];split<;>rfl
 have dk:∀t,cP (FR.init args) (eT++Array.replicate (fn.ntmps-eT.size) undef) t=ae:=by
  intro t;unfold cP FR.init;split<;>simp_all
  ·split at* <;>simp_all
  ·split at* <;>simp_all
 have r:aX cx m (FR.init args) H {tmps:=eT++Array.replicate (fn.ntmps-eT.size) undef,defers:=[]} w:=by
  refine⟨hm,λt=>?_,rfl,?_,λt t' b h=>?_,λt b id k h=>?_,λt b h=>?_,λid k hk bc=>.inr ⟨id,k,hk,bc,rfl⟩,λb _ _=>rfl,cB _,λb hb=>.inl hb,λid k hk=>.inr ⟨id,k,hk,rfl⟩,λb hb=>.inl hb,m.le_refl,⟨⟨rfl,rfl⟩,λb cs e fz h=>⟨cs,h⟩⟩⟩
  ·unfold RF FR.init;simp only[Kc];cases ht:args[t]? with
   |none=>
    have:eT[t]? =ae:=by
     rw[Array.getElem?_eq_none_iff];rcases dQ t args.length with h|h
     ·rw[cJ h]at ht;cases ht
     ·omega
    simp[this]
   |some x=>
    obtain⟨y,hy,hV⟩:=hv.get ht;have:eT[t]? =J y:=by simpa using hy
    simpa[this]using hV
  ·show(eT++Array.replicate (fn.ntmps-eT.size) undef).size=nt;simp;omega
  ·rw[dk]at h;cases h
  ·rw[dk]at h;cases h
  ·rw[dk]at h;cases h
 refine calls_of_wp hf hb (Code.wp_mono ?_ (zyb (c:=cx) code h r));rintro e a' w' ⟨m',ak,H',hq,r'⟩
 have done:∀vs,qi P ak fn.results.toList=J vs->R (xT vs) H'->a'.defers=[]/\∃v,(results fn a'.tmps).run P w'=.ok v w'/\
  ∃cv u ph II,Ending.returned v=.returned cv/\R u ph/\V II u cv/\gp II ph w'/\m.le II/\LW m H w w'/\UX m H w II ph:=by
  intro vs kI hR;obtain⟨y,hy,hV⟩:=zrN r' kI;refine⟨r'.d,y,hy,y,_,H',m',rfl,hR,hV,r'.h,r'.le,⟨r'.grow,λb hb qP=>r'.eb b hb ?_,r'.io⟩,λid k' hk=>?_⟩
  ·rintro(h|⟨id,k,hk,bc,e⟩)
   ·exact absurd h (Nat.not_le_of_lt hb)
   ·exact qP id k hk bc e
  ·cases bc:k'.rw with
   |true=>
    rcases r'.jG id k' hk bc with h|⟨dS,k0,h0,h1,h2⟩
    ·exact .inl h
    ·exact .inr ⟨dS,k0,h0,h2,λ_=>h1⟩
   |false=>
    rcases r'.mE id k' hk with h|⟨dS,k0,h0,h2⟩
    ·exact .inl h
    ·exact .inr ⟨dS,k0,h0,h2,λe=>by cases e⟩
 cases e<;>simp only[ED]at hq<;>try (cases hq;done)
 ·split at hq
  ·exact done _ ‹_› hq
  ·cases hq
 ·split at hq
  ·exact done _ ‹_› hq
  ·cases hq
end
def Ng(P:Program)(g:FuncId)(t:TypeId):Prop:=∀(n:Int) (H:AH) (e:TypeId) (b:Bool) (es cG:Nat) (z:List Value),cW P t=J e->cF P e=J (b,es,cG,z)->0<=n->cG*n<=140737488355328->n<=4611686018427387904->z.length=es->es≠0->z.all cz=Z->
 qj P g [.slice ae 0 0,.int .i64 n] H (λv H'=>(n=0/\v=.slice ae 0 0/\H'=H)\/(0<n/\v=.slice (J ⟨H.n,0,J es⟩) 0 n.toNat/\H'=H.push ⟨Z,(List.replicate n.toNat z).flatten⟩))
def zWT(P:Program)(g:FuncId):Prop:=∀(id n c i j:Nat) (cells:List Value) (H:AH),H.b id=J ⟨Z,cells⟩->i<j->j<=n->n<=c->c<=cells.length->n*8<=140737488355328->(∀q,q<n->∃m,cells[q]? =J (.int .i64 m))->
 qj P g [.slice (J ⟨id,0,J 1⟩) n c,.int .i64 i,.int .i64 j] H (λv H'=>v=.slice (J ⟨id,0,J 1⟩) (i+(n-j)) c/\∃cs,H'=H.set id (J ⟨Z,cs⟩)/\cs.length=cells.length/\∀q,q<i+(n-j)->cs[q]? =if q<i then cells[q]? else cells[q+(j-i)]?)
def srt(l:List Int):List Int:=l.mergeSort λx y=>decide (x<=y)
def zWd(l:List Int):List Int:=((List.range l.length).filter λj=>j==0||l.getD j 0 !=l.getD (j-1) 0).map λj=>l.getD j 0
def zWt(P:Program)(g:FuncId):Prop:=∀(id off c n:Nat) (k:mD) (a:Int) (H:AH),H.b id=J k->k.cells[off]? =J (.int .i64 a)->id<H.n->1<=c->1<=n->n<=1000000->
 qj P g [.slice (J ⟨id,off,J 1⟩) 1 c,.int .i64 n] H (λv H'=>v=.slice (J ⟨H.n,0,J 1⟩) n n/\H'=H.push ⟨Z,List.replicate n (.int .i64 a)⟩)
end Go.Am
