import Derived.Test.YtplemekcclpaoaaGreatDoorAmL
namespace Go.Am
section
variable {c:Ctx}{m:Mu}{fr:FR}{H:AH}{a:Act}{w:World}{P:Program}{K:FR→AH→Prop}{next:Act→World→Prop}
def lift(c:Ctx)(Q:Exit→FR→AH→Prop):Exit→Act→World→Prop:=fun e a w=>∃m fr H,Q e fr H∧RelS c m fr H a w
theorem zwt:∀(x:Code) {Q:Exit→FR→AH→Prop}{m:Mu}{fr:FR}{H:AH}{a:Act}{w:World},awp P c.nt x Q fr H→RelS c m fr H a w→x.wp P (lift c Q) a w:=by
 intro x;induction x with
 |skip=>intro Q m fr H a w h r;exact wp_skip ⟨m,fr,H,h,r⟩
 |region id ops draw=>
  intro Q m fr H a w h r;simp only[awp]at h;split at h
  ·rename_i hd;subst hd;exact zs9 h r fun m' fr' H' a' w' hk r'=>⟨m',fr',H',hk,r'⟩
  ·rename_i hd;have hd':draw=false:=by simpa using hd
   subst hd';exact wp_region_list (zux _ h r fun m' fr' H' a' w' hk r'=>⟨m',fr',H',hk,r'⟩)
 |seq x y ihx ihy=>
  intro Q m fr H a w h r;refine wp_seq (Code.wp_mono ?_ (ihx h r));rintro e a' w' ⟨m',fr',H',hq,r'⟩;cases e<;>first|exact ihy hq r'|exact⟨m',fr',H',hq,r'⟩
 |cond cd t e iht ihe=>
  intro Q m fr H a w h r;simp only[awp]at h;split at h
  ·rename_i b hb;refine wp_cond (t:=b) (zju (zaT r hb)) ?_;split at h
   ·rename_i hh;rw[if_pos hh];exact iht h r
   ·rename_i hh;rw[if_neg hh];exact ihe h r
  ·cases h
 |block id b ih=>
  intro Q m fr H a w h r;refine wp_block (Code.wp_mono ?_ (ih h r));rintro e a' w' ⟨m',fr',H',hq,r'⟩;cases e<;>try exact⟨m',fr',H',hq,r'⟩
  rename_i i;simp only[ziV]at hq;simp only[Exit.inBlock];split at hq
  ·rename_i hi;rw[if_pos hi];exact⟨m',fr',H',hq,r'⟩
  ·rename_i hi;rw[if_neg hi];exact⟨m',fr',H',hq,r'⟩
 |loop b ih=>
  intro Q m fr H a w h r;obtain⟨n,hn⟩:=h;refine wp_loop_rounds n ?_;induction n generalizing m fr H a w with
  |zero=>exact hn
  |succ n ihn=>
   rw[rounds_succ];obtain⟨fr2,hw,hn⟩:=hn;refine Code.wp_mono ?_ (ih hn (r.weaken hw));rintro e a' w' ⟨m',fr',H',hq,r'⟩;cases e<;>first|exact ihn r' hq|exact⟨m',fr',H',hq,r'⟩
 |exit id=>intro Q m fr H a w h r;exact wp_exit ⟨m,fr,H,h,r⟩
 |ret=>intro Q m fr H a w h r;exact wp_ret ⟨m,fr,H,h,r⟩
 |rangeFunc=>intro Q m fr H a w h r;exact absurd h (by simp[awp])
 |scope=>intro Q m fr H a w h r;exact absurd h (by simp[awp])
 |label=>intro Q m fr H a w h r;exact absurd h (by simp[awp])
 |goto=>intro Q m fr H a w h r;exact absurd h (by simp[awp])
 |refuse=>intro Q m fr H a w h r;exact absurd h (by simp[awp])
def zrz(tm:Array Value):ResultVar→Sem Value
 | .tmp t=>pure (tm.getD t undef)
 | .cell t ty=>do loadVar ty (←asAddr (tm.getD t undef))
theorem zuA(fn:Func)(tm:Array Value):results fn tm=(do let vs←fn.results.mapM (zrz tm);pure (if h:vs.size=1 then vs[0]else .tuple vs)):=by
 unfold results;congr 2
theorem zuE(r:RelS c m fr H a w){x:ResultVar}{v:Value}(h:ziA P fr x=some v):∃y,(zrz a.tmps x).run P w=.ok y w∧V m v y:=by
 cases x with
 |tmp t=>
  simp only[ziA]at h;split at h
  ·rename_i u hu;cases h;exact⟨_,rfl,zaT r (x:=.tmp t) (by simp[rdv,hu])⟩
  ·cases h
 |cell t ty=>
  simp only[ziA]at h;split at h
  ·rename_i cells hu;have hf:=r.f t;unfold RF at hf;rw[hu]at hf;obtain⟨b,cs,e,h1,h2,h3⟩:=hf;obtain⟨y,hy,hV⟩:=zrd (P:=P) h (zma h2 h3);refine⟨y,?_,hV⟩;simp only[zrz,h1,asAddr,Sem.run_bind,Sem.run_pure,Result.andThen_ok,hy]
  ·cases h
theorem zvl(r:RelS c m fr H a w):∀{xs:List ResultVar}{vs:List Value},zhv P fr xs=some vs→
 ∃ys,(xs.mapM (zrz a.tmps)).run P w=.ok ys w∧Vl m vs ys:=by
 intro xs;induction xs with
 |nil=>intro vs h;simp only[zhv,Option.some.injEq]at h;subst h;exact⟨[],by simp,.nil m⟩
 |cons x xs ih=>
  intro vs h;simp only[zhv]at h;split at h
  ·rename_i v vs' h1 h2;cases h;obtain⟨y,hy,hV⟩:=zuE r h1;obtain⟨ys,hys,hVs⟩:=ih h2;refine⟨y::ys,?_,.cons hV hVs⟩;rw[List.mapM_cons];simp only[Sem.run_bind,hy,Result.andThen_ok,hys,Sem.run_pure]
  ·cases h
theorem zqx(r:RelS c m fr H a w){fn:Func}{vs:List Value}(h:zhv P fr fn.results.toList=some vs):∃y,(results fn a.tmps).run P w=.ok y w∧V m (zke vs) y:=by
 obtain⟨ys,hys,hV⟩:=zvl r h
 have hm:(fn.results.mapM (zrz a.tmps)).run P w=.ok ys.toArray w:=by
  rw[Array.mapM_eq_mapM_toList,Sem.run_map,hys,Result.andThen_ok]
 refine⟨if h:ys.toArray.size=1 then ys.toArray[0]else .tuple ys.toArray,?_,?_⟩
 ·rw[zuA,Sem.run_bind,hm];rfl
 ·match vs,ys,hV with
  |[],ys,hV=>exact .junk _
  |[v],ys,hV=>
   obtain⟨y,ys',rfl,h1,h2⟩:=hV.cons_inv;rw[h2.nil_inv];simpa[zke]using h1
  |v::u::vs,ys,hV=>
   have hl:=hV.1;rw[dif_neg (by simp at hl⊢;omega)];exact .tuple hV.1 (by simpa using hV.2)
theorem zfz{nt:Nat}:∀{x:Code}{Q Q2:Exit→FR→AH→Prop}(_:∀e fr H,Q e fr H→Q2 e fr H) {fr:FR}{H:AH},awp P nt x Q fr H→awp P nt x Q2 fr H:=by
 intro x;induction x with
 |skip=>intro Q Q2 hq fr H h;exact hq _ _ _ h
 |region id ops draw=>
  intro Q Q2 hq fr H h;simp only[awp]at h⊢;split at h
  ·rename_i hd;rw[if_pos hd];exact zue (hq .normal) h
  ·rename_i hd;rw[if_neg hd];exact zv7 (hq .normal) h
 |seq x y ihx ihy=>
  intro Q Q2 hq fr H h;refine ihx (fun e fr H h=>?_) h;cases e<;>first|exact ihy hq h|exact hq _ _ _ h
 |cond c t e iht ihe=>
  intro Q Q2 hq fr H h;simp only[awp]at h⊢;split at h
  ·split at h
   ·rename_i e;rw[if_pos e];exact iht hq h
   ·rename_i e;rw[if_neg e];exact ihe hq h
  ·cases h
 |block id b ih=>
  intro Q Q2 hq fr H h;refine ih (fun e fr H h=>?_) h;cases e<;>try exact hq _ _ _ h
  simp only[ziV]at h⊢;split at h
  ·rename_i e;rw[if_pos e];exact hq _ _ _ h
  ·rename_i e;rw[if_neg e];exact hq _ _ _ h
 |loop b ih=>
  intro Q Q2 hq fr H h;obtain⟨n,hn⟩:=h;refine⟨n,?_⟩;induction n generalizing fr H with
  |zero=>exact hn
  |succ n ihn=>
   obtain⟨fr2,hw,hn⟩:=hn;refine⟨fr2,hw,ih (fun e fr H h=>?_) hn⟩;cases e<;>first|exact ihn h|exact hq _ _ _ h
 |exit id=>intro Q Q2 hq fr H h;exact hq _ _ _ h
 |ret=>intro Q Q2 hq fr H h;exact hq _ _ _ h
 |rangeFunc=>intro Q Q2 hq fr H h;exact absurd h (by simp[awp])
 |scope=>intro Q Q2 hq fr H h;exact absurd h (by simp[awp])
 |label=>intro Q Q2 hq fr H h;exact absurd h (by simp[awp])
 |goto=>intro Q Q2 hq fr H h;exact absurd h (by simp[awp])
 |refuse=>intro Q Q2 hq fr H h;exact absurd h (by simp[awp])
theorem zgB{f:FuncId}{fn:Func}{code:Code}{args:List Value}{R:Value→AH→Prop}{nt:Nat}(hc:zac P f)(hf:P.funcs[f]? =some fn)(hb:fn.body=some code)(hnt:fn.ntmps=nt)(hlen:args.length≤nt)
(h:WFH H→awp P nt code (zmc P fn.results R) (FR.init args) H):ACalls P f args H R:=by
 refine⟨hc,fun m w cargs hm hv ht=>?_⟩;have h:=h hm.lt;have hsz:cargs.size=args.length:=by have:=hv.1;simp at this;omega
 have htb:∀g,zlX=some g→¬(w.heap.size≤g∨∃id k,H.b id=some k∧k.rw=true∧(m.f id).blk=g)∧g<w.heap.size∧∃e fz,w.heap[g]? =some (Obj.cells zmm e fz):=fun g hg=>by
  obtain⟨⟨e,fz,h1⟩,h2⟩:=ht g hg;have hlt:=(Array.getElem?_eq_some_iff.1 h1).1;refine⟨?_,hlt,e,fz,h1⟩;rintro(h|⟨id,k,hk,hrw,e2⟩)
  ·omega
  ·exact h2 id k hk hrw e2
 let cx:Ctx:={A:=fun b=>w.heap.size≤b∨∃id k,H.b id=some k∧k.rw=true∧(m.f id).blk=b,S:=fun b=>w.heap.size≤b∨∃id k,H.b id=some k∧(m.f id).blk=b,w0:=w,m0:=m,nt:=nt,tb:=htb}
 have hget:∀t,(cargs++Array.replicate (fn.ntmps-cargs.size) undef).getD t undef=(cargs[t]?).getD undef:=by
  intro t;simp only[Array.getD_eq_getD_getElem?,Array.getElem?_append];split
  ·rfl
  ·rename_i hlt;rw[Array.getElem?_replicate,Array.getElem?_eq_none (by omega)];split<;>rfl
 have hown:∀t,za4 (FR.init args) (cargs++Array.replicate (fn.ntmps-cargs.size) undef) t=none:=by
  intro t;unfold za4 FR.init;split<;>simp_all
  ·split at* <;>simp_all
  ·split at* <;>simp_all
 have r:RelS cx m (FR.init args) H {tmps:=cargs++Array.replicate (fn.ntmps-cargs.size) undef,defers:=[]} w:=by
  refine⟨hm,fun t=>?_,rfl,?_,fun t t' b h=>?_,fun t b id k h=>?_,fun t b h=>?_,fun id k hk hrw=>.inr ⟨id,k,hk,hrw,rfl⟩,fun b _ _=>rfl,Nat.le_refl _,fun b hb=>.inl hb,fun id k hk=>.inr ⟨id,k,hk,rfl⟩,fun b hb=>.inl hb,m.le_refl,⟨⟨rfl,rfl⟩,fun b cs e fz h=>⟨cs,h⟩⟩⟩
  ·unfold RF FR.init;simp only[hget];cases ht:args[t]? with
   |none=>
    have:cargs[t]? =none:=by
     rw[Array.getElem?_eq_none_iff];rcases Nat.lt_or_ge t args.length with h|h
     ·rw[List.getElem?_eq_getElem h]at ht;cases ht
     ·omega
    simp[this]
   |some x=>
    obtain⟨y,hy,hV⟩:=hv.get ht;have:cargs[t]? =some y:=by simpa using hy
    simpa[this]using hV
  ·show(cargs++Array.replicate (fn.ntmps-cargs.size) undef).size=nt;simp;omega
  ·rw[hown]at h;cases h
  ·rw[hown]at h;cases h
  ·rw[hown]at h;cases h
 refine calls_of_wp hf hb (Code.wp_mono ?_ (zwt (c:=cx) code h r));rintro e a' w' ⟨m',fr',H',hq,r'⟩
 have done:∀vs,zhv P fr' fn.results.toList=some vs→R (zke vs) H'→a'.defers=[]∧∃v,(results fn a'.tmps).run P w'=.ok v w'∧
  ∃cv u H'' m'',Ending.returned v=.returned cv∧R u H''∧V m'' u cv∧RelH m'' H'' w'∧m.le m''∧zoh m H w w'∧zx5 m H w m'' H'':=by
  intro vs hvs hR;obtain⟨y,hy,hV⟩:=zqx r' hvs;refine⟨r'.d,y,hy,y,_,H',m',rfl,hR,hV,r'.h,r'.le,⟨r'.grow,fun b hb hno=>r'.keep b hb ?_,r'.io⟩,fun id k' hk=>?_⟩
  ·rintro(h|⟨id,k,hk,hrw,e⟩)
   ·exact absurd h (Nat.not_le_of_lt hb)
   ·exact hno id k hk hrw e
  ·cases hrw:k'.rw with
   |true=>
    rcases r'.rwA id k' hk hrw with h|⟨id0,k0,h0,h1,h2⟩
    ·exact .inl h
    ·exact .inr ⟨id0,k0,h0,h2,fun _=>h1⟩
   |false=>
    rcases r'.srcS id k' hk with h|⟨id0,k0,h0,h2⟩
    ·exact .inl h
    ·exact .inr ⟨id0,k0,h0,h2,fun e=>by cases e⟩
 cases e<;>simp only[zmc]at hq<;>try (cases hq;done)
 ·split at hq
  ·exact done _ ‹_› hq
  ·cases hq
 ·split at hq
  ·exact done _ ‹_› hq
  ·cases hq
end
def zuK(P:Program)(g:FuncId)(t:TypeId):Prop:=∀(n:Int) (H:AH) (e:TypeId) (b:Bool) (es by_:Nat) (z:List Value),zaw P t=some e→tsz P e=some (b,es,by_,z)→0≤n→by_*n≤140737488355328→n≤4611686018427387904→z.length=es→es≠0→z.all zai=true→
 ACalls P g [.slice none 0 0,.int .i64 n] H (fun v H'=>(n=0∧v=.slice none 0 0∧H'=H)∨(0<n∧v=.slice (some ⟨H.n,0,some es⟩) 0 n.toNat∧H'=H.push ⟨true,(List.replicate n.toNat z).flatten⟩))
def zV7(P:Program)(g:FuncId):Prop:=∀(id n c i j:Nat) (cells:List Value) (H:AH),H.b id=some ⟨true,cells⟩→i<j→j≤n→n≤c→c≤cells.length→n*8≤140737488355328→(∀q,q<n→∃m,cells[q]? =some (.int .i64 m))→
 ACalls P g [.slice (some ⟨id,0,some 1⟩) n c,.int .i64 i,.int .i64 j] H (fun v H'=>v=.slice (some ⟨id,0,some 1⟩) (i+(n-j)) c∧∃cs,H'=H.set id (some ⟨true,cs⟩)∧cs.length=cells.length∧∀q,q<i+(n-j)→cs[q]? =if q<i then cells[q]? else cells[q+(j-i)]?)
def srt(l:List Int):List Int:=l.mergeSort fun x y=>decide (x≤y)
def zVB(l:List Int):List Int:=((List.range l.length).filter fun j=>j==0||l.getD j 0 !=l.getD (j-1) 0).map fun j=>l.getD j 0
def zBm(P:Program)(g:FuncId):Prop:=∀(id off c n:Nat) (k:Blk) (a:Int) (H:AH),H.b id=some k→k.cells[off]? =some (.int .i64 a)→id<H.n→1≤c→1≤n→n≤1000000→
 ACalls P g [.slice (some ⟨id,off,some 1⟩) 1 c,.int .i64 n] H (fun v H'=>v=.slice (some ⟨H.n,0,some 1⟩) n n∧H'=H.push ⟨true,List.replicate n (.int .i64 a)⟩)
end Go.Am
