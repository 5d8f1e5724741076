import Derived.Test.YtplemekcclpaoaaGreatDoorAmC
namespace Go.Am
section
variable {c:Ctx}{m:Mu}{fr:FR}{H:AH}{a:Act}{w:World}{P:Program}
variable{b o t:Nat}{cells:List Value}{v:Value}{x:Operand}
theorem zmQ(h:zai v=true):V m v v:=by
 cases v with
 |bool b=>exact .bool b
 |int k n=>exact .int k n
 |string s=>exact .str s
 |nilFunc=>exact .nilf
 |nilIface=>exact .nili
 |pointer p=>cases p with
  |none=>exact .nilp
  |some p=>simp[zai]at h
 |slice p n k=>
  cases p with
  |some p=>simp[zai]at h
  |none=>
   cases n with
   |succ n=>simp[zai]at h
   |zero=>
    cases k with
    |succ k=>simp[zai]at h
    |zero=>exact .nils none
 |agg cs=>
  refine .agg rfl fun i x y hx hy=>?_
  rw[hx]at hy;cases hy;simp only[zai,List.all_eq_true]at h;have:=h x (List.mem_of_getElem? hx);cases x with
  |bool b=>exact .bool b
  |int k n=>exact .int k n
  |string s=>exact .str s
  |nilFunc=>exact .nilf
  |nilIface=>exact .nili
  |pointer p=>cases p with
   |none=>exact .nilp
   |some p=>simp at this
  |slice p n k=>
   cases p with
   |some p=>simp at this
   |none=>
    cases n with
    |succ n=>simp at this
    |zero=>
     cases k with
     |succ k=>simp at this
     |zero=>exact .nils none
  |_=>simp at this
 |_=>simp[zai]at h
theorem zaT(r:RelS c m fr H a w)(h:rdv fr x=some v):V m v (a.eval x):=by
 cases x with
 |tmp t=>
  simp only[rdv]at h;split at h
  ·rename_i y hy;cases h;have hf:=r.f t;unfold RF at hf;rw[hy]at hf;exact hf
  ·cases h
 |const k=>
  simp only[rdv]at h;split at h
  ·rename_i hk;cases h;exact zmQ hk
  ·cases h
 |func f=>
  simp only[rdv,Option.some.injEq]at h;subst h;exact .func _ rfl (fun i x y hx=>by simp at hx) rfl (fun i x y hx=>by simp at hx)
 |global g=>simp[rdv]at h
def VA(m:Mu)(fr:FR)(tm:Array Value):FV→Value→Prop
 | .v x,y=>V m x y
 | .lp s off,y=>∃cells b,fr s=.loc cells∧tm.getD s undef=.pointer (some ⟨b,0,none⟩)∧y=.pointer (some ⟨b,off,none⟩)
 |_,_=>False
theorem zdP(r:RelS c m fr H a w){v:FV}(h:rda fr x=some v):VA m fr a.tmps v (a.eval x):=by
 cases x with
 |tmp t=>
  simp only[rda]at h;have hf:=r.f t;unfold RF at hf;split at h
  ·rename_i y hy;cases h;rw[hy]at hf;exact hf
  ·rename_i y hy;cases h;rw[hy]at hf;obtain⟨b,cs,e,h1,_⟩:=hf;exact⟨_,b,hy,h1,h1⟩
  ·rename_i s o hy;split at h
   ·rename_i cells hs;cases h;rw[hy]at hf;obtain⟨b,k1,k2⟩:=hf cells hs;exact⟨cells,b,hs,k1,k2⟩
   ·cases h
  ·cases h
 |const k=>
  simp only[rda,Option.map_eq_some_iff]at h;obtain⟨y,h1,rfl⟩:=h;exact zaT r h1
 |func f=>
  simp only[rda,Option.map_eq_some_iff]at h;obtain⟨y,h1,rfl⟩:=h;exact zaT r h1
 |global g=>simp[rda,rdv]at h
def Mu.push(m:Mu)(l:Loc):Mu:=⟨m.n+1,fun i=>if i=m.n then l else m.f i⟩
theorem Mu.le_push(m:Mu)(l:Loc):m.le (m.push l):=⟨Nat.le_succ _,fun i hi=>by simp[Mu.push,Nat.ne_of_lt hi]⟩
theorem Mu.push_f(m:Mu)(l:Loc):(m.push l).f m.n=l:=by simp[Mu.push]
theorem RelH.push(r:RelH m H w){l:Loc}{k:Blk}{cs:Array Value}{e:TypeId}{fz:Nat×Nat}(h1:w.heap[l.blk]? =some (.cells cs e fz))(h2:l.base+l.size≤cs.size)
(h3:k.cells.length≤l.size)(h5:k.rw=true→fz=(0,0))(h6:∀(i:Nat) (v:Value),k.cells[i]? =some v→∃c,cs[l.base+i]? =some c∧V m v c)
(h7:∀id k',H.b id=some k'→(k.rw=true∨k'.rw=true)→(m.f id).blk≠l.blk):RelH (m.push l) (H.push k) w:=by
 have hle:=m.le_push l;have hf:∀id k',H.b id=some k'→(m.push l).f id=m.f id:=fun id k' h=>hle.2 id (by rw[r.n];exact r.lt id k' h)
 have hb:∀id k',(H.push k).b id=some k'→(id=H.n∧k'=k)∨(id<H.n∧H.b id=some k'):=by
  intro id k' h;simp only[AH.push]at h;split at h
  ·cases h;exact .inl ⟨‹_›,rfl⟩
  ·exact .inr ⟨r.lt id k' h,h⟩
 have hn:(m.push l).f H.n=l:=by rw[←r.n];exact m.push_f l
 refine⟨by simp[Mu.push,AH.push,r.n],fun id k' h=>?_,fun id k' h=>?_,fun i j bi bj hi hj hne hrw=>?_⟩
 ·rcases hb id k' h with⟨rfl,_⟩|⟨h,_⟩<;>simp[AH.push]<;>omega
 ·rcases hb id k' h with⟨rfl,rfl⟩|⟨_,h⟩
  ·rw[hn];exact⟨cs,e,fz,h1,h2,h3,h5,fun i v hv=>let⟨c,a,b⟩:=h6 i v hv;⟨c,a,b.mono hle⟩⟩
  ·rw[hf id k' h];obtain⟨cs,e,fz,g1,g2,g3,g5,g6⟩:=r.cells id k' h;exact⟨cs,e,fz,g1,g2,g3,g5,fun i v hv=>let⟨c,a,b⟩:=g6 i v hv;⟨c,a,b.mono hle⟩⟩
 ·rcases hb i bi hi with⟨rfl,rfl⟩|⟨_,hi'⟩
  ·rcases hb j bj hj with⟨rfl,_⟩|⟨_,hj⟩
   ·exact absurd rfl hne
   ·rw[hn,hf j bj hj];exact fun e=>h7 j bj hj (.inl hrw) e.symm
  ·rcases hb j bj hj with⟨rfl,rfl⟩|⟨_,hj⟩
   ·rw[hn,hf i bi hi'];exact h7 i bi hi' (.inr hrw)
   ·rw[hf i bi hi',hf j bj hj];exact r.apart i j bi bj hi' hj hne hrw
theorem RF.mono{m':Mu}(hm:m.le m'){tm:Array Value}(h:RF m w fr tm t):RF m' w fr tm t:=by
 unfold RF at h⊢;split at h
 ·exact h.mono hm
 ·exact h
 ·obtain⟨b,cs,e,h1,h2,h3⟩:=h;exact⟨b,cs,e,h1,h2,h3.mono hm⟩
 ·obtain⟨b,cs,e,h1,h2,h3,h4⟩:=h;exact⟨b,cs,e,h1,h2,h3.mono hm,h4⟩
 ·exact h
theorem zv8(r:RelS c m fr H a w){len es:Nat}(ht:fr t=.ls len es cells):
 ∃m',m.le m'∧RelS c m' (fr.put t (.v (.slice (some ⟨H.n,0,some es⟩) len len))) (H.push ⟨true,cells⟩) a w∧V m' (.slice (some ⟨H.n,0,some es⟩) len len) (a.tmps.getD t undef):=by
 have hf:=r.f t;unfold RF at hf;rw[ht]at hf;obtain⟨b,cs,e,h1,h2,h3,h4⟩:=hf;have hob:za4 fr a.tmps t=some b:=by simp[za4,ht,h1]
 have hle:=m.le_push ⟨b,0,cs.size⟩;have hf':=m.push_f ⟨b,0,cs.size⟩;rw[r.h.n]at hf';have hlen:cells.length=cs.size:=by have:=h3.1;simpa using this
 have hR:RelH (m.push ⟨b,0,cs.size⟩) (H.push ⟨true,cells⟩) w:=
  r.h.push (cs:=cs) (e:=e) (fz:=(0,0)) h2 (by simp) (by simp[hlen]) (fun _=>rfl)
   (fun i v hv=>by
     obtain⟨y,hy,hV⟩:=h3.get hv
     exact⟨y,by simpa using hy,hV⟩)
   (fun id k hk _=>r.apart t b id k hob hk)
 have hV:V (m.push ⟨b,0,cs.size⟩) (.slice (some ⟨H.n,0,some es⟩) len len) (a.tmps.getD t undef):=by
  rw[h1]
  have:=V.slice (m:=m.push ⟨b,0,cs.size⟩) (id:=H.n) (off:=0) (es:=es) (n:=len) (c:=len) (o:=0) (cap:=len) (by simp[Mu.push,r.h.n]) (Nat.le_refl _) (Nat.le_refl _)
   (fun _=>by rw[hf']) (by rw[hf'];simp;omega)
  rw[hf']at this;exact this
 have hown:∀s b',za4 (fr.put t (.v (.slice (some ⟨H.n,0,some es⟩) len len))) a.tmps s=some b'→s≠t∧za4 fr a.tmps s=some b':=by
  intro s b' h;by_cases es:s=t
  ·subst es;simp[za4,zbD]at h
  ·refine⟨es,?_⟩;simpa[za4,ze1 fr _ es]using h
 refine⟨_,hle,⟨hR,fun s=>?_,r.d,r.sz,fun s s' b' h h'=>r.own s s' b' (hown _ _ h).2 (hown _ _ h').2,fun s b' id k h hk=>?_,fun s b' h=>r.ownN s b' (hown _ _ h).2,fun id k hk hrw=>?_,r.keep,r.grow,r.newA,fun id k hk=>?_,r.newS,Mu.le_trans r.le hle,r.io⟩,hV⟩
 ·by_cases e':s=t
  ·subst e';unfold RF;simp only[zbD];exact hV
  ·have hs:=(r.f s).mono hle;unfold RF at hs⊢;rw[ze1 fr _ e'];split at hs
   ·exact hs
   ·exact hs
   ·exact hs
   ·exact hs
   ·rename_i s' o _;intro cells' hc;by_cases e2:s'=t
    ·subst e2;rw[zbD]at hc;cases hc
    ·rw[ze1 fr _ e2]at hc;exact hs cells' hc
 ·obtain⟨hne,ho⟩:=hown _ _ h;simp only[AH.push]at hk;split at hk
  ·rename_i e1;subst e1;rw[hf'];intro e2;have e2':b=b':=e2;subst e2';exact hne (r.own s t _ ho hob)
  ·rw[hle.2 id (by rw[r.h.n];exact r.h.lt id k hk)];exact r.apart s b' id k ho hk
 ·simp only[AH.push]at hk;split at hk
  ·rename_i e1;subst e1;rw[hf'];exact r.newA _ (r.ownN t b hob)
  ·rw[hle.2 id (by rw[r.h.n];exact r.h.lt id k hk)];exact r.rwA id k hk hrw
 ·simp only[AH.push]at hk;split at hk
  ·rename_i e1;subst e1;rw[hf'];exact r.newS _ (r.ownN t b hob)
  ·rw[hle.2 id (by rw[r.h.n];exact r.h.lt id k hk)];exact r.srcS id k hk
theorem ztG(r:RelS c m fr H a w)(ht:fr t=.loc cells):
 ∃m',m.le m'∧RelS c m' (fr.put t (.v (.pointer (some ⟨H.n,0,none⟩)))) (H.push ⟨true,cells⟩) a w∧V m' (.pointer (some ⟨H.n,0,none⟩)) (a.tmps.getD t undef):=by
 have hf:=r.f t;unfold RF at hf;rw[ht]at hf;obtain⟨b,cs,e,h1,h2,h3⟩:=hf;have hob:za4 fr a.tmps t=some b:=by simp[za4,ht,h1]
 have hle:=m.le_push ⟨b,0,cs.size⟩;have hf':=m.push_f ⟨b,0,cs.size⟩;rw[r.h.n]at hf';have hlen:cells.length=cs.size:=by have:=h3.1;simpa using this
 have hR:RelH (m.push ⟨b,0,cs.size⟩) (H.push ⟨true,cells⟩) w:=
  r.h.push (cs:=cs) (e:=e) (fz:=(0,0)) h2 (by simp) (by simp[hlen]) (fun _=>rfl)
   (fun i v hv=>by
     obtain⟨y,hy,hV⟩:=h3.get hv
     exact⟨y,by simpa using hy,hV⟩)
   (fun id k hk _=>r.apart t b id k hob hk)
 have hV:V (m.push ⟨b,0,cs.size⟩) (.pointer (some ⟨H.n,0,none⟩)) (a.tmps.getD t undef):=by
  rw[h1];have:=V.ptr (m:=m.push ⟨b,0,cs.size⟩) (id:=H.n) (off:=0) (by simp[Mu.push,r.h.n]);rw[hf']at this;exact this
 have hown:∀s b',za4 (fr.put t (.v (.pointer (some ⟨H.n,0,none⟩)))) a.tmps s=some b'→s≠t∧za4 fr a.tmps s=some b':=by
  intro s b' h;by_cases es:s=t
  ·subst es;simp[za4,zbD]at h
  ·refine⟨es,?_⟩;simpa[za4,ze1 fr _ es]using h
 refine⟨_,hle,⟨hR,fun s=>?_,r.d,r.sz,fun s s' b' h h'=>r.own s s' b' (hown _ _ h).2 (hown _ _ h').2,fun s b' id k h hk=>?_,fun s b' h=>r.ownN s b' (hown _ _ h).2,fun id k hk hrw=>?_,r.keep,r.grow,r.newA,fun id k hk=>?_,r.newS,Mu.le_trans r.le hle,r.io⟩,hV⟩
 ·by_cases e':s=t
  ·subst e';unfold RF;simp only[zbD];exact hV
  ·have hs:=(r.f s).mono hle;unfold RF at hs⊢;rw[ze1 fr _ e'];split at hs
   ·exact hs
   ·exact hs
   ·exact hs
   ·exact hs
   ·rename_i s' o _;intro cells' hc;by_cases e2:s'=t
    ·subst e2;rw[zbD]at hc;cases hc
    ·rw[ze1 fr _ e2]at hc;exact hs cells' hc
 ·obtain⟨hne,ho⟩:=hown _ _ h;simp only[AH.push]at hk;split at hk
  ·rename_i e1;subst e1;rw[hf'];intro e2;have e2':b=b':=e2;subst e2';exact hne (r.own s t _ ho hob)
  ·rw[hle.2 id (by rw[r.h.n];exact r.h.lt id k hk)];exact r.apart s b' id k ho hk
 ·simp only[AH.push]at hk;split at hk
  ·rename_i e1;subst e1;rw[hf'];exact r.newA _ (r.ownN t b hob)
  ·rw[hle.2 id (by rw[r.h.n];exact r.h.lt id k hk)];exact r.rwA id k hk hrw
 ·simp only[AH.push]at hk;split at hk
  ·rename_i e1;subst e1;rw[hf'];exact r.newS _ (r.ownN t b hob)
  ·rw[hle.2 id (by rw[r.h.n];exact r.h.lt id k hk)];exact r.srcS id k hk
theorem zu0:∀{ts:List Nat}{m:Mu}{fr:FR}{H:AH}{fr':FR}{H':AH},RelS c m fr H a w→zhs ts fr H=some (fr',H')→∃m',RelS c m' fr' H' a w:=by
 intro ts;induction ts with
 |nil=>intro m fr H fr' H' r h;simp only[zhs,Option.some.injEq,Prod.mk.injEq]at h;obtain⟨rfl,rfl⟩:=h;exact⟨m,r⟩
 |cons t ts ih=>
  intro m fr H fr' H' r h;simp only[zhs]at h;split at h
  ·rename_i cells ht;obtain⟨m',_,r',_⟩:=ztG r ht;exact ih r' h
  ·cases h
theorem zmo(r:RelS c m fr H a w){fr':FR}{H':AH}(h:mat fr H x=some (v,fr',H')):
 ∃m',m.le m'∧RelS c m' fr' H' a w∧V m' v (a.eval x):=by
 cases x with
 |tmp t=>
  simp only[mat]at h;split at h
  ·rename_i y hy;cases h;exact⟨m,m.le_refl,r,zaT r (x:=.tmp t) (by simp[rdv,hy])⟩
  ·rename_i len es cells hy;cases h;exact zv8 r hy
  ·cases h
 |const k=>
  simp only[mat,Option.map_eq_some_iff,Prod.mk.injEq]at h;obtain⟨y,h1,rfl,rfl,rfl⟩:=h;exact⟨m,m.le_refl,r,zaT r h1⟩
 |func f=>
  simp only[mat,Option.map_eq_some_iff,Prod.mk.injEq]at h;obtain⟨y,h1,rfl,rfl,rfl⟩:=h;exact⟨m,m.le_refl,r,zaT r h1⟩
 |global g=>simp[mat,rdv]at h
theorem zlA{xs:List Operand}:∀{m:Mu}{fr:FR}{H:AH},RelS c m fr H a w→∀{vs:List Value}{fr':FR}{H':AH},zaG fr H xs=some (vs,fr',H')→
 ∃m',m.le m'∧RelS c m' fr' H' a w∧Vl m' vs (xs.map a.eval):=by
 induction xs with
 |nil=>
  intro m fr H r vs fr' H' h;simp only[zaG,Option.some.injEq,Prod.mk.injEq]at h;obtain⟨rfl,rfl,rfl⟩:=h;exact⟨m,m.le_refl,r,.nil m⟩
 |cons x xs ih=>
  intro m fr H r vs fr' H' h;simp only[zaG]at h;split at h
  ·rename_i v fr1 H1 h1;split at h
   ·rename_i vs1 r1 h2;obtain⟨fr2,H2⟩:=r1;cases h;obtain⟨m1,hm1,r1,hv⟩:=zmo r h1;obtain⟨m2,hm2,r2,hvs⟩:=ih r1 h2;exact⟨m2,Mu.le_trans hm1 hm2,r2,.cons (hv.mono hm2) hvs⟩
   ·cases h
  ·cases h
theorem zbp{t:TypeId}{g:Bool}{sz by_:Nat}{z:List Value}(h:tsz P t=some (g,sz,by_,z)):
 ∃i zv,P.info? t=some i∧i.zero=some zv∧zv.cells.toList=z∧i.size=sz∧i.bytes=by_∧(isAgg t).run P w=.ok g w∧(sizeOf t).run P w=.ok sz w:=by
 unfold tsz at h;split at h
 ·rename_i i d hi hd;simp only[Option.map_eq_some_iff,Prod.mk.injEq]at h;obtain⟨zv,hz,h1,h2,h3,h4⟩:=h;refine⟨i,zv,hi,hz,h4,h2,h3,?_,?_⟩
  ·subst h1;simp only[isAgg,underlying,Sem.run_bind,run_program,Result.andThen_ok,hd,Sem.run_pure];split<;>simp_all
  ·simp[sizeOf,typeInfo,hi,h2]
 ·cases h
theorem zk3:∀{n:Nat}{xs l:List Value},zg3 n xs=some l→l=xs.take n∧n≤xs.length:=by
 intro n;induction n with
 |zero=>intro xs l h;simp[zg3]at h;simp[h]
 |succ n ih=>
  intro xs l h;cases xs with
  |nil=>simp[zg3]at h
  |cons x xs=>
   simp only[zg3,Option.map_eq_some_iff]at h;obtain⟨l',h1,rfl⟩:=h;obtain⟨rfl,h2⟩:=ih h1;simp;omega
theorem zgO:∀{cs xs:List Value}{n:Nat}{r:List Value},zbQ cs n xs=some r→xs=[]∧r=cs∨n+xs.length≤cs.length∧r=cs.take n++xs++cs.drop (n+xs.length):=by
 intro cs;induction cs with
 |nil=>
  intro xs n r h;cases xs with
  |nil=>simp[zbQ]at h;exact .inl ⟨rfl,h⟩
  |cons x xs=>simp[zbQ]at h
 |cons c cs ih=>
  intro xs n r h;cases xs with
  |nil=>simp[zbQ]at h;exact .inl ⟨rfl,h.symm⟩
  |cons x xs=>
   cases n with
   |zero=>
    simp only[zbQ,Option.map_eq_some_iff]at h;obtain⟨r',h1,rfl⟩:=h;rcases ih h1 with⟨rfl,rfl⟩|⟨h2,rfl⟩
    ·right;simp
    ·right;refine⟨by simp at h2⊢;omega,?_⟩;simp
   |succ n=>
    simp only[zbQ,Option.map_eq_some_iff]at h;obtain⟨r',h1,rfl⟩:=h;rcases ih h1 with⟨h2,_⟩|⟨h2,rfl⟩
    ·cases h2
    ·right;refine⟨by simp at h2⊢;omega,?_⟩;have e:n+1+(x::xs).length=(n+(x::xs).length)+1:=by omega
     rw[e,List.drop_succ_cons];simp
def RowAt(m:Mu)(w:World)(cells:List Value)(b o:Nat):Prop:=∀(i:Nat) (v:Value),cells[i]? =some v→∃y,w.cell? ⟨b,o+i,none⟩=some y∧V m v y
theorem zeS(b o i:Nat):(⟨b,o,none⟩:Addr).add i=⟨b,o+i,none⟩:=by unfold Addr.add;split<;>simp_all
theorem RowAt.list(h:RowAt m w cells b o):∃ys,Vl m cells ys∧∀(j:Nat) (v:Value),ys[j]? =some v→w.cell? ((⟨b,o,none⟩:Addr).add j)=some v:=by
 induction cells generalizing o with
 |nil=>exact⟨[],.nil m,fun j v h=>by simp at h⟩
 |cons x xs ih=>
  obtain⟨y,hy,hv⟩:=h 0 x rfl
  obtain⟨ys,h1,h2⟩:=ih (o:=o+1) (fun i v hi=>by
   have:=h (i+1) v (by simpa using hi)
   simpa[Nat.add_assoc,Nat.add_comm 1 i]using this)
  refine⟨y::ys,.cons hv h1,fun j v hj=>?_⟩;cases j with
  |zero=>simp at hj;subst hj;rw[zeS];simpa using hy
  |succ j=>have:=h2 j v (by simpa using hj);rw[zeS]at this⊢;simpa[Nat.add_assoc,Nat.add_comm 1 j]using this
theorem RowAt.take(h:RowAt m w cells b o)(n:Nat):RowAt m w (cells.take n) b o:=fun i v hi=>by
 rw[List.getElem?_take]at hi;split at hi
 ·exact h i v hi
 ·cases hi
theorem RowAt.drop(h:RowAt m w cells b o)(n:Nat):RowAt m w (cells.drop n) b (o+n):=fun i v hi=>by
 rw[List.getElem?_drop]at hi;have:=h _ v hi;simpa[Nat.add_assoc]using this
theorem RelH.row(r:RelH m H w){id:Nat}{k:Blk}(h:H.b id=some k):RowAt m w k.cells (m.f id).blk (m.f id).base:=fun i v hi=>by
 obtain⟨cs,e,fz,h1,_,_,_,h6⟩:=r.cells id k h;obtain⟨y,hy,hv⟩:=h6 i v hi;exact⟨y,by simp[World.cell?,h1,hy],hv⟩
theorem zma{cs:Array Value}{e:TypeId}{fz:Nat×Nat}(h:w.heap[b]? =some (.cells cs e fz))(hv:Vl m cells cs.toList):RowAt m w cells b 0:=fun i v hi=>by
 obtain⟨y,hy,hV⟩:=hv.get hi;exact⟨y,by simp[World.cell?,h];simpa using hy,hV⟩
theorem zrd{t:TypeId}(hl:zfr P t (some cells)=some v)(hr:RowAt m w cells b o):
 ∃y,(loadVar t ⟨b,o,none⟩).run P w=.ok y w∧V m v y:=by
 unfold zfr at hl;split at hl
 ·rename_i sz bz cs ht hc;obtain⟨by_,z⟩:=bz;cases hc;simp only[Option.map_eq_some_iff]at hl;obtain⟨l,h1,rfl⟩:=hl;obtain⟨rfl,h2⟩:=zk3 h1;obtain⟨i,zv,hi,_,_,_,_,ha,hs⟩:=zbp (w:=w) ht;obtain⟨ys,hv,hy⟩:=(hr.take sz).list;have hlen:ys.length=sz:=by rw[←hv.1];simp;omega
  have hL:=run_loadCells_list (P:=P) w ⟨b,o,none⟩ ys hy;rw[hlen]at hL;refine⟨.agg ys.toArray,?_,.agg (by simpa using hv.1) (by simpa using hv.2)⟩;simp only[loadVar,Sem.run_bind,ha,Result.andThen_ok,if_true,hs,hL,Sem.run_pure]
 ·rename_i sz bz x xs ht hc;obtain⟨by_,z⟩:=bz;cases hc;cases hl;obtain⟨i,zv,hi,_,_,_,_,ha,hs⟩:=zbp (w:=w) ht;obtain⟨y,hy,hv⟩:=hr 0 v rfl;refine⟨y,?_,hv⟩;simp only[Nat.add_zero]at hy;simp only[loadVar,Sem.run_bind,ha,Result.andThen_ok,Bool.false_eq_true,if_false,run_load,hy]
 ·cases hl
theorem zpS(r:RelS c m fr H a w)(h:zcq fr H x=some cells):
 ∃b o,a.eval x=.pointer (some ⟨b,o,none⟩)∧RowAt m w cells b o:=by
 unfold zcq at h;split at h
 ·rename_i s off hx;split at h
  ·rename_i cs hs;cases h;obtain⟨cs',b,hs',h1,h2⟩:=zdP r hx;have hf:=r.f s;unfold RF at hf;rw[hs]at hf;obtain⟨b',ca,e,k1,k2,k3⟩:=hf;rw[h1]at k1;cases k1;have:=(zma k2 k3).drop off;simp only[Nat.zero_add]at this;exact⟨b,off,h2,this⟩
  ·cases h
 ·rename_i id off hx;have hv:=zdP r hx;have hv':V m (.pointer (some ⟨id,off,none⟩)) (a.eval x):=hv;simp only[AH.load,Option.map_eq_some_iff]at h;obtain⟨k,hk,rfl⟩:=h;generalize a.eval x=y at hv'⊢;cases hv' with
  |ptr hid=>exact⟨_,_,rfl,(r.h.row hk).drop off⟩
 ·cases h
end
end Go.Am
