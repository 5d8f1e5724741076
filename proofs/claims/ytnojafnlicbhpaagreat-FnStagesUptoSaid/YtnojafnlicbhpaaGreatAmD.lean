import Derived.Test.YtnojafnlicbhpaaGreatAmC
open Option renaming none→ae,some→J
open Bool renaming true→Z
set_option linter.defProp false
namespace Go.Am
def aT:=@Option.some.injEq
def bm:=@List.all_eq_true
def bP:=@Option.map_eq_some_iff
def cg:=@Prod.mk.injEq
def eA:=@List.mem_of_getElem?
def gE:=@Nat.zero_add
def jc:=@Nat.add_assoc
def my:=@if_false
def qH:=@Bool.false_eq_true
def rQ:=@Nat.add_zero
def Et:=@Nat.le_succ
def Qb:=@Nat.add_comm
def a5o:=@List.drop_succ_cons
section
variable {c:rA}{m:Mu}{fr:FR}{H:AH}{a:Act}{w:World}{P:Program}
variable{b o t:Nat}{cells:List Value}{v:Value}{x:Operand}
def OX(h:cz v=Z):V m v v:=by
 cases v with
 |bool b=>exact .bool b
 |int k n=>exact .int k n
 |string s=>exact .str s
 |nilFunc=>exact .fX
 |nilIface=>exact .ia
 |pointer p=>cases p with
  |none=>exact .gu
  |some p=>simp[cz]at h
 |slice p n k=>
  cases p with
  |some p=>simp[cz]at h
  |none=>
   cases n with
   |succ n=>simp[cz]at h
   |zero=>
    cases k with
    |succ k=>simp[cz]at h
    |zero=>exact .mK ae
 |agg cs=>
  refine .agg rfl λi x y hx hy=>?_
  rw[hx]at hy;cases hy;simp only[cz,bm]at h;have:=h x (eA hx);cases x with
  |bool b=>exact .bool b
  |int k n=>exact .int k n
  |string s=>exact .str s
  |nilFunc=>exact .fX
  |nilIface=>exact .ia
  |pointer p=>cases p with
   |none=>exact .gu
   |some p=>simp at this
  |slice p n k=>
   cases p with
   |some p=>simp at this
   |none=>
    cases n with
    |succ n=>simp at this
    |zero=>
     cases k with
     |succ k=>simp at this
     |zero=>exact .mK ae
  |_=>simp at this
 |_=>simp[cz]at h
def gx(r:aX c m fr H a w)(h:be fr x=J v):V m v (a.eval x):=by
 cases x with
 |tmp t=>
  simp only[be]at h;split at h
  ·rename_i y hy;cases h;have hf:=r.f t;unfold RF at hf;rw[hy]at hf;exact hf
  ·cases h
 |const k=>
  simp only[be]at h;split at h
  ·rename_i hk;cases h;exact OX hk
  ·cases h
 |func f=>
  simp only[be,aT]at h;subst h;exact .func _ rfl (λi x y hx=>by simp at hx) rfl (λi x y hx=>by simp at hx)
 |global g=>simp[be]at h
def VA(m:Mu)(fr:FR)(tm:Array Value):FV->Value->Prop
 | .v x,y=>V m x y
 | .lp s off,y=>∃cells b,fr s=.loc cells/\tm.getD s undef=.pointer (J ⟨b,0,ae⟩)/\y=.pointer (J ⟨b,off,ae⟩)
 |_,_=>False
def sP(r:aX c m fr H a w){v:FV}(h:bO fr x=J v):VA m fr a.tmps v (a.eval x):=by
 cases x with
 |tmp t=>
  simp only[bO]at h;have hf:=r.f t;unfold RF at hf;split at h
  ·rename_i y hy;cases h;rw[hy]at hf;exact hf
  ·rename_i y hy;cases h;rw[hy]at hf;obtain⟨b,cs,e,h1,_⟩:=hf;exact⟨_,b,hy,h1,h1⟩
  ·rename_i s o hy;split at h
   ·rename_i cells hs;cases h;rw[hy]at hf;obtain⟨b,k1,k2⟩:=hf cells hs;exact⟨cells,b,hs,k1,k2⟩
   ·cases h
  ·cases h
 |const k=>
  simp only[bO,bP]at h;obtain⟨y,h1,rfl⟩:=h;exact gx r h1
 |func f=>
  simp only[bO,bP]at h;obtain⟨y,h1,rfl⟩:=h;exact gx r h1
 |global g=>simp[bO,be]at h
def Mu.push(m:Mu)(l:Loc):Mu:=⟨m.n+1,λi=>if i=m.n then l else m.f i⟩
def Mu.O7(m:Mu)(l:Loc):m.le (m.push l):=⟨Et _,λi hi=>by simp[Mu.push,td hi]⟩
def Mu.BB(m:Mu)(l:Loc):(m.push l).f m.n=l:=by simp[Mu.push]
def gp.push(r:gp m H w){l:Loc}{k:mD}{cs:Array Value}{e:TypeId}{fz:Nat×Nat}(h1:w.heap[l.bu]? =J (.cells cs e fz))(h2:l.base+l.size<=cs.size)
(h3:k.cells.length<=l.size)(h5:k.rw=Z->fz=(0,0))(h6:∀(i:Nat) (v:Value),k.cells[i]? =J v->∃c,cs[l.base+i]? =J c/\V m v c)
(h7:∀id k',H.b id=J k'->(k.rw=Z\/k'.rw=Z)->(m.f id).bu≠l.bu):gp (m.push l) (H.push k) w:=by
 have da:=m.O7 l;have hf:∀id k',H.b id=J k'->(m.push l).f id=m.f id:=λid k' h=>da.2 id (by rw[r.n];exact r.lt id k' h)
 have hb:∀id k',(H.push k).b id=J k'->(id=H.n/\k'=k)\/(id<H.n/\H.b id=J k'):=by
  intro id k' h;simp only[AH.push]at h;split at h
  ·cases h;exact .inl ⟨‹_›,rfl⟩
  ·exact .inr ⟨r.lt id k' h,h⟩
 have hn:(m.push l).f H.n=l:=by rw[<-r.n];exact m.BB l
 refine⟨by simp[Mu.push,AH.push,r.n],λid k' h=>?_,λid k' h=>?_,λi j bi bj hi hj hne bc=>?_⟩
 ·rcases hb id k' h with⟨rfl,_⟩|⟨h,_⟩<;>simp[AH.push]<;>omega
 ·rcases hb id k' h with⟨rfl,rfl⟩|⟨_,h⟩
  ·rw[hn];exact⟨cs,e,fz,h1,h2,h3,h5,λi v hv=>let⟨c,a,b⟩:=h6 i v hv;⟨c,a,b.mono da⟩⟩
  ·rw[hf id k' h];obtain⟨cs,e,fz,g1,g2,g3,g5,g6⟩:=r.cells id k' h;exact⟨cs,e,fz,g1,g2,g3,g5,λi v hv=>let⟨c,a,b⟩:=g6 i v hv;⟨c,a,b.mono da⟩⟩
 ·rcases hb i bi hi with⟨rfl,rfl⟩|⟨_,hi'⟩
  ·rcases hb j bj hj with⟨rfl,_⟩|⟨_,hj⟩
   ·exact absurd rfl hne
   ·rw[hn,hf j bj hj];exact λe=>h7 j bj hj (.inl bc) e.symm
  ·rcases hb j bj hj with⟨rfl,rfl⟩|⟨_,hj⟩
   ·rw[hn,hf i bi hi'];exact h7 i bi hi' (.inr bc)
   ·rw[hf i bi hi',hf j bj hj];exact r.apart i j bi bj hi' hj hne bc
def RF.mono{m':Mu}(hm:m.le m'){tm:Array Value}(h:RF m w fr tm t):RF m' w fr tm t:=by
 unfold RF at h⊢;split at h
 ·exact h.mono hm
 ·exact h
 ·obtain⟨b,cs,e,h1,h2,h3⟩:=h;exact⟨b,cs,e,h1,h2,h3.mono hm⟩
 ·obtain⟨b,cs,e,h1,h2,h3,h4⟩:=h;exact⟨b,cs,e,h1,h2,h3.mono hm,h4⟩
 ·exact h
def zxB(r:aX c m fr H a w){len es:Nat}(ht:fr t=.ls len es cells):
 ∃m',m.le m'/\aX c m' (fr.put t (.v (.slice (J ⟨H.n,0,J es⟩) len len))) (H.push ⟨Z,cells⟩) a w/\V m' (.slice (J ⟨H.n,0,J es⟩) len len) (a.tmps.getD t undef):=by
 have hf:=r.f t;unfold RF at hf;rw[ht]at hf;obtain⟨b,cs,e,h1,h2,h3,h4⟩:=hf;have zw:cP fr a.tmps t=J b:=by simp[cP,ht,h1]
 have da:=m.O7 ⟨b,0,cs.size⟩;have p7:=m.BB ⟨b,0,cs.size⟩;rw[r.h.n]at p7;have hlen:cells.length=cs.size:=by have:=h3.1;simpa using this
 have hR:gp (m.push ⟨b,0,cs.size⟩) (H.push ⟨Z,cells⟩) w:=
  r.h.push (cs:=cs) (e:=e) (fz:=(0,0)) h2 (by simp) (by simp[hlen]) (λ_=>rfl)
   (λi v hv=>by
     obtain⟨y,hy,hV⟩:=h3.get hv
     exact⟨y,by simpa using hy,hV⟩)
   (λid k hk _=>r.apart t b id k zw hk)
 have hV:V (m.push ⟨b,0,cs.size⟩) (.slice (J ⟨H.n,0,J es⟩) len len) (a.tmps.getD t undef):=by
  rw[h1]
  have:=V.slice (m:=m.push ⟨b,0,cs.size⟩) (id:=H.n) (off:=0) (es:=es) (n:=len) (c:=len) (o:=0) (cap:=len) (by simp[Mu.push,r.h.n]) (cB _) (cB _)
   (λ_=>by rw[p7]) (by rw[p7];simp;omega)
  rw[p7]at this;exact this
 have dk:∀s b',cP (fr.put t (.v (.slice (J ⟨H.n,0,J es⟩) len len))) a.tmps s=J b'->s≠t/\cP fr a.tmps s=J b':=by
  intro s b' h;by_cases es:s=t
  ·subst es;simp[cP,kc]at h
  ·refine⟨es,?_⟩;simpa[cP,oW fr _ es]using h
 refine⟨_,da,⟨hR,λs=>?_,r.d,r.sz,λs s' b' h h'=>r.own s s' b' (dk _ _ h).2 (dk _ _ h').2,λs b' id k h hk=>?_,λs b' h=>r.l9 s b' (dk _ _ h).2,λid k hk bc=>?_,r.eb,r.grow,r.mU,λid k hk=>?_,r.mQ,Mu.le_trans r.le da,r.io⟩,hV⟩
 ·by_cases e':s=t
  ·subst e';unfold RF;simp only[kc];exact hV
  ·have hs:=(r.f s).mono da;unfold RF at hs⊢;rw[oW fr _ e'];split at hs
   ·exact hs
   ·exact hs
   ·exact hs
   ·exact hs
   ·rename_i s' o _;intro dF hc;by_cases e2:s'=t
    ·subst e2;rw[kc]at hc;cases hc
    ·rw[oW fr _ e2]at hc;exact hs dF hc
 ·obtain⟨hne,ho⟩:=dk _ _ h;simp only[AH.push]at hk;split at hk
  ·rename_i e1;subst e1;rw[p7];intro e2;have R7:b=b':=e2;subst R7;exact hne (r.own s t _ ho zw)
  ·rw[da.2 id (by rw[r.h.n];exact r.h.lt id k hk)];exact r.apart s b' id k ho hk
 ·simp only[AH.push]at hk;split at hk
  ·rename_i e1;subst e1;rw[p7];exact r.mU _ (r.l9 t b zw)
  ·rw[da.2 id (by rw[r.h.n];exact r.h.lt id k hk)];exact r.jG id k hk bc
 ·simp only[AH.push]at hk;split at hk
  ·rename_i e1;subst e1;rw[p7];exact r.mQ _ (r.l9 t b zw)
  ·rw[da.2 id (by rw[r.h.n];exact r.h.lt id k hk)];exact r.mE id k hk
def zvd(r:aX c m fr H a w)(ht:fr t=.loc cells):
 ∃m',m.le m'/\aX c m' (fr.put t (.v (.pointer (J ⟨H.n,0,ae⟩)))) (H.push ⟨Z,cells⟩) a w/\V m' (.pointer (J ⟨H.n,0,ae⟩)) (a.tmps.getD t undef):=by
 have hf:=r.f t;unfold RF at hf;rw[ht]at hf;obtain⟨b,cs,e,h1,h2,h3⟩:=hf;have zw:cP fr a.tmps t=J b:=by simp[cP,ht,h1]
 have da:=m.O7 ⟨b,0,cs.size⟩;have p7:=m.BB ⟨b,0,cs.size⟩;rw[r.h.n]at p7;have hlen:cells.length=cs.size:=by have:=h3.1;simpa using this
 have hR:gp (m.push ⟨b,0,cs.size⟩) (H.push ⟨Z,cells⟩) w:=
  r.h.push (cs:=cs) (e:=e) (fz:=(0,0)) h2 (by simp) (by simp[hlen]) (λ_=>rfl)
   (λi v hv=>by
     obtain⟨y,hy,hV⟩:=h3.get hv
     exact⟨y,by simpa using hy,hV⟩)
   (λid k hk _=>r.apart t b id k zw hk)
 have hV:V (m.push ⟨b,0,cs.size⟩) (.pointer (J ⟨H.n,0,ae⟩)) (a.tmps.getD t undef):=by
  rw[h1];have:=V.ptr (m:=m.push ⟨b,0,cs.size⟩) (id:=H.n) (off:=0) (by simp[Mu.push,r.h.n]);rw[p7]at this;exact this
 have dk:∀s b',cP (fr.put t (.v (.pointer (J ⟨H.n,0,ae⟩)))) a.tmps s=J b'->s≠t/\cP fr a.tmps s=J b':=by
  intro s b' h;by_cases es:s=t
  ·subst es;simp[cP,kc]at h
  ·refine⟨es,?_⟩;simpa[cP,oW fr _ es]using h
 refine⟨_,da,⟨hR,λs=>?_,r.d,r.sz,λs s' b' h h'=>r.own s s' b' (dk _ _ h).2 (dk _ _ h').2,λs b' id k h hk=>?_,λs b' h=>r.l9 s b' (dk _ _ h).2,λid k hk bc=>?_,r.eb,r.grow,r.mU,λid k hk=>?_,r.mQ,Mu.le_trans r.le da,r.io⟩,hV⟩
 ·by_cases e':s=t
  ·subst e';unfold RF;simp only[kc];exact hV
  ·have hs:=(r.f s).mono da;unfold RF at hs⊢;rw[oW fr _ e'];split at hs
   ·exact hs
   ·exact hs
   ·exact hs
   ·exact hs
   ·rename_i s' o _;intro dF hc;by_cases e2:s'=t
    ·subst e2;rw[kc]at hc;cases hc
    ·rw[oW fr _ e2]at hc;exact hs dF hc
 ·obtain⟨hne,ho⟩:=dk _ _ h;simp only[AH.push]at hk;split at hk
  ·rename_i e1;subst e1;rw[p7];intro e2;have R7:b=b':=e2;subst R7;exact hne (r.own s t _ ho zw)
  ·rw[da.2 id (by rw[r.h.n];exact r.h.lt id k hk)];exact r.apart s b' id k ho hk
 ·simp only[AH.push]at hk;split at hk
  ·rename_i e1;subst e1;rw[p7];exact r.mU _ (r.l9 t b zw)
  ·rw[da.2 id (by rw[r.h.n];exact r.h.lt id k hk)];exact r.jG id k hk bc
 ·simp only[AH.push]at hk;split at hk
  ·rename_i e1;subst e1;rw[p7];exact r.mQ _ (r.l9 t b zw)
  ·rw[da.2 id (by rw[r.h.n];exact r.h.lt id k hk)];exact r.mE id k hk
def zw1:∀{ts:List Nat}{m:Mu}{fr:FR}{H:AH}{ak:FR}{H':AH},aX c m fr H a w->oO ts fr H=J (ak,H')->∃m',aX c m' ak H' a w:=by
 intro ts;induction ts with
 |nil=>intro m fr H ak H' r h;simp only[oO,aT,cg]at h;obtain⟨rfl,rfl⟩:=h;exact⟨m,r⟩
 |cons t ts ih=>
  intro m fr H ak H' r h;simp only[oO]at h;split at h
  ·rename_i cells ht;obtain⟨m',_,r',_⟩:=zvd r ht;exact ih r' h
  ·cases h
def SQ(r:aX c m fr H a w){ak:FR}{H':AH}(h:bg fr H x=J (v,ak,H')):
 ∃m',m.le m'/\aX c m' ak H' a w/\V m' v (a.eval x):=by
 cases x with
 |tmp t=>
  simp only[bg]at h;split at h
  ·rename_i y hy;cases h;exact⟨m,m.le_refl,r,gx r (x:=.tmp t) (by simp[be,hy])⟩
  ·rename_i len es cells hy;cases h;exact zxB r hy
  ·cases h
 |const k=>
  simp only[bg,bP,cg]at h;obtain⟨y,h1,rfl,rfl,rfl⟩:=h;exact⟨m,m.le_refl,r,gx r h1⟩
 |func f=>
  simp only[bg,bP,cg]at h;obtain⟨y,h1,rfl,rfl,rfl⟩:=h;exact⟨m,m.le_refl,r,gx r h1⟩
 |global g=>simp[bg,be]at h
def Ux{xs:List Operand}:∀{m:Mu}{fr:FR}{H:AH},aX c m fr H a w->∀{vs:List Value}{ak:FR}{H':AH},cr fr H xs=J (vs,ak,H')->
 ∃m',m.le m'/\aX c m' ak H' a w/\Vl m' vs (xs.map a.eval):=by
 induction xs with
 |nil=>
  intro m fr H r vs ak H' h;simp only[cr,aT,cg]at h;obtain⟨rfl,rfl,rfl⟩:=h;exact⟨m,m.le_refl,r,.nil m⟩
 |cons x xs ih=>
  intro m fr H r vs ak H' h;simp only[cr]at h;split at h
  ·rename_i v fr1 H1 h1;split at h
   ·rename_i vs1 r1 h2;obtain⟨dN,H2⟩:=r1;cases h;obtain⟨m1,hm1,r1,hv⟩:=SQ r h1;obtain⟨m2,qO,r2,kI⟩:=ih r1 h2;exact⟨m2,Mu.le_trans hm1 qO,r2,.cons (hv.mono qO) kI⟩
   ·cases h
  ·cases h
def jN{t:TypeId}{g:Bool}{sz cG:Nat}{z:List Value}(h:cF P t=J (g,sz,cG,z)):
 ∃i zv,P.info? t=J i/\i.zero=J zv/\zv.cells.toList=z/\i.size=sz/\i.bytes=cG/\(isAgg t).run P w=.ok g w/\(sizeOf t).run P w=.ok sz w:=by
 unfold cF at h;split at h
 ·rename_i i d hi hd;simp only[bP,cg]at h;obtain⟨zv,hz,h1,h2,h3,h4⟩:=h;refine⟨i,zv,hi,hz,h4,h2,h3,?_,?_⟩
  ·subst h1;simp only[isAgg,underlying,Sem.run_bind,run_program,Result.andThen_ok,hd,Sem.run_pure];split<;>simp_all
  ·simp[sizeOf,typeInfo,hi,h2]
 ·cases h
def SV:∀{n:Nat}{xs l:List Value},uy n xs=J l->l=xs.take n/\n<=xs.length:=by
 intro n;induction n with
 |zero=>intro xs l h;simp[uy]at h;simp[h]
 |succ n ih=>
  intro xs l h;cases xs with
  |nil=>simp[uy]at h
  |cons x xs=>
   simp only[uy,bP]at h;obtain⟨l',h1,rfl⟩:=h;obtain⟨rfl,h2⟩:=ih h1;simp;omega
def HU:∀{cs xs:List Value}{n:Nat}{r:List Value},gq cs n xs=J r->xs=[]/\r=cs\/n+xs.length<=cs.length/\r=cs.take n++xs++cs.drop (n+xs.length):=by
 intro cs;induction cs with
 |nil=>
  intro xs n r h;cases xs with
  |nil=>simp[gq]at h;exact .inl ⟨rfl,h⟩
  |cons x xs=>simp[gq]at h
 |cons c cs ih=>
  intro xs n r h;cases xs with
  |nil=>simp[gq]at h;exact .inl ⟨rfl,h.symm⟩
  |cons x xs=>
   cases n with
   |zero=>
    simp only[gq,bP]at h;obtain⟨r',h1,rfl⟩:=h;rcases ih h1 with⟨rfl,rfl⟩|⟨h2,rfl⟩
    ·right;simp
    ·right;refine⟨by simp at h2⊢;omega,?_⟩;simp
   |succ n=>
    simp only[gq,bP]at h;obtain⟨r',h1,rfl⟩:=h;rcases ih h1 with⟨h2,_⟩|⟨h2,rfl⟩
    ·cases h2
    ·right;refine⟨by simp at h2⊢;omega,?_⟩;have e:n+1+(x::xs).length=(n+(x::xs).length)+1:=by omega
     rw[e,a5o];simp
def sR(m:Mu)(w:World)(cells:List Value)(b o:Nat):Prop:=∀(i:Nat) (v:Value),cells[i]? =J v->∃y,w.cell? ⟨b,o+i,ae⟩=J y/\V m v y
def vt(b o i:Nat):(⟨b,o,ae⟩:Addr).add i=⟨b,o+i,ae⟩:=by unfold Addr.add;split<;>simp_all
def sR.list(h:sR m w cells b o):∃ys,Vl m cells ys/\∀(j:Nat) (v:Value),ys[j]? =J v->w.cell? ((⟨b,o,ae⟩:Addr).add j)=J v:=by
 induction cells generalizing o with
 |nil=>exact⟨[],.nil m,λj v h=>by simp at h⟩
 |cons x xs ih=>
  obtain⟨y,hy,hv⟩:=h 0 x rfl
  obtain⟨ys,h1,h2⟩:=ih (o:=o+1) (λi v hi=>by
   have:=h (i+1) v (by simpa using hi)
   simpa[jc,Qb 1 i]using this)
  refine⟨y::ys,.cons hv h1,λj v hj=>?_⟩;cases j with
  |zero=>simp at hj;subst hj;rw[vt];simpa using hy
  |succ j=>have:=h2 j v (by simpa using hj);rw[vt]at this⊢;simpa[jc,Qb 1 j]using this
def sR.take(h:sR m w cells b o)(n:Nat):sR m w (cells.take n) b o:=λi v hi=>by
 rw[mu]at hi;split at hi
 ·exact h i v hi
 ·cases hi
def sR.drop(h:sR m w cells b o)(n:Nat):sR m w (cells.drop n) b (o+n):=λi v hi=>by
 rw[jw]at hi;have:=h _ v hi;simpa[jc]using this
def gp.row(r:gp m H w){id:Nat}{k:mD}(h:H.b id=J k):sR m w k.cells (m.f id).bu (m.f id).base:=λi v hi=>by
 obtain⟨cs,e,fz,h1,_,_,_,h6⟩:=r.cells id k h;obtain⟨y,hy,hv⟩:=h6 i v hi;exact⟨y,by simp[World.cell?,h1,hy],hv⟩
def Vh{cs:Array Value}{e:TypeId}{fz:Nat×Nat}(h:w.heap[b]? =J (.cells cs e fz))(hv:Vl m cells cs.toList):sR m w cells b 0:=λi v hi=>by
 obtain⟨y,hy,hV⟩:=hv.get hi;exact⟨y,by simp[World.cell?,h];simpa using hy,hV⟩
def ztJ{t:TypeId}(hl:nx P t (J cells)=J v)(hr:sR m w cells b o):
 ∃y,(loadVar t ⟨b,o,ae⟩).run P w=.ok y w/\V m v y:=by
 unfold nx at hl;split at hl
 ·rename_i sz bz cs ht hc;obtain⟨cG,z⟩:=bz;cases hc;simp only[bP]at hl;obtain⟨l,h1,rfl⟩:=hl;obtain⟨rfl,h2⟩:=SV h1;obtain⟨i,zv,hi,_,_,_,_,ha,hs⟩:=jN (w:=w) ht;obtain⟨ys,hv,hy⟩:=(hr.take sz).list;have hlen:ys.length=sz:=by rw[<-hv.1];simp;omega
  have hL:=run_loadCells_list (P:=P) w ⟨b,o,ae⟩ ys hy;rw[hlen]at hL;refine⟨.agg ys.toArray,?_,.agg (by simpa using hv.1) (by simpa using hv.2)⟩;simp only[loadVar,Sem.run_bind,ha,Result.andThen_ok,e9,hs,hL,Sem.run_pure]
 ·rename_i sz bz x xs ht hc;obtain⟨cG,z⟩:=bz;cases hc;cases hl;obtain⟨i,zv,hi,_,_,_,_,ha,hs⟩:=jN (w:=w) ht;obtain⟨y,hy,hv⟩:=hr 0 v rfl;refine⟨y,?_,hv⟩;simp only[rQ]at hy;simp only[loadVar,Sem.run_bind,ha,Result.andThen_ok,qH,my,run_load,hy]
 ·cases hl
def zqL(r:aX c m fr H a w)(h:mN fr H x=J cells):
 ∃b o,a.eval x=.pointer (J ⟨b,o,ae⟩)/\sR m w cells b o:=by
 unfold mN at h;split at h
 ·rename_i s off hx;split at h
  ·rename_i cs hs;cases h;obtain⟨fc,b,mW,h1,h2⟩:=sP r hx;have hf:=r.f s;unfold RF at hf;rw[hs]at hf;obtain⟨b',ca,e,k1,k2,k3⟩:=hf;rw[h1]at k1;cases k1;have:=(Vh k2 k3).drop off;simp only[gE]at this;exact⟨b,off,h2,this⟩
  ·cases h
 ·rename_i id off hx;have hv:=sP r hx;have Kj:V m (.pointer (J ⟨id,off,ae⟩)) (a.eval x):=hv;simp only[AH.load,bP]at h;obtain⟨k,hk,rfl⟩:=h;generalize a.eval x=y at Kj⊢;cases Kj with
  |ptr b9=>exact⟨_,_,rfl,(r.h.row hk).drop off⟩
 ·cases h
end
end Go.Am
