import Derived.Test.YtplemekcclpaoaaGreatDoorPmW
import Derived.ChangeSlices
import Derived.ChangeArms
import Derived.DataReads
import Derived.RowKit3
namespace Go.Am
variable{H:AH}{b:Blk}
theorem zrp(hw:WFH H):Ext H (H.push b):=⟨Nat.le_succ _,fun id k hk=>by
 have:=hw id k hk;simp only[AH.push]
 rw[if_neg (by omega)];exact hk⟩
theorem zzK(h:WFH H):WFH (H.push b):=by
 intro id k hk;simp only[AH.push]at hk⊢;split at hk
 ·omega
 ·have:=h id k hk;omega
theorem zvP :(H.push b).b H.n=some b:=by simp[AH.push]
theorem zrZ{es:Nat}:∀{ess:List (List Value)}(_:∀e,e∈ess→e.length=es) (i:Nat),ess.flatten.drop (i*es)=(ess.drop i).flatten:=by
 intro ess;induction ess with
 |nil=>intro _ i;simp
 |cons a l ih=>
  intro h i;cases i with
  |zero=>simp
  |succ i=>
   have ha:=h a (List.mem_cons_self ..)
   rw[List.flatten_cons,Nat.succ_mul,Nat.add_comm,List.drop_append,List.drop_eq_nil_of_le (by omega),List.nil_append,List.drop_succ_cons,
    ←ih (fun e he=>h e (List.mem_cons_of_mem _ he))]
   congr 1;omega
theorem zkh{es:Nat}:∀{ess:List (List Value)}(_:∀e,e∈ess→e.length=es),ess.flatten.length=ess.length*es:=by
 intro ess;induction ess with
 |nil=>intro _;simp
 |cons a l ih=>
  intro h;rw[List.flatten_cons,List.length_append,h a (List.mem_cons_self ..),ih (fun e he=>h e (List.mem_cons_of_mem _ he)),List.length_cons,Nat.succ_mul];omega
def RO(H:AH):Prop:=∀id k,H.b id=some k→k.rw=false
theorem RO.push{as:List Value}(h:RO H):RO (H.push ⟨false,as⟩):=by
 intro id k hk;simp only[AH.push]at hk;split at hk
 ·cases hk;rfl
 ·exact h id k hk
def Mu.put(m:Mu)(l:Loc):Mu:=⟨m.n+1,fun i=>if i=m.n then l else m.f i⟩
theorem Mu.le_put(m:Mu)(l:Loc):m.le (m.put l):=⟨Nat.le_succ _,fun i hi=>by simp only[Mu.put];rw[if_neg (by omega)]⟩
theorem zzg{m:Mu}{w:World}{blk off size:Nat}{as:List Value}{cs:Array Value}{e:TypeId}{fz:Nat×Nat}(r:RelH m H w)(hro:RO H)(hb:w.heap[blk]? =some (.cells cs e fz))(hsz:off+size≤cs.size)
(hl:as.length≤size)(hv:∀i v,as[i]? =some v→∃c,cs[off+i]? =some c∧V m v c):RelH (m.put ⟨blk,off,size⟩) (H.push ⟨false,as⟩) w:=by
 have hle:=m.le_put ⟨blk,off,size⟩;refine⟨by simp only[Mu.put,AH.push];rw[r.n],fun id k hk=>zzK r.lt id k hk,fun id k hk=>?_,fun i j bi bj hi hj hne hrw=>?_⟩
 ·simp only[AH.push]at hk;split at hk
  ·rename_i e1;cases hk;have:((m.put ⟨blk,off,size⟩).f id)=⟨blk,off,size⟩:=by simp only[Mu.put];rw[if_pos (by rw[r.n,e1])]
   rw[this];refine⟨cs,e,fz,hb,hsz,hl,fun h=>(by cases h),fun i v hi=>?_⟩;obtain⟨c,h1,h2⟩:=hv i v hi;exact⟨c,h1,h2.mono hle⟩
  ·have hlt:=r.lt id k hk;have:((m.put ⟨blk,off,size⟩).f id)=m.f id:=hle.2 id (by rw[r.n];exact hlt);rw[this];obtain⟨cs',e',fz',h1,h2,h3,h4,h5⟩:=r.cells id k hk;exact⟨cs',e',fz',h1,h2,h3,h4,fun i v hi=>by obtain⟨c,a,b⟩:=h5 i v hi;exact⟨c,a,b.mono hle⟩⟩
 ·have:=hro.push (as:=as) i bi hi;rw[this]at hrw;cases hrw
section
variable {P:Program}{X:Type}{enc:TypeId×Value→X}{W:World}
def zgY(X:Type)(enc:TypeId×Value→X)(P:Program)(W:World)(t:TypeId)(α:Type)(R:AH→List Value→α→DataW X→Prop):Prop:=
 ∀{m:Mu}{H:AH}{fuel:Nat}{cs:List Value}{x:DataW X×List MemPlace},RelH m H W→RO H→DataW.trod enc P W 0 (fun _=>true) true fuel t cs=some x→
  ∃m' H' as a,RelH m' H' W∧RO H'∧m.le m'∧Ext H H'∧Vl m' as cs∧R H' as a x.1
theorem zk0{w:World}{a:Addr}{v:Value}(h:w.cell? a=some v):∃cs e fz,w.heap[a.block]? =some (.cells cs e fz)∧a.spot=none∧cs[a.off]? =some v:=by
 unfold World.cell? at h;split at h
 ·rename_i cs e fz hb;split at h
  ·cases h
  ·rename_i hs;exact⟨cs,e,fz,hb,by simpa using hs,h⟩
 ·cases h
theorem zhO(a:Addr)(n:Nat):(a.add n).off=a.off+n∧(a.add n).block=a.block:=by
 unfold Addr.add;split
 ·rename_i h;subst h;exact⟨rfl,rfl⟩
 ·exact⟨rfl,rfl⟩
structure SlR {α:Type}(R:AH→List Value→α→DataW X→Prop) (H:AH) (es:Nat) (p:Option Addr) (c:Nat) (ess:List (List Value)) (L:List α) (D:List (DataW X)):Prop where
 s:(p=none∧c=0)∨∃id k,p=some ⟨id,0,some es⟩∧L.length≤c∧H.b id=some k∧k.cells=ess.flatten
 z:p=none→L=[]
 es:∀e,e∈ess→e.length=es
 l:ess.length=L.length
 d:D.length=L.length
 e:∀(i:Nat) (y:List Value) (a:α),ess[i]? =some y→L[i]? =some a→∃d,D[i]? =some d∧R H y a d
theorem zsW{t e:TypeId}{es:Nat}{α:Type}{R:AH→List Value→α→DataW X→Prop}(ht:P.underlying t=some (.slice e))(hc:P.cellsOf e=es)(h0:0<es)
(hmono:∀H H' y a d,R H y a d→Ext H H'→R H' y a d)(hr:zgY X enc P W e α R):
 ∀{m:Mu}{H:AH}{fuel:Nat}{cs:List Value}{x:DataW X×List MemPlace},RelH m H W→RO H→DataW.trod enc P W 0 (fun _=>true) true fuel t cs=some x→
 ∃m' H' p c ess L D,RelH m' H' W∧RO H'∧m.le m'∧Ext H H'∧Vl m' [.slice p L.length c] cs∧SlR R H' es p c ess L D∧(x.1=.nil∧D=[]∨∃sp,x.1=.slice D sp):=by
 intro m H fuel cs x r hro h;rcases DataW.trod_slice ht h with⟨rfl,rfl⟩|⟨a,len,cap,elems,rest,n,rfl,rfl,rfl,hb,hlc,hmx,hlen,hel,hsp,_⟩
 ·refine⟨m,H,none,0,[],[],[],r,hro,m.le_refl,.refl H,.cons (.nils none) (.nil m),⟨.inl ⟨rfl,rfl⟩,fun _=>rfl,fun _ h=>(by cases h),rfl,rfl,fun i y a h=>(by simp at h)⟩,.inl ⟨rfl,rfl⟩⟩
 ·obtain⟨hrl,hrest⟩:=hsp rfl;rw[hc]at hel hrest;by_cases hcap:cap=0
  ·subst hcap;have:len=0:=by omega
   subst this;have:elems=[]:=List.eq_nil_of_length_eq_zero hlen;subst this;refine⟨m,H,none,0,[],[],[],r,hro,m.le_refl,.refl H,.cons (.nils _) (.nil m),⟨.inl ⟨rfl,rfl⟩,fun _=>rfl,fun _ h=>(by cases h),rfl,rfl,fun i y a h=>(by simp at h)⟩,.inr ⟨_,rfl⟩⟩
  ·
   have hlast:∃cs',W.cells? 0 (a.add ((cap-1)*es)) es=some cs':=by
    by_cases hll:len=cap
    ·have:=hel (cap-1) (by omega);have hlt:cap-1<elems.length:=by omega
     rw[List.getElem?_eq_getElem hlt]at this;obtain⟨cs',h1,_⟩:=Option.bind_eq_some_iff.1 this;exact⟨cs',h1⟩
    ·have:=hrest (cap-1-len) (by omega);have hlt:cap-1-len<rest.length:=by omega
     rw[List.getElem?_eq_getElem hlt]at this;obtain⟨cs',h1,_⟩:=Option.bind_eq_some_iff.1 this;rw[show len+(cap-1-len)=cap-1 by omega]at h1;exact⟨cs',h1⟩
   obtain⟨cl,hcl⟩:=hlast;have hcl':=(World.cells?_some hcl)
   have hlc1:es-1<cl.length:=by omega
   have hc1:=hcl'.2.2 (es-1) (by omega);rw[List.getElem?_eq_getElem hlc1]at hc1;obtain⟨blkc,ety,fz,hblk,_,hlastc⟩:=zk0 hc1;rw[(zhO _ _).2,(zhO _ _).2]at hblk;rw[(zhO _ _).1,(zhO _ _).1]at hlastc
   have hmul:(cap-1)*es+es=cap*es:=by
    rw[←Nat.succ_mul];congr 1;omega
   have hsz:a.off+cap*es≤blkc.size:=by
    have:=(Array.getElem?_eq_some_iff.1 hlastc).1;omega
   have build:∀i,i≤len→∃(m':Mu) (H':AH) (ess:List (List Value)) (L:List α),RelH m' H' W∧RO H'∧m.le m'∧Ext H H'∧ess.length=i∧L.length=i∧
    (∀(j:Nat) (y:List Value) (b:α),ess[j]? =some y→L[j]? =some b→∃d,(elems.map (·.1))[j]? =some d∧R H' y b d)∧
    (∀(j:Nat) (y:List Value),ess[j]? =some y→y.length=es∧∀(q:Nat) (v:Value),y[q]? =some v→∃c,blkc[a.off+(j*es+q)]? =some c∧V m' v c):=by
    intro i;induction i with
    |zero=>intro _;exact⟨m,H,[],[],r,hro,m.le_refl,.refl H,rfl,rfl,fun j y b h=>(by simp at h),fun j y h=>(by simp at h)⟩
    |succ i ih=>
     intro hi;obtain⟨m1,H1,ess,L,r1,ro1,le1,ext1,l1,l2,hR,hV⟩:=ih (by omega);have he:=hel i (by omega);have hlt:i<elems.length:=by omega
     rw[List.getElem?_eq_getElem hlt]at he;obtain⟨ci,hci,htr⟩:=Option.bind_eq_some_iff.1 he;obtain⟨m2,H2,as,b,r2,ro2,le2,ext2,hVl,hRb⟩:=hr r1 ro1 htr;have hci':=World.cells?_some hci;have hasl:as.length=es:=by rw[hVl.1];exact hci'.2.1
     refine⟨m2,H2,ess++[as],L++[b],r2,ro2,Mu.le_trans le1 le2,ext1.trans ext2,by simp[l1],by simp[l2],fun j y c hy hb=>?_,fun j y hy=>?_⟩
     ·by_cases hj:j<i
      ·rw[List.getElem?_append_left (by omega)]at hy hb;obtain⟨d,hd1,hd2⟩:=hR j y c hy hb;exact⟨d,hd1,hmono _ _ _ _ _ hd2 ext2⟩
      ·rw[List.getElem?_append_right (by omega)]at hy hb
       have hj0:j-ess.length=0:=by
        have:=(List.getElem?_eq_some_iff.1 hy).1;simp at this;omega
       have hj1:j-L.length=0:=by omega
       rw[hj0]at hy;rw[hj1]at hb;simp at hy hb;subst hy;subst hb;have hji:j=i:=by omega
       refine⟨_,?_,hRb⟩;rw[hji,List.getElem?_map,List.getElem?_eq_getElem hlt];rfl
     ·by_cases hj:j<i
      ·rw[List.getElem?_append_left (by omega)]at hy;obtain⟨h1,h2⟩:=hV j y hy;exact⟨h1,fun q v hq=>by obtain⟨c,h3,h4⟩:=h2 q v hq;exact⟨c,h3,h4.mono le2⟩⟩
      ·rw[List.getElem?_append_right (by omega)]at hy
       have hj0:j-ess.length=0:=by
        have:=(List.getElem?_eq_some_iff.1 hy).1;simp at this;omega
       rw[hj0]at hy;simp at hy;subst hy;have hji:j=i:=by omega
       subst hji;refine⟨hasl,fun q v hq=>?_⟩;obtain⟨c,hc1,hc2⟩:=hVl.get hq;have hql:q<es:=by have:=(List.getElem?_eq_some_iff.1 hq).1;omega
       have:=hci'.2.2 q hql;rw[hc1]at this;obtain⟨b1,b2,b3,hb1,_,hb3⟩:=zk0 this;rw[(zhO _ _).2,(zhO _ _).2,hblk]at hb1;cases hb1;rw[(zhO _ _).1,(zhO _ _).1]at hb3;exact⟨c,by rw[←hb3];congr 1;omega,hc2⟩
   obtain⟨m1,H1,ess,L,r1,ro1,le1,ext1,l1,l2,hR,hV⟩:=build len (Nat.le_refl _)
   have hess:∀y,y∈ess→y.length=es:=by
    intro y hy;obtain⟨j,hj⟩:=List.getElem?_of_mem hy;exact(hV j y hj).1
   have hfl:ess.flatten.length≤cap*es:=by
    rw[zkh hess,l1];exact Nat.mul_le_mul_right _ hlc
   have r2:=zzg (as:=ess.flatten) r1 ro1 hblk hsz hfl (by
    intro i v hi;have hil:i<ess.flatten.length:=(List.getElem?_eq_some_iff.1 hi).1;rw[zkh hess]at hil;have hje:i/es<ess.length:=Nat.div_lt_of_lt_mul (by rw[Nat.mul_comm];exact hil);have hdm:i=(i/es)*es+i%es:=by rw[Nat.mul_comm];exact(Nat.div_add_mod i es).symm
    have hq:i%es<es:=Nat.mod_lt _ h0;have hd:=zrZ hess (i/es);have hi2:(ess.flatten.drop (i/es*es))[i%es]? =some v:=by rw[List.getElem?_drop,←hdm];exact hi
    rw[hd,List.drop_eq_getElem_cons hje,List.flatten_cons]at hi2;have hyl:=hess _ (List.getElem_mem hje);rw[List.getElem?_append_left (by omega)]at hi2;obtain⟨c,h1,h2⟩:=(hV (i/es) _ (List.getElem?_eq_getElem hje)).2 (i%es) v hi2
    exact⟨c,by rw[hdm];exact h1,h2⟩)
   have hput:(m1.put ⟨a.block,a.off,cap*es⟩).f m1.n=⟨a.block,a.off,cap*es⟩:=by simp[Mu.put]
   have haspot:a=⟨a.block,a.off,none⟩:=by
    have hfirst:∃cs',W.cells? 0 (a.add (0*es)) es=some cs':=by
     by_cases hll:len=0
     ·have:=hrest 0 (by omega);have hlt:0<rest.length:=by omega
      rw[List.getElem?_eq_getElem hlt]at this;obtain⟨cs',h1,_⟩:=Option.bind_eq_some_iff.1 this;rw[show len+0=0 by omega]at h1;exact⟨cs',h1⟩
     ·have:=hel 0 (by omega);have hlt:0<elems.length:=by omega
      rw[List.getElem?_eq_getElem hlt]at this;obtain⟨cs',h1,_⟩:=Option.bind_eq_some_iff.1 this;exact⟨cs',h1⟩
    obtain⟨cf,hcf⟩:=hfirst;have hcf':=World.cells?_some hcf;have h3:=hcf'.2.2 0 h0;have h4:0<cf.length:=by omega
    rw[List.getElem?_eq_getElem h4]at h3;have e0:(a.add (0*es)).add 0=a:=by simp[Addr.add]
    rw[e0]at h3;obtain⟨_,_,_,_,hs,_⟩:=zk0 h3;obtain⟨b1,b2,b3⟩:=a;simp at hs;subst hs;rfl
   refine⟨_,_,some ⟨H1.n,0,some es⟩,len,ess,L,elems.map (·.1),r2,ro1.push,Mu.le_trans le1 (Mu.le_put _ _),ext1.trans (zrp r1.lt),.cons ?_ (.nil _),⟨.inr ⟨H1.n,⟨false,ess.flatten⟩,rfl,by omega,zvP,rfl⟩,fun h=>(by cases h),hess,by rw[l1,l2],by simp[l2,hlen],fun j y b hy hb=>?_⟩,.inr ⟨_,rfl⟩⟩
   ·have:=V.slice (m:=m1.put ⟨a.block,a.off,cap*es⟩) (id:=m1.n) (off:=0) (es:=es) (n:=L.length) (c:=len) (o:=a.off) (cap:=cap) (by simp[Mu.put]) (by omega) hlc (fun _=>by rw[hput];rfl) (by rw[hput];simp);rw[hput]at this;rw[←r1.n,haspot];rw[l2]at this⊢;exact this
   ·obtain⟨d,h1,h2⟩:=hR j y b hy hb;exact⟨d,h1,hmono _ _ _ _ _ h2 (zrp r1.lt)⟩
theorem zlE{m:Mu}{H:AH}{w':World}(hro:RO H)(hk:zoh m H W w'):∀b,b<W.heap.size→w'.heap[b]? =W.heap[b]? :=
 fun b hb=>hk.2.1 b hb fun id k hi hrw=>by rw[hro id k hi]at hrw;cases hrw
theorem zqp{m:Mu}{H:AH}{w':World}(hro:RO H)(hk:zoh m H W w'):W.keptBut w' (fun _=>False):=by
 have hs:=zlE hro hk;refine⟨hk.2.2.os.1,hk.2.2.os.2,fun i hi=>?_⟩;rw[hs i hi];split
 ·exact⟨by simp_all,by simp_all,by simp_all,fun j _=>by simp_all⟩
 ·rename_i h1 h2;rw[h1]at h2;cases h2;exact .inr ⟨rfl,rfl⟩
 ·rfl
theorem zyv:RelH ⟨0,fun _=>⟨0,0,0⟩⟩ ⟨0,fun _=>none⟩ W:=
 ⟨rfl,fun _ _ h=>(by cases h),fun _ _ h=>(by cases h),fun _ _ _ _ h=>(by cases h)⟩
theorem zz3:RO ⟨0,fun _=>none⟩:=fun _ _ h=>(by cases h)
end
end Go.Am
namespace Go.Pm
open Go.Am
structure Shp (α:Type) where
 pc:α→List PV
 bk:α→Nat
 ok:α→Prop
def Shp.int(k:IntKind):Shp Int:=⟨fun n=>[.int k n],fun _=>1,fun n=>(Lit.int k n).wf=true⟩
def Shp.bool:Shp Bool:=⟨fun n=>[.bool n],fun _=>1,fun _=>True⟩
def Shp.str:Shp ByteArray:=⟨fun n=>[.str n],fun s=>s.size+1,fun _=>True⟩
def zdR:List Nat→Nat
 |[]=>0
 |x::l=>x+zdR l
def Shp.sl{α:Type}(es:Nat)(s:Shp α):Shp (List α):=⟨fun l=>[.sl false es (l.map s.pc)],fun l=>1+zdR (l.map s.bk),fun l=>∀x,x∈l→s.ok x⟩
variable{H:AH}
theorem ztm{α:Type}{f:α→Nat}{L:List α}{a:α}(h:a∈L):f a≤zdR (L.map f):=by
 induction L with
 |nil=>cases h
 |cons x L ih=>
  simp only[List.map_cons,zdR];cases List.mem_cons.1 h with
  |inl e=>subst e;omega
  |inr e=>have:=ih e;omega
theorem zpw{α:Type}{f:α→Nat}(hf:∀a,1≤f a)(L:List α):L.length≤zdR (L.map f):=by
 induction L with
 |nil=>exact Nat.zero_le _
 |cons x L ih=>have:=hf x;simp only[List.map_cons,zdR,List.length_cons];omega
def Shp.nil:Shp Unit:=⟨fun _=>[],fun _=>0,fun _=>True⟩
def Shp.cons{α β:Type}(a:Shp α)(b:Shp β):Shp (α×β):=⟨fun x=>a.pc x.1++b.pc x.2,fun x=>a.bk x.1+b.bk x.2,fun x=>a.ok x.1∧b.ok x.2⟩
def Shp.st{α β:Type}(a:Shp α)(f:β→α):Shp β:=⟨fun x=>a.pc (f x),fun x=>1+a.bk (f x),fun x=>a.ok (f x)⟩
def frz(H:AH):Env:=⟨H,fun id=>(H.b id).isSome=true,fun _=>none⟩
theorem zAB(h:WFH H):EnvOK (frz H):=⟨h,fun id hid=>⟨rfl,fun hg=>by
 cases hb:H.b id with
 |none=>simp[frz,hb]at hg
 |some k=>
  have:=h id k hb;have hid:H.n≤id:=hid
  omega⟩⟩
theorem zAO{H':AH}(h:Ext H H'):GK (frz H) (frz H'):=fun id hg=>by
 cases hb:H.b id with
 |none=>simp[frz,hb]at hg
 |some k=>
  refine⟨by simp[frz,h.2 id k hb],fun k' hk'=>⟨k',?_,rfl⟩⟩;exact h.2 id k' hk'
theorem znP{H':AH}(h:Ext H H'){x:PV}{v:Value}(hx:PR (frz H) none x v):PR (frz H') none x v:=hx.move (zAO h) (l':=none) True.intro
section
variable {P:Program}{X:Type}{enc:TypeId×Value→X}{W:World}{α β:Type}
def CR(s:Shp α)(ub:DataW X→Nat)(H:AH)(as:List Value)(a:α)(d:DataW X):Prop:=
 (as.length=(s.pc a).length∧(s.bk a≤4611686018427387904→∀(j:Nat) (x:PV) (y:Value),(s.pc a)[j]? =some x→as[j]? =some y→PR (frz H) none x y))∧s.ok a∧s.bk a≤ub d
variable{t:TypeId}
theorem CR.mono{s:Shp α}{ub:DataW X→Nat}(H H':AH)(y:List Value)(a:α)(d:DataW X)(h:CR s ub H y a d)(he:Ext H H'):CR s ub H' y a d:=
 ⟨⟨h.1.1,fun hb j x y h1 h2=>znP he (h.1.2 hb j x y h1 h2)⟩,h.2⟩
structure Ub (ub:DataW X→Nat):Prop where
 one:∀d,1≤ub d
 sl:∀D sp,1+zdR (D.map ub)≤ub (.slice D sp)
 agg:∀D,1+zdR (D.map ub)≤ub (.agg D)
 str:∀(s:List UInt8),s.length+1≤ub (.lit (.string s))
variable {ub:DataW X→Nat}
theorem zkp{k:IntKind}(hu:Ub ub)(ht:P.underlying t=some (.int k)):zgY X enc P W t Int (CR (Shp.int k) ub):=by
 intro m H fuel cs x r hro h;obtain⟨n,rfl,rfl,hw⟩:=DataW.trod_int ht h;refine⟨m,H,[.int k n],n,r,hro,m.le_refl,.refl H,.cons (.int k n) (.nil m),⟨rfl,fun _ j x y h1 h2=>?_⟩,hw,hu.one _⟩;cases j with
 |zero=>simp[Shp.int]at h1 h2;subst h1;subst h2;exact .int k n
 |succ j=>simp[Shp.int]at h1
theorem zA4{s:Shp α}{L:List α}{D:List (DataW X)}(hl:D.length=L.length)(h:∀(i:Nat) (a:α),L[i]? =some a→∃d,D[i]? =some d∧s.bk a≤ub d):zdR (L.map s.bk)≤zdR (D.map ub):=by
 induction L generalizing D with
 |nil=>exact Nat.zero_le _
 |cons a L ih=>
  cases D with
  |nil=>simp at hl
  |cons d D=>
   obtain⟨d',h1,h2⟩:=h 0 a rfl;simp at h1;subst h1
   have:=ih (D:=D) (by simpa using hl) fun i b hb=>by
    obtain⟨d',h1,h2⟩:=h (i+1) b (by simpa using hb);exact⟨d',by simpa using h1,h2⟩
   simp only[List.map_cons,zdR];omega
theorem zy1{e:TypeId}{es:Nat}{s:Shp α}(hu:Ub ub)(ht:P.underlying t=some (.slice e))(hc:P.cellsOf e=es)(h0:0<es)(hs:∀a,(s.pc a).length=es)(hb1:∀a,1≤s.bk a)(hr:zgY X enc P W e α (CR s ub)):zgY X enc P W t (List α) (CR (Shp.sl es s) ub):=by
 intro m H fuel cs x r hro h;obtain⟨m1,H1,p,c,ess,L,D,r1,ro1,le1,ext1,hv1,hS,hd⟩:=zsW ht hc h0 CR.mono hr r hro h;refine⟨m1,H1,_,L,r1,ro1,le1,ext1,hv1,⟨rfl,fun hbk j x y h1 h2=>?_⟩,fun a ha=>?_,?_⟩
 ·cases j with
  |succ j=>simp[Shp.sl]at h1
  |zero=>
   simp only[Shp.sl,List.getElem?_cons_zero,Option.some.injEq]at h1 h2;subst h1;subst h2;have hbk:1+zdR (L.map s.bk)≤4611686018427387904:=hbk;have hlm:L.length≤zcx:=by have:=zpw hb1 L;unfold zcx;omega
   rcases hS.s with⟨rfl,rfl⟩|⟨id,k,rfl,hlc,hb,hcs⟩
   ·have:=hS.z rfl;subst this;exact .sl0 false es
   ·refine .slS (off:=0) (k:=k) (by simp[frz,hb]) hb (by simp) hlc hlm (fun rw hrw=>?_) ⟨by omega,?_⟩ fun i rw j x y g1 g2 g3=>?_
    ·obtain⟨a,_,rfl⟩:=List.mem_map.1 hrw;exact hs a
    ·rw[hcs,zkh hS.es,hS.l];omega
    ·rw[List.getElem?_map]at g1;cases ha:L[i]? with
     |none=>rw[ha]at g1;cases g1
     |some a=>
      rw[ha]at g1;simp only[Option.map_some,Option.some.injEq]at g1;subst g1;have hi:i<ess.length:=by rw[hS.l];exact(List.getElem?_eq_some_iff.1 ha).1
      obtain⟨d,_,hR⟩:=hS.e i _ a (List.getElem?_eq_getElem hi) ha;have hj:j<es:=by rw[←hs a];exact(List.getElem?_eq_some_iff.1 g2).1
      rw[Nat.zero_add,hcs,zlr hS.es (List.getElem?_eq_getElem hi) hj]at g3;exact hR.1.2 (by have:=ztm (f:=s.bk) (List.mem_of_getElem? ha);omega) j x y g2 g3
 ·obtain⟨i,hi⟩:=List.getElem?_of_mem ha;have hlt:i<ess.length:=by rw[hS.l];exact(List.getElem?_eq_some_iff.1 hi).1
  obtain⟨d,_,hR⟩:=hS.e i _ a (List.getElem?_eq_getElem hlt) hi;exact hR.2.1
 ·rcases hd with⟨e1,e2⟩|⟨sp,e1⟩
  ·have hD:=hS.d;subst e2;have:L=[]:=List.eq_nil_of_length_eq_zero (by simpa using hD.symm);subst this;exact hu.one _
  ·rw[e1];have h1:=hu.sl D sp
   have h2:=zA4 (s:=s) (ub:=ub) (L:=L) (D:=D) hS.d fun i a ha=>by
    have hlt:i<ess.length:=by rw[hS.l];exact(List.getElem?_eq_some_iff.1 ha).1
    obtain⟨d,h1,hR⟩:=hS.e i _ a (List.getElem?_eq_getElem hlt) ha;exact⟨d,h1,hR.2.2⟩
   show 1+zdR (L.map s.bk)≤_;omega
def znE(X:Type)(enc:TypeId×Value→X)(P:Program)(W:World)(fuel:Nat):List (TypeId×Nat)→List Value→List (DataW X×List MemPlace)→Prop
 |[],cs,xs=>cs=[]∧xs=[]
 |f::fs,cs,xs=>∃x xs',xs=x::xs'∧(cs.take f.2).length=f.2∧DataW.trod enc P W 0 (fun _=>true) true fuel f.1 (cs.take f.2)=some x∧znE X enc P W fuel fs (cs.drop f.2) xs'
def zoN(X:Type)(enc:TypeId×Value→X)(P:Program)(W:World)(fs:List (TypeId×Nat))(α:Type)(s:Shp α)(ub:DataW X→Nat):Prop:=
 ∀{m:Mu}{H:AH}{fuel:Nat}{cs:List Value}{xs:List (DataW X×List MemPlace)},RelH m H W→RO H→znE X enc P W fuel fs cs xs→
  ∃m' H' as a,RelH m' H' W∧RO H'∧m.le m'∧Ext H H'∧Vl m' as cs∧(as.length=(s.pc a).length∧(s.bk a≤4611686018427387904→∀(j:Nat) (x:PV) (y:Value),(s.pc a)[j]? =some x→as[j]? =some y→PR (frz H') none x y))∧s.ok a∧s.bk a≤zdR (xs.map fun x=>ub x.1)
theorem zoo:zoN X enc P W [] Unit Shp.nil ub:=by
 intro m H fuel cs xs r hro h;obtain⟨rfl,rfl⟩:=h;exact⟨m,H,[],(),r,hro,m.le_refl,.refl H,.nil m,⟨rfl,fun _ j x y h1=>by simp[Shp.nil]at h1⟩,True.intro,Nat.le_refl _⟩
theorem zw8{m:Mu}{as bs cs ds:List Value}(h1:Vl m as cs)(h2:Vl m bs ds):Vl m (as++bs) (cs++ds):=by
 refine⟨by simp[h1.1,h2.1],fun i x y hx hy=>?_⟩;have hl:=h1.1;rcases Nat.lt_or_ge i as.length with h|h
 ·rw[List.getElem?_append_left h]at hx;rw[List.getElem?_append_left (by omega)]at hy;exact h1.2 i x y hx hy
 ·rw[List.getElem?_append_right h]at hx;rw[List.getElem?_append_right (by omega),←hl]at hy;exact h2.2 _ x y hx hy
theorem zzC{m m':Mu}(hm:m.le m'){as cs:List Value}(h:Vl m as cs):Vl m' as cs:=⟨h.1,fun i x y a b=>(h.2 i x y a b).mono hm⟩
theorem zfh{f:TypeId×Nat}{fs:List (TypeId×Nat)}{a:Shp α}{b:Shp β}(h1:zgY X enc P W f.1 α (CR a ub))(h2:zoN X enc P W fs β b ub):zoN X enc P W (f::fs) (α×β) (Shp.cons a b) ub:=by
 intro m H fuel cs xs r hro h;obtain⟨x,xs',rfl,hl,ht,hf⟩:=h;obtain⟨m1,H1,as1,x1,r1,ro1,le1,e1,v1,c1⟩:=h1 r hro ht;obtain⟨m2,H2,as2,x2,r2,ro2,le2,e2,v2,c2⟩:=h2 r1 ro1 hf;refine⟨m2,H2,as1++as2,(x1,x2),r2,ro2,Mu.le_trans le1 le2,e1.trans e2,?_,⟨?_,fun hbk j x y g1 g2=>?_⟩,⟨c1.2.1,c2.2.1⟩,?_⟩
 ·have:=zw8 (zzC le2 v1) v2
  rwa [List.take_append_drop]at this
 ·simp[Shp.cons,c1.1.1,c2.1.1]
 ·simp only[Shp.cons]at g1 hbk;rcases Nat.lt_or_ge j as1.length with h|h
  ·rw[List.getElem?_append_left h]at g2;rw[List.getElem?_append_left (by rw[←c1.1.1];exact h)]at g1;exact znP e2 (c1.1.2 (by omega) j x y g1 g2)
  ·rw[List.getElem?_append_right h]at g2;rw[List.getElem?_append_right (by rw[←c1.1.1];exact h),←c1.1.1]at g1;exact c2.1.2 (by omega) _ x y g1 g2
 ·have:=c1.2.2;have:=c2.2.2;simp only[Shp.cons,List.map_cons,zdR];omega
theorem zqS{fs:List (TypeId×Nat)}{a:Shp α}{f:β→α}(g:α→β)(hg:∀x,f (g x)=x)(hu:Ub ub)(h1:zoN X enc P W fs α a ub)
(hd:∀{fuel:Nat}{cs:List Value}{x:DataW X×List MemPlace},DataW.trod enc P W 0 (fun _=>true) true fuel t cs=some x→∃(fuel':Nat) (xs:List (DataW X×List MemPlace)),x.1=.agg (xs.map (·.1))∧znE X enc P W fuel' fs cs xs):
 zgY X enc P W t β (CR (Shp.st a f) ub):=by
 intro m H fuel cs x r hro h;obtain⟨fuel',xs,hx,hf⟩:=hd h;obtain⟨m1,H1,as1,x1,r1,ro1,le1,e1,v1,c1⟩:=h1 r hro hf;refine⟨m1,H1,as1,g x1,r1,ro1,le1,e1,v1,⟨?_,?_⟩,?_,?_⟩
 ·simpa[Shp.st,hg]using c1.1.1
 ·intro hbk;have hbk:1+a.bk (f (g x1))≤4611686018427387904:=hbk;rw[hg]at hbk;simpa[Shp.st,hg]using c1.1.2 (by omega)
 ·simpa[Shp.st,hg]using c1.2.1
 ·have h3:=c1.2.2;have h4:=hu.agg (xs.map (·.1));rw[hx];rw[List.map_map]at h4;show 1+a.bk (f (g x1))≤_;rw[hg];have e:(ub∘fun x:DataW X×List MemPlace=>x.1)=fun x=>ub x.1:=rfl
  rw[e]at h4;omega
end
end Go.Pm
