import Derived.Test.YtjnidpmkglobfaaGreatAmH
open Bool renaming false→Z,true→O
open Option renaming none→aa,some→J
set_option linter.defProp false
namespace Go.Am
def eL:=@List.getElem_mem
def Qu:=@List.getElem_of_mem
section
variable {c:rV}{m:Mu}{Y:FR}{H:AH}{a:Act}{w:World}{P:Program}{K:FR->AH->Prop}{next:Act->World->Prop}
variable{Q:Exit->Act->World->Prop}{o:Oper}{t:TypeId}{x:Operand}
def Gr{b d:List Value}(h:Vl m b d)(g:b.all l8=O):∀y∈d,y.oneCell'=O:=by
 intro y j;obtain⟨i,e,rfl⟩:=Qu j;have f:i<b.length:=by rw[h.1];exact e
 exact(h.2 i b[i] d[i] (cI f) (cI e)).a3I (bc.1 g _ (eL f))
def zA1(H:AH)(id:Nat)(x y:Option mP):(H.set id x).set id y=H.set id y:=by
 unfold AH.set;congr 1;funext i;simp only;split<;>rfl
def aT.LW(r:aT c m Y H a w){id off:Nat}{k:mP}{n p f:List Value}(d:H.b id=J k)(g:k.rw=O)(z:gk k.cells off p=J n)(M:Vl m p f)(l:p≠[]):
 ∃b e,w.heap[(m.f id).bn]? =J (.cells b e (0,0))/\(m.f id).base+off+f.length<=b.size/\
  aT c m Y (H.set id (J ⟨O,n⟩)) a (w.setRow (m.f id).bn (b.toList.take ((m.f id).base+off)++f++b.toList.drop ((m.f id).base+off+f.length)).toArray):=by
 obtain⟨b,e,R,j,u,v,G,I⟩:=r.h.cells id k d;rw[G g]at j;obtain⟨C,D,E,F⟩:=zx3 u v I z M l;refine⟨b,e,j,C,?_⟩
 have q:∀i k2,(H.set id aa).b i=J k2->(m.f i).bn≠(m.f id).bn:=by
  intro i k2 h;simp only[AH.set]at h;split at h
  ·cases h
  ·rename_i l;exact λA=>r.h.apart id i k k2 d h (λe=>l e.symm) g A.symm
 have s:∀t,cP Y a.tmps t≠J (m.f id).bn:=λt L=>r.apart t _ id k L d rfl
 have N:=(r.kill id).RR (B:=(m.f id).bn) (b.toList.take ((m.f id).base+off)++f++b.toList.drop ((m.f id).base+off+f.length)).toArray q s (r.jB id k d g);have y:=N.a4Y (id:=id) (cells:=n) (r.h.lt id k d) (setRow_heap w _ b _ e (0,0) j) (by rw[E];exact u) (by rw[D];exact v) F q s (r.jB id k d g) (r.mU id k d);rw[zA1]at y;exact y
def zm7{f b o:Nat}{g:Bool}{i:Nat}{z:List Value}{y:Value}{d:Array Value}{e:TypeId}(r:cE P t=J (g,f,i,z))(p:y.cells.toList.length=f)
(n:w.heap[b]? =J (.cells d e (0,0)))(l:o+y.cells.toList.length<=d.size)(k:∀v∈y.cells.toList,v.oneCell'=O):
 (Instr.storeAt t (.pointer (J ⟨b,o,aa⟩)) y).run P w=.ok () (w.setRow b (d.toList.take o++y.cells.toList++d.toList.drop (o+y.cells.toList.length)).toArray):=by
 obtain⟨_,_,_,_,_,_,_,_,q⟩:=jx (w:=w) r;have h:=run_storeCells_at P b o e y.cells.toList 0 d w n (by simpa using l) k;simp only[sk]at h;have j:y.cells.size=f:=by rw[<-p];simp
 simp only[Instr.storeAt,Instr.sureAddr,Sem.run_bind,Sem.run_pure,Result.andThen_ok,storeVar,q,j,ne_eq,not_true_eq_false,ja,h]
def ztG{y:Operand}(N:o.op=.store t y x)
(h:match bm Y H x,cE P t with
 |some (v,d,f),J (_,r,_)=>
  if m8 v=O/\v.cells.toList.length=r/\r≠0/\v.cells.toList.all l8=O then
   match bO d y with
   |some (.lp s off)=>match d s with
    | .loc G=>match gk G off v.cells.toList with
     |some cs=>bu c.nt K o.dst .skip (d.put s (.loc cs)) f
     |none=>False
    |_=>False
   |some (.v (.pointer (J ⟨id,off,aa⟩)))=>match f.b id with
    |some k=>if k.rw=O then match gk k.cells off v.cells.toList with
     |some cs=>bu c.nt K o.dst .skip d (f.set id (J ⟨O,cs⟩))
     |none=>False
     else False
    |none=>False
   |_=>False
  else False
 |_,_=>False)(rx1:aT c m Y H a w)
(L:∀j d f E T,K d f->aT c j d f E T->next E T):o.wp P a w next Q:=by
 split at h
 ·rename_i v d f gx1 r X hm S;obtain⟨cH,zx1⟩:=X;split at h
  ·rename_i hc;obtain⟨F,z,c3,c4⟩:=hc;obtain⟨j,da,n,hv⟩:=U7 rx1 hm;have i:=hv.cells (λe=>by rw[e]at F;simp[m8]at F);have I:(a.eval x).cells.toList.length=r:=by rw[<-i.1];exact z
   have U:=Gr i c4;have M:v.cells.toList≠[]:=λe=>by rw[e]at z;exact c3 z.symm
   split at h
   ·rename_i s off C;split at h
    ·rename_i G R;split at h
     ·rename_i cs A;obtain⟨dF,b,k1,k2,k3⟩:=tE n C;have D:=n.f s;unfold RF at D;rw[R]at D;obtain⟨b',g,e,p,q,l⟩:=D;rw[k2]at p;cases p;rcases LU A with⟨e0,_⟩|⟨PQ,rfl⟩
      ·exact absurd e0 M
      ·have gl:=l.1;have gl2:=xI (xs:=g);have hfit:off+(a.eval x).cells.toList.length<=g.size:=by rw[<-i.1];omega
       have B:=zm7 (P:=P) (w:=w) (b:=b) (o:=off) S I q hfit U
       have u:(execOp a.eval o).run P w=.ok .skip (w.setRow b (g.toList.take off++(a.eval x).cells.toList++g.toList.drop (off+(a.eval x).cells.toList.length)).toArray):=by
        simp only[execOp,N,k3,Sem.run_bind,B,Result.andThen_ok,Sem.run_pure]
       unfold Oper.wp;rw[u,Oper.upon_skip];refine MG h (n.a5w R k2 q ?_) L;simp only;rw[<-i.1];exact((l.take off).append i).append (l.drop _)
     ·cases h
    ·cases h
   ·rename_i id off C;split at h
    ·rename_i k hk;split at h
     ·rename_i W;split at h
      ·rename_i cs A;have hp:V j (.pointer (J ⟨id,off,aa⟩)) (a.eval y):=tE n C;obtain⟨b7,hy⟩:=Wb hp;obtain⟨g,e,p,q,l⟩:=n.LW hk W A i M;have B:=zm7 (P:=P) (w:=w) S I p q U
       have u:(execOp a.eval o).run P w=.ok .skip (w.setRow (j.f id).bn (g.toList.take ((j.f id).base+off)++(a.eval x).cells.toList++g.toList.drop ((j.f id).base+off+(a.eval x).cells.toList.length)).toArray):=by
        simp only[execOp,N,hy,Sem.run_bind,B,Result.andThen_ok,Sem.run_pure]
       unfold Oper.wp;rw[u,Oper.upon_skip];exact MG h l L
      ·cases h
     ·cases h
    ·cases h
   ·cases h
  ·cases h
 ·cases h
def zvw{y z:Operand}(l:o.op=.pick x y z)
(h:match aZ Y x with
 |some (.bool O)=>match aZ Y y with
  |some v=>bu c.nt K o.dst (.v v) Y H
  |none=>False
 |some (.bool Z)=>match aZ Y z with
  |some v=>bu c.nt K o.dst (.v v) Y H
  |none=>False
 |_=>False)(r:aT c m Y H a w)
(k:∀p j g i n,K j g->aT c p j g i n->next i n):o.wp P a w next Q:=by
 split at h
 ·rename_i e;split at h
  ·rename_i v f;have d:=KV (gz r e);unfold Oper.wp;have b:(execOp a.eval o).run P w=.ok (.value (a.eval y)) w:=by simp[execOp,l,d,asBool]
   rw[b];exact oC h r (gz r f) k
  ·cases h
 ·rename_i e;split at h
  ·rename_i v f;have d:=KV (gz r e);unfold Oper.wp;have b:(execOp a.eval o).run P w=.ok (.value (a.eval z)) w:=by simp[execOp,l,d,asBool]
   rw[b];exact oC h r (gz r f) k
  ·cases h
 ·cases h
def aT.fresh(r:aT c m Y H a w){b:List Value}{cs:Array Value}{size:Nat}(e:TypeId)(d:size<=cs.size)(f:b.length<=size)
(g:∀(i:Nat) (v:Value),b[i]? =J v->∃c,cs[i]? =J c/\V m v c):aT c (m.push ⟨w.heap.size,0,size⟩) Y (H.push ⟨O,b⟩) a (w.alloc (.cells cs e)):=
 (r.alloc cs e).push (l:=⟨w.heap.size,0,size⟩) (cs:=cs) (e:=e) (heap_alloc_new w _) (by simpa using d) f (by simpa using g)
   (λi k h=>tF (r.h.SS h)) (λt j=>by have:=r.D7 j;simp at this) (r.m9 _ r.grow) (r.mD _ r.grow)
def MM{B b cap es e:Nat}(j:m.n=H.n)(g:cap*es<=e)(d:Nat)(h:b<=d)(i:d<=cap):
 V (m.push ⟨B,0,e⟩) (.slice (J ⟨H.n,0,J es⟩) b d) (.slice (J ⟨B,0,aa⟩) b cap):=by
 have f:=m.zQ ⟨B,0,e⟩;have:=V.slice (m:=m.push ⟨B,0,e⟩) (id:=m.n) (off:=0) (es:=es) (n:=b) (c:=d) (o:=0) (cap:=cap) (by simp[Mu.push]) h i (λ_=>by rw[f]) (by rw[f];simpa using g);rw[f,j]at this;exact this
def zpO{l B:Operand}(ho:o.op=.makeSlice t l B)
(h:match df P t,aZ Y l,aZ Y B with
 |some e,J (.int .i64 n),J (.int .i64 k)=>match cE P e with
  |some (_,b,A,z)=>if 0<=n/\n<=k/\A*k<=140737488355328/\k<=4611686018427387904/\z.length=b/\b≠0/\z.all cD=O then
   bu c.nt K o.dst (.v (.slice (J ⟨H.n,0,J b⟩) n.toNat k.toNat)) Y (H.push ⟨O,(List.replicate k.toNat z).flatten⟩)
   else False
  |none=>False
 |_,_,_=>False)(r:aT c m Y H a w)
(hn:∀m' u g s E,K u g->aT c m' u g s E->next s E):o.wp P a w next Q:=by
 split at h
 ·rename_i e n k W hl hk;split at h
  ·rename_i gx1 b A z ht;split at h
   ·rename_i U;obtain⟨I,L,c3,c4,y,c6,M⟩:=U;obtain⟨i,d,X,hz,jw,T,nR,_,hs⟩:=jx (w:=w) ht;have R:=Ad (gz r hl);have S:=Ad (gz r hk);have N:=run_make (P:=P) w t e i d (p8 W) X hz .i64 .i64 n k I L (by rw[nR];omega) (by omega)
    have G:(execOp a.eval o).run P w=.ok (.value (.slice (J ⟨w.heap.size,0,aa⟩) n.toNat k.toNat)) (w.alloc (.cells (madeCells d.cells (k.toNat*i.size)) e)):=by
     simp only[execOp,ho,R,S,Sem.run_bind,N,Result.andThen_ok,Sem.run_pure]
    have f:(madeCells d.cells (k.toNat*i.size)).toList=(List.replicate k.toNat z).flatten:=by
     have xj:d.cells=z.toArray:=by rw[<-jw]
     rw[T,xj,<-y];exact IP z k.toNat
    have q:(madeCells d.cells (k.toNat*i.size)).size=k.toNat*b:=by
     rw[<-xI,f,Wf];simp[y]
    unfold Oper.wp;rw[G];refine oC h (r.fresh (size:=k.toNat*b) e (by rw[q];exact cq _) (by rw[<-f,xI,q];exact cq _) λj v C=>?_) ?_ hn
    ·refine⟨v,?_,?_⟩
     ·rw[<-Wd,f];exact C
     ·have p:=eD C;rw[Mg]at p;obtain⟨l',F,D⟩:=p;rw[(nS.1 F).2]at D;exact PK (bc.1 M v D)
    ·exact MM r.h.n (cq _) _ (by omega) (cq _)
   ·cases h
  ·cases h
 ·cases h
def Zc(t E e:TypeId)(i:TypeInfo)(C:P.underlying t=J (.slice e))(A:P.info? e=J i)
(g o d k:Nat)(f:Array Value)(p:TypeId)(z:w.heap[g]? =J (.cells f p (0,0)))
(h:Addr)(n l:Nat)(b:List Value)(B:b.length=n*i.size)(r:∀(j:Nat) (u:Value),b[j]? =J u->w.cell? (h.add j)=J u)(s:∀u∈b,u.oneCell'=O)
(D:d+n<=k)(y:o+d*i.size+b.length<=f.size):
 (Builtin.append_ #[t,t] E #[.slice (J ⟨g,o,aa⟩) d k,.slice (J h) n l]).run P w=
   .ok (.slice (J ⟨g,o,aa⟩) (d+n) k) (w.setRow g (f.toList.take (o+d*i.size)++b++f.toList.drop (o+d*i.size+b.length)).toArray):=by
 have v:=run_firstCells_some (P:=P) w i.size n h n l b B r;have q:=run_storeCells_at P g (o+d*i.size) p b 0 f w z (by simpa using y) s;simp only[sk]at q;simp[Builtin.append_,run_underlying C,sizeOf,typeInfo,A,Builtin.lenOf,D,v,xh,q]
def zle(t p e:TypeId)(i:TypeInfo)(n:P.underlying t=J (.slice e))(l:P.info? e=J i)(f g:Option Addr)(b d h:Nat)(j:b<=d):
 (Builtin.append_ #[t,t] p #[.slice f b d,.slice g 0 h]).run P w=.ok (.slice f b d) w:=by
 have k:(Builtin.firstCells i.size 0 (.slice g 0 h)).run P w=.ok #[] w:=by
  cases g<;>simp[Builtin.firstCells,loadCells,loadCellsFrom]
 cases f<;>simp[Builtin.append_,run_underlying n,sizeOf,typeInfo,l,Builtin.lenOf,j,k,storeCells]
def FH(r:aT c m Y H a w){e:TypeId}{A:List Value}{n:Nat}{g:Bool}{y F:Nat}{zx1:List Value}(S:df P t=J e)(X:cE P e=J (g,y,F,zx1))(h:iF P t Y H x=J (A,n)):
 A.length=n*y/\∃p q,a.eval x=.slice p n q/\(0<n->∃b o d,p=J ⟨b,o,aa⟩/\Vl m A d/\∀(j:Nat) (u:Value),d[j]? =J u->w.cell? ((⟨b,o,aa⟩:Addr).add j)=J u):=by
 unfold iF at h;rw[S]at h;simp only[X]at h;split at h
 ·rename_i s;split at h
  ·rename_i len z G f;split at h
   ·rename_i L;cases h;subst L;have B:=r.f s;unfold RF at B;rw[f]at B;obtain⟨b,cs,ty,k1,k2,k3,k4⟩:=B;refine⟨k4,J ⟨b,0,aa⟩,n,k1,λ_=>?_⟩;obtain⟨d,q1,q2⟩:=(RI k2 k3).list;exact⟨b,0,d,rfl,q1,q2⟩
   ·cases h
  ·rename_i f;cases h;have i:=gz r (x:=.tmp s) (v:=.slice aa 0 0) (by simp[aZ,f]);generalize hy:a.eval (.tmp s)=yx1 at i;cases i with
   |mV p=>exact⟨by simp,p,0,rfl,λh=>by omega⟩
  ·rename_i id off z n' I f;have i:=gz r (x:=.tmp s) (v:=.slice (J ⟨id,off,J z⟩) n' I) (by simp[aZ,f]);generalize hy:a.eval (.tmp s)=yx1 at i;cases i with
   |slice b7 k1 k2 k3 k4=>
    rename_i o q;split at h
    ·cases h;rename_i D;subst D;exact⟨by simp,_,q,rfl,λh=>by omega⟩
    ·split at h
     ·cases h
     ·rename_i D T;have E:y=z:=by simpa using T
      subst E;simp only[bT,bL]at h;obtain⟨G,C,l,M,N⟩:=h;cases N;obtain⟨rfl,R⟩:=Sj M;simp only[AH.load,bL]at C;obtain⟨k,U,rfl⟩:=C;have W:=k3 (by omega);subst W;refine⟨by simp at R⊢;omega,_,q,rfl,λ_=>?_⟩;obtain⟨d,q1,q2⟩:=(((r.h.row U).drop off).take (n*y)).list;exact⟨_,_,d,rfl,q1,q2⟩
  ·cases h
 ·cases h;exact⟨by simp,aa,0,rfl,λh=>by omega⟩
 ·cases h
end
end Go.Am
