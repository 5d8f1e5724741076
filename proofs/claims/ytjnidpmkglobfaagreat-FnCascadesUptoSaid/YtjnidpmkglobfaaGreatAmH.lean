import Derived.Test.YtjnidpmkglobfaaGreatAmG
open Option renaming none→aa,some→J
open Bool renaming true→O
set_option linter.defProp false
namespace Go.Am
def nS:=@List.mem_replicate
def oG:=@Nat.mod_eq_of_lt
def sn:=@List.append_nil
def HK:=@List.flatten_cons
def Mf:=@Nat.one_mul
def Mg:=@List.mem_flatten
def Wf:=@List.length_flatten
def a1u:=@List.flatten_append
def a1v:=@List.range_add
def a5J:=@Array.toList_append
section
variable {c:rV}{m:Mu}{Y:FR}{H:AH}{a:Act}{w:World}{P:Program}{K:FR->AH->Prop}{next:Act->World->Prop}
variable{Q:Exit->Act->World->Prop}{d:Option Tmp}{o:Oper}{y:Value}
def oC{x:Value}(h:bu c.nt K d (.v x) Y H)(r:aT c m Y H a w)(j:V m x y)
(g:∀k f b e i,K f b->aT c k f b e i->next e i):next (a.put d y) w:=by
 cases d with
 |none=>exact g m Y H a w h r
 |some d=>
  simp only[bu]at h;split at h
  ·exact g _ _ _ _ _ h (r.A7 ‹_› j)
  ·cases h
def MG(h:bu c.nt K d .skip Y H)(r:aT c m Y H a w)
(g:∀j f b e i,K f b->aT c j f b e i->next e i):next (a.put d undef) w:=by
 cases d with
 |none=>exact g m Y H a w h r
 |some d=>
  simp only[bu]at h;split at h
  ·exact g _ _ _ _ _ h (r.a2m ‹_›)
  ·cases h
def ZR{x:FV}(h:bu c.nt K d x Y H)(r:aT c m Y H a w)(e:VA m Y a.tmps x y)
(f:∀p j g i k,K j g->aT c p j g i k->next i k):next (a.put d y) w:=by
 cases x with
 |v x=>exact oC h r e f
 |lp s off=>
  cases d with
  |none=>exact f m Y H a w h r
  |some d=>
   simp only[bu]at h;split at h
   ·obtain⟨q,b,t,l,n⟩:=e;exact f _ _ _ _ _ h (r.a2K ‹_› λ_ _=>⟨b,l,n⟩)
   ·cases h
 |skip=>cases e
 |loc _=>cases e
 |ls _ _ _=>cases e
def Wb{id off:Nat}(h:V m (.pointer (J ⟨id,off,aa⟩)) y):id<m.n/\y=.pointer (J ⟨(m.f id).bn,(m.f id).base+off,aa⟩):=by
 cases h with
 |ptr b=>exact⟨b,rfl⟩
def Ad{k:IntKind}{n:Int}(h:V m (.int k n) y):y=.int k n:=by cases h;rfl
def KV{b:Bool}(h:V m (.bool b) y):y=.bool b:=by cases h;rfl
def Xo{s:TypeId}{f o q b p:Nat}(h:dR P s f=J (o,q)):(Instr.fieldAt s (.pointer (J ⟨b,p,aa⟩)) f).run P w=.ok (.pointer (J ⟨b,p+o,aa⟩)) w:=by
 unfold dR at h;split at h
 ·rename_i r l;split at h
  ·rename_i g j;split at h
   ·rename_i i k;split at h
    ·cases h
    ·cases h;rename_i n;have e:(sizeOf g.type).run P w=.ok i.size w:=by simp[sizeOf,typeInfo,k]
     simp[Instr.fieldAt,jN l,j,Instr.sureAddr,fieldPlace,e,n,xh]
   ·cases h
  ·cases h
 ·cases h
def zvo{x:FV}(h:iO P Y o.op=J x)(r:aT c m Y H a w):∃y,(execOp a.eval o).run P w=.ok (.value y) w/\VA m Y a.tmps x y:=by
 obtain⟨dst,op,ty,pos,af,g⟩:=o;simp only at h;cases op<;>simp only[iO]at h<;>try (cases h;done)
 case nilCheck x=>
  split at h
  ·rename_i S i;cases h;have l:V m (.pointer (J S)) (a.eval x):=tE r i;generalize p:a.eval x=y at l;cases l with
   |ptr n=>exact⟨_,by simp[execOp,p],V.ptr n⟩
  ·rename_i s off i;cases h;obtain⟨t,b,A,B,C⟩:=tE r i;refine⟨_,?_,⟨t,b,A,B,rfl⟩⟩;simp[execOp,C]
  ·cases h
 case fieldAddr s x f=>
  split at h
  ·rename_i o sz tx1 off N i;cases h;obtain⟨t,b,A,B,C⟩:=tE r i;refine⟨.pointer (J ⟨b,off+o,aa⟩),?_,⟨t,b,A,B,rfl⟩⟩;simp[execOp,C,Xo N]
  ·rename_i o sz id off N i;cases h;have l:V m (.pointer (J ⟨id,off,aa⟩)) (a.eval x):=tE r i;obtain⟨n,p⟩:=Wb l;refine⟨.pointer (J ⟨(m.f id).bn,(m.f id).base+off+o,aa⟩),?_,?_⟩
   ·simp[execOp,p,Xo N]
   ·rw[i9];exact V.ptr n
  ·cases h
 case indexAddr tx1 x ix1=>
  split at h
  ·rename_i id off br nx U k j i F;split at h
   ·rename_i e E;split at h
    ·rename_i g q u M;obtain⟨R,z⟩:=u;split at h
     ·rename_i D;cases h;obtain⟨rfl,v,I⟩:=D;have l:V m (.slice (J ⟨id,off,J q⟩) nx U) (a.eval x):=tE r i;have G:=Ad (gz r F);obtain⟨_,_,_,_,_,_,_,_,L⟩:=jx (w:=w) M;generalize p:a.eval x=y at l;cases l with
      |slice n k1 k2 k3 k4=>
       rename_i o T;have rW:0<T:=by omega
       have W:=k3 rW;subst W;refine⟨.pointer (J ⟨(m.f id).bn,(m.f id).base+off+j.toNat*q,aa⟩),?_,?_⟩
       ·simp[execOp,p,G,Instr.indexAt,asIntOf,jN (p8 E),v,I,L,xh]
       ·rw[i9];exact V.ptr n
     ·cases h
    ·cases h
   ·cases h
  ·rename_i s off k j i F;split at h
   ·rename_i X e E;split at h
    ·rename_i g q u M;obtain⟨R,z⟩:=u;split at h
     ·rename_i D;cases h;obtain⟨v,I⟩:=D;obtain⟨t,b,A,B,C⟩:=tE r i;have G:=Ad (gz r F);obtain⟨_,_,_,_,_,_,_,_,L⟩:=jx (w:=w) M;refine⟨.pointer (J ⟨b,off+j.toNat*q,aa⟩),?_,⟨t,b,A,B,rfl⟩⟩;simp[execOp,C,G,Instr.indexAt,asIntOf,jN (S8 E),v,I,L,xh,Instr.sureAddr]
     ·cases h
    ·cases h
   ·cases h
  ·rename_i id off k j i F;split at h
   ·rename_i X e E;split at h
    ·rename_i g q u M;obtain⟨R,z⟩:=u;split at h
     ·rename_i D;cases h;obtain⟨v,I⟩:=D;have l:V m (.pointer (J ⟨id,off,aa⟩)) (a.eval x):=tE r i;obtain⟨n,p⟩:=Wb l;have G:=Ad (gz r F);obtain⟨_,_,_,_,_,_,_,_,L⟩:=jx (w:=w) M;refine⟨.pointer (J ⟨(m.f id).bn,(m.f id).base+off+j.toNat*q,aa⟩),?_,?_⟩
      ·simp[execOp,p,G,Instr.indexAt,asIntOf,jN (S8 E),v,I,L,xh,Instr.sureAddr]
      ·rw[i9];exact V.ptr n
     ·cases h
    ·cases h
   ·cases h
  ·cases h
def Ou(h:dK P c.nt o K Y H)(r:aT c m Y H a w)
(l:∀g e b f i,K e b->aT c g e b f i->next f i):o.wp P a w next Q:=by
 unfold dK at h;split at h
 ·rename_i z q;split at h
  ·rename_i x e b k;split at h
   ·rename_i v n;obtain⟨g,u,t,s⟩:=VT r k;obtain⟨y,p,j⟩:=zui (P:=P) (w:=w) q n s;unfold Oper.wp;rw[p];exact oC h t j l
   ·cases h
  ·cases h
 ·cases h
def Om(h:match iO P Y o.op with|some x=>bu c.nt K o.dst x Y H|none=>False)(r:aT c m Y H a w)
(j:∀n f b e g,K f b->aT c n f b e g->next e g):o.wp P a w next Q:=by
 split at h
 ·rename_i x k;obtain⟨y,l,i⟩:=zvo k r;unfold Oper.wp;rw[l];exact ZR h r i j
 ·cases h
def zvk{f:Operand}{args:Array Operand}{U:Array TypeId}(S:o.op=.call ⟨.value f,args,U⟩)
(h:match cz Y H args.toList with
   |some (r,b,i)=>match aZ b f with
    |some (.func (.func g) first q)=>qH P g (first.toList++r++q.toList) i λv x=>bu c.nt K o.dst (.v v) b x
    |_=>False
   |none=>False)(rx1:aT c m Y H a w)
(R:∀j b i t s,K b i->aT c j b i t s->next t s):o.wp P a w next Q:=by
 split at h
 ·rename_i r b i N;split at h
  ·rename_i g first q L
   obtain⟨j,da,l,kt⟩:=VT rx1 N;have u:=gz l L;generalize T:a.eval f=y at u;cases u with
   |func fn M k X W=>
    rename_i n p
    have C:(execOp a.eval o).run P w=.ok (.enter g (n++args.map a.eval++p)) w:=by
     have I:=h.1 (n++args.map a.eval++p) w;simp only[execOp,S,Sem.run_bind,resolve,T,Deferred.ofValue,Sem.run_pure,Result.andThen_ok,invoke];exact I
    unfold Oper.wp;rw[C]
    have G:Vl j (first.toList++r++q.toList) (n++args.map a.eval++p).toList:=by
     simp only[a5J,Array.toList_map];exact(Vl.append ⟨M,k⟩ kt).append ⟨X,W⟩
    refine(h.2 j w _ l.h G l.tb).mono ?_;rintro e s ⟨cv,v,x,Io,rfl,E,F,D,A,z,B⟩;exact oC E (l.call D A z B) F R
  ·cases h
 ·cases h
def zwL{t:TypeId}{x:Operand}(u:o.op=.load t x)
(h:match nv P t (mI Y H x)with|some v=>bu c.nt K o.dst (.v v) Y H|none=>False)(r:aT c m Y H a w)
(s:∀A j g i k,K j g->aT c A j g i k->next i k):o.wp P a w next Q:=by
 split at h
 ·rename_i v e;cases f:mI Y H x with
  |none=>rw[f]at e;unfold nv at e;split at e<;>simp_all
  |some B=>
   rw[f]at e;obtain⟨b,C,n,p⟩:=zqc r f;obtain⟨y,z,q⟩:=zsM (P:=P) e p
   have l:(execOp a.eval o).run P w=.ok (.value y) w:=by
    simp[execOp,u,n,Instr.loadAt,Instr.sureAddr,z]
   unfold Oper.wp;rw[l];exact oC h r q s
 ·cases h
def zt3{e:TypeId}(s:o.op=.alloc e)
(h:match cE P e,o.dst with
   |some (_,_,_,z),J d=>if d<c.nt/\z.all cD=O then K (Y.fh d z) H else False
   |_,_=>False)(r:aT c m Y H a w)
(q:∀x j b f l,K j b->aT c x j b f l->next f l):o.wp P a w next Q:=by
 split at h
 ·rename_i g C B z d t hd;split at h
  ·rename_i k;obtain⟨i,A,p,u,v,_,_,_,_⟩:=jx (w:=w) t
   have n:(execOp a.eval o).run P w=.ok (.value (.pointer (J ⟨w.heap.size,0,aa⟩))) (w.alloc (.cells A.cells e)):=by
    simp[execOp,s,Instr.alloc,zeroValue,typeInfo,p,u,newVar,newRow]
   unfold Oper.wp;rw[n,Oper.upon_value,hd];refine q _ _ _ _ _ h (r.fh k.1 ?_ e);rw[v];exact CF k.2
  ·cases h
 ·cases h
def zxp{e:TypeId}{x:Operand}(p:o.op=.box e x)
(h:match cE P e,aZ Y x,o.dst with
   |some _,J v,J d=>if d<c.nt/\m8 v=O then K (Y.fh d v.cells.toList) H else False
   |_,_,_=>False)(r:aT c m Y H a w)
(l:∀u i f g j,K i f->aT c u i f g j->next g j):o.wp P a w next Q:=by
 split at h
 ·rename_i q v d z t hd;split at h
  ·rename_i b;have s:=gz r t;have n:v≠.tuple #[]:=λe=>by rw[e]at b;simp[m8]at b
   have k:(execOp a.eval o).run P w=.ok (.value (.pointer (J ⟨w.heap.size,0,aa⟩))) (w.alloc (.cells (a.eval x).cells e)):=by
    simp[execOp,p,Instr.box,newVar,newRow]
   unfold Oper.wp;rw[k,Oper.upon_value,hd];exact l _ _ _ _ _ h (r.fh b.1 (s.cells n) e)
  ·cases h
 ·cases h
def IP(z:List Value)(n:Nat):((Array.range (n*z.length)).map (λi=>z.toArray[i%z.toArray.size]!)).toList=(List.replicate n z).flatten:=by
 induction n with
 |zero=>simp
 |succ n ih=>
  rw[List.replicate_succ',a1u,<-ih];rw[show(n+1)*z.length=n*z.length+z.length from by rw[oF,Mf]];simp only[Array.toList_map,Array.toList_range,HK,List.flatten_nil,sn];rw[a1v,lN];congr 1;rw[uU];apply List.ext_getElem
  ·simp
  ·intro i b e;simp at b e;simp[Nat.mul_add_mod_self_right,oG b,b]
def zxV{f:Nat->Option (Nat×Nat)}:∀{l:List (Nat×Value)}{cs b:List Value},jI f l cs=J b->b.length=cs.length:=by
 intro l;induction l with
 |nil=>intro cs b h;simp only[jI,aS]at h;rw[h]
 |cons p l ih=>
  intro cs b h;obtain⟨i,v⟩:=p;simp only[jI]at h;split at h
  ·split at h
   ·split at h
    ·rename_i g e;rw[ih h];rcases LU e with⟨_,rfl⟩|⟨j,rfl⟩
     ·rfl
     ·have y:=xI (xs:=v.cells);simp;omega
    ·cases h
   ·cases h
  ·cases h
def zox{t:TypeId}{f:Nat}{g:Array (Nat×Operand)}(D:o.op=.buildSlice t f g)
(h:match df P t,o.dst,cz Y H (g.toList.map (·.2))with
   |some e,J d,J (M,k,j)=>match cE P e with
    |some (_,b,_,z)=>if d<c.nt/\f*b<=2^24/\z.length=b/\b≠0/\z.all cD=O then
     match jI (λi=>J (i*b,b)) ((g.toList.map (·.1)).zip M) ((List.replicate f z).flatten)with
     |some cs=>K (k.put d (.ls f b cs)) j
     |none=>False
     else False
    |none=>False
   |_,_,_=>False)(rx1:aT c m Y H a w)
(hn:∀q k j u N,K k j->aT c q k j u N->next u N):o.wp P a w next Q:=by
 split at h
 ·rename_i e d M k j B hd hm;split at h
  ·rename_i gx1 b cH z ht;split at h
   ·rename_i hc;obtain⟨W,h2,A,h4,X⟩:=hc;split at h
    ·rename_i cs C;obtain⟨q,da,r',L⟩:=VT rx1 hm;obtain⟨i,n,hi,hz,jw,_,_,_,E⟩:=jx (w:=w) ht;have xj:n.cells=z.toArray:=by rw[<-jw]
     have R:Vl q ((List.replicate f z).flatten) ((Array.range (f*b)).map (λi=>n.cells[i%n.cells.size]!)).toList:=by
      rw[xj,<-A,IP];refine⟨rfl,λi x y F G=>?_⟩;rw[F]at G;cases G;have r:=eD F;rw[Mg]at r;obtain⟨l,hl,I⟩:=r;rw[(nS.1 hl).2]at I;exact PK (bc.1 X x I)
     obtain⟨xg,k1,k2⟩:=VR (λ_ _ h=>h) C L R (by have:=L.Ie;simp at this⊢;exact this.symm)
     have U:((g.toList.map (·.1)).zip ((g.toList.map (·.2)).map a.eval))=(g.map λ(i,x)=>(i,a.eval x)).toList:=by
      simp[List.zip_map',uU]
     rw[U]at k1
     have T:(execOp a.eval o).run P w=.ok (.value (.slice (J ⟨w.heap.size,0,aa⟩) f f)) (w.alloc (.cells xg e)):=by
      have s:¬(f*b>2^24):=by omega
      have S:(zeroValue e).run P w=.ok n w:=by simp[zeroValue,typeInfo,hi,hz]
      by_cases p:f*b=0
      ·have v:Array.range (f*b)= #[]:=by rw[p];rfl
       rw[v,Array.map_empty]at k1;simp only[execOp,D,Instr.buildSlice,Sem.run_bind,jN (p8 B),Result.andThen_ok,E,Sem.run_ite,aA s,aE p,Sem.run_pure,v,Array.map_empty];rw[k1];simp[newRow]
      ·simp only[execOp,D,Instr.buildSlice,Sem.run_bind,jN (p8 B),Result.andThen_ok,E,Sem.run_ite,aA s,aA p,Sem.run_pure,S];rw[k1];simp[newRow]
     have hlen:cs.length=f*b:=by
      rw[zxV C,Wf];simp[A]
     unfold Oper.wp;rw[T,Oper.upon_value,hd];exact hn _ _ _ _ _ h (r'.a4o W k2 hlen e)
    ·cases h
   ·cases h
  ·cases h
 ·cases h
end
end Go.Am
