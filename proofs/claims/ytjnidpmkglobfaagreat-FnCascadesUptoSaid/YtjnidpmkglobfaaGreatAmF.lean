import Derived.Test.YtjnidpmkglobfaaGreatAmE
open Option renaming none→aa,some→J
open Bool renaming true→O
set_option linter.defProp false
namespace Go.Am
def lN:=@List.map_append
def tG:=@Array.ext'
def uU:=@List.map_map
def We:=@List.drop_left
def a5I:=@Array.mapM_eq_mapM_toList
section
variable {m:Mu}{a:Act}{w:World}{P:Program}
variable{v:Value}{Y:List Value}
def Vl.one{x:Operand}(h:Vl m [v] ([x].map a.eval)):V m v (a.eval x):=by
 obtain⟨y,c,e,b,_⟩:=h.cons_inv;cases e;exact b
def Vl.two{x y:Operand}{u:Value}(h:Vl m [v,u] ([x,y].map a.eval)):V m v (a.eval x)/\V m u (a.eval y):=by
 obtain⟨y,d,e,c,b⟩:=h.cons_inv;cases e;exact⟨c,Vl.one (x:=_) b⟩
def Vl.Ie{b:List Operand}(h:Vl m Y (b.map a.eval)):Y.length=b.length:=by simpa using h.1
def zna{b:Bool}{x y c d:Value}(h:w9 b x y=J v)(e:V m x c)(f:V m y d):
 ((if b then Builtin.max2 c d else Builtin.min2 c d)).run P w=.ok v w/\V m v v:=by
 unfold w9 at h;split at h
 ·cases e;cases f;split at h
  ·cases h;refine⟨?_,.int _ _⟩;cases b<;>simp[Builtin.max2,Builtin.min2]
  ·cases h
 ·cases h
def CF{z:List Value}(h:z.all cD=O):Vl m z z:=
 ⟨rfl,λi x y b c=>by
   rw[b]at c;cases c
   exact PK (bc.1 h x (eD b))⟩
def zv6:∀(l:List Field),(∀f,f∈l->∃i,P.info? f.type=J i)->
 (l.mapM (m:=Sem) λf=>do pure (f.offset,<-sizeOf f.type)).run P w=.ok (l.map λf=>(f.offset,((P.info? f.type).map (·.size)).getD 0)) w:=by
 intro l;induction l with
 |nil=>intro _;simp
 |cons f l ih=>
  intro h;obtain⟨i,b⟩:=h f (by simp);have d:(sizeOf f.type).run P w=.ok i.size w:=by simp[sizeOf,typeInfo,b]
  have e:=ih (λg c=>h g (by simp[c]));rw[List.mapM_cons];simp only[Sem.run_bind,d,Result.andThen_ok,Sem.run_pure,e];simp[b]
def zxe{b:Array Field}{t:TypeId}(g:P.underlying t=J (.struct b))(i:Nat)(p:Nat×Nat)(h:dR P t i=J p):
 (b.toList.map λf=>(f.offset,((P.info? f.type).map (·.size)).getD 0)).toArray[i]? =J p:=by
 unfold dR at h;rw[g]at h;simp only at h;split at h
 ·rename_i d c;split at h
  ·rename_i j e;split at h
   ·cases h
   ·cases h;have k:b.toList[i]? =J d:=by simpa using c
    simp[e,c]
  ·cases h
 ·cases h
def ztK{t:TypeId}{x:List Nat}{E:List Value}(h:Fk P t x Y=J v)(D:Vl m Y E)(C:x.length=Y.length):
 ∃y,(Instr.build t (x.zip E).toArray).run P w=.ok y w/\V m v y:=by
 unfold Fk at h;split at h
 ·rename_i u j;split at h
  ·rename_i g N I z s;split at h
   ·rename_i b;simp only[bC]at b;obtain⟨b,M⟩:=b;simp only[bL]at h;obtain⟨l,d,rfl⟩:=h;obtain⟨i,k,r,o,A,_,_,_,_⟩:=jx (w:=w) s;have p:Vl m z k.cells.toList:=by rw[A];exact CF b
    have L:=zv6 (P:=P) (w:=w) u.toList (λf d=>HI.1 (bc.1 M f d))
    have G:(u.mapM (m:=Sem) λf=>do pure (f.offset,<-sizeOf f.type)).run P w=.ok (u.toList.map λf=>(f.offset,((P.info? f.type).map (·.size)).getD 0)).toArray w:=by
     rw[a5I,Sem.run_map,L,Result.andThen_ok]
    obtain⟨B,q,c⟩:=VR (zxe j) d D p C;refine⟨.agg B,?_,.agg (by simpa using c.1) (by simpa using c.2)⟩;have F:(zeroValue t).run P w=.ok k w:=by simp[zeroValue,typeInfo,r,o]
    simp only[Instr.build,Sem.run_bind,F,Result.andThen_ok,jN j,G];rw[q];simp
   ·cases h
  ·cases h
 ·rename_i n e j;split at h
  ·rename_i g N I z s;split at h
   ·rename_i T S H Q;obtain⟨R,z2⟩:=H;split at h
    ·rename_i b;simp only[bL]at h;obtain⟨l,d,rfl⟩:=h;obtain⟨i,k,r,o,A,_,_,_,_⟩:=jx (w:=w) s;obtain⟨U,W,_,_,_,_,_,_,K⟩:=jx (w:=w) Q;have p:Vl m z k.cells.toList:=by rw[A];exact CF b
     obtain⟨B,q,c⟩:=VR (λ_ _ h=>h) d D p C;refine⟨.agg B,?_,.agg (by simpa using c.1) (by simpa using c.2)⟩;simp[Instr.build,zeroValue,typeInfo,r,o,jN j,K,q]
    ·cases h
   ·cases h
  ·cases h
 ·cases h
def zui{o:Oper}{K:List Operand}(r:iA o.op=J K)(b:fk P o.op Y=J v)(p:Vl m Y (K.map a.eval)):
 ∃y,(execOp a.eval o).run P w=.ok (.value y) w/\V m v y:=by
 obtain⟨U,F,ty,X,S,g⟩:=o;simp only at r b;cases F<;>simp only[iA]at r<;>try (cases r;done)
 case move x=>
  cases r;simp only[fk]at b;split at b<;>cases b;exact⟨_,by simp[execOp],p.one⟩
 case assign x=>
  cases r;simp only[fk]at b;split at b<;>cases b;exact⟨_,by simp[execOp],p.one⟩
 case unOp F t x=>
  cases r;simp only[fk]at b;split at b
  ·obtain⟨z,j,n⟩:=zyo (P:=P) (w:=w) b p.one;exact⟨z,by simp[execOp,j],n⟩
  ·cases b
 case convert s d x=>
  cases r;simp only[fk]at b;split at b
  ·obtain⟨z,j,n⟩:=zvK (P:=P) (w:=w) b p.one;exact⟨z,by simp[execOp,j],n⟩
  ·cases b
 case field t x f=>
  cases r;simp only[fk]at b;split at b
  ·obtain⟨z,j,n⟩:=ztW (P:=P) (w:=w) b p.one;exact⟨z,by simp[execOp,j],n⟩
  ·cases b
 case extract x i=>
  cases r;simp only[fk]at b;split at b
  ·rename_i Q;have j:=p.one;generalize N:a.eval x=z at j;cases j with
   |az=>simp at b
   |tuple M k=>
    rename_i A
    have I:i<A.toList.length:=by
     rw[<-M];rcases dS i Q.toList.length with h|h
     ·exact h
     ·rw[BT h]at b;cases b
    refine⟨A.toList[i],?_,k i v _ b (cI I)⟩
    have:A[i]? =J A.toList[i]:=by
     rw[<-Wd];exact cI I
    simp[execOp,N,Instr.extract,this]
  ·cases b
 case binOp F t x y ux1=>
  cases r;simp only[fk]at b;split at b
  ·obtain⟨j,n⟩:=p.two;obtain⟨k1,k2⟩:=zxi (P:=P) (w:=w) (ox:=x) (oy:=y) b j n;simp only[Sem.run_bind]at k1;refine⟨v,?_,k2⟩;simp only[execOp,Sem.run_bind,k1,Result.andThen_ok,Sem.run_pure]
  ·cases b
 case index t x y=>
  cases r;simp only[fk]at b;split at b
  ·obtain⟨j,n⟩:=p.two;obtain⟨z,k1,k2⟩:=ztY (P:=P) (w:=w) b j n;exact⟨z,by simp[execOp,k1],k2⟩
  ·cases b
 case build t G=>
  cases r;simp only[fk]at b;obtain⟨z,k1,k2⟩:=ztK (P:=P) (w:=w) b p (by have:=p.Ie;simp at this⊢;exact this.symm);refine⟨z,?_,k2⟩
  have e:((G.toList.map (·.1)).zip ((G.toList.map (·.2)).map a.eval)).toArray=G.map λ(i,x)=>(i,a.eval x):=by
   apply tG;simp[List.zip_map',uU]
  rw[e]at k1;simp[execOp,k1]
 case makeFunc H B cs=>
  cases r;simp only[fk,aS]at b;subst b;refine⟨.func H (B.map a.eval) (cs.map a.eval),by simp[execOp,Instr.makeFunc],?_⟩;have j:=p.take B.size;have n:=p.drop B.size;simp only[lN]at j n;have e:(B.toList.map a.eval).length=B.size:=by simp
  rw[<-e,List.take_left]at j;rw[<-e,We]at n;rw[e]at j n;exact .func H (by simpa using j.1) (by simpa using j.2) (by simpa using n.1) (by simpa using n.2)
 case slice t x l h W=>
  cases r;simp only[fk]at b;split at b
  ·obtain⟨z,k1,k2⟩:=GE (P:=P) (w:=w) (lo':=aa) (hi':=aa) (mx':=aa) b (p.one) trivial trivial trivial;exact⟨z,by simp[execOp,k1],k2⟩
  ·rename_i l _ _;obtain⟨j,n⟩:=p.two;obtain⟨z,k1,k2⟩:=GE (P:=P) (w:=w) (lo':=J (a.eval l)) (hi':=aa) (mx':=aa) b j n trivial trivial;exact⟨z,by simp[execOp,k1],k2⟩
  ·rename_i l _ _;obtain⟨j,n⟩:=p.two;obtain⟨z,k1,k2⟩:=GE (P:=P) (w:=w) (lo':=aa) (hi':=J (a.eval l)) (mx':=aa) b j trivial n trivial;exact⟨z,by simp[execOp,k1],k2⟩
  ·rename_i l h _ _ _;obtain⟨y,A,e,j,u⟩:=p.cons_inv;cases e;obtain⟨n,C⟩:=Vl.two (x:=l) (y:=h) u;obtain⟨z,k1,k2⟩:=GE (P:=P) (w:=w) (lo':=J (a.eval l)) (hi':=J (a.eval h)) (mx':=aa) b j n C trivial;exact⟨z,by simp[execOp,k1],k2⟩
  ·rename_i l h q _ _ _ _;obtain⟨y,A,e,j,u⟩:=p.cons_inv;cases e;obtain⟨y,A,e,n,u⟩:=u.cons_inv;cases e;obtain⟨C,E⟩:=Vl.two (x:=h) (y:=q) u;obtain⟨z,k1,k2⟩:=GE (P:=P) (w:=w) (lo':=J (a.eval l)) (hi':=J (a.eval h)) (mx':=J (a.eval q)) b j n C E;exact⟨z,by simp[execOp,k1],k2⟩
  ·rename_i h q _ _ _;obtain⟨y,A,e,j,u⟩:=p.cons_inv;cases e;obtain⟨C,E⟩:=Vl.two (x:=h) (y:=q) u;obtain⟨z,k1,k2⟩:=GE (P:=P) (w:=w) (lo':=aa) (hi':=J (a.eval h)) (mx':=J (a.eval q)) b j trivial C E;exact⟨z,by simp[execOp,k1],k2⟩
  ·cases b
 case call c=>
  obtain⟨T,args,L⟩:=c;simp only[fk]at b;simp only at r b;split at r
  ·cases r;simp only at b;split at b
   ·rename_i x t u;have D:=p.Ie
    obtain⟨y,rfl⟩:∃y,args= #[y]:=by
     obtain⟨l⟩:=args
     match l,D with
     |[y],_=>exact⟨y,rfl⟩
    obtain⟨l⟩:=L;simp only at u;subst u;obtain⟨k1,k2⟩:=zx0 (P:=P) (w:=w) (ty:=ty) b (Vl.one (x:=y) p);exact⟨v,by simp[execOp,resolve,invoke,builtin,k1],k2⟩
   ·cases b
  ·cases r;simp only at b;split at b
   ·rename_i x R;have D:=p.Ie
    obtain⟨y,z,rfl⟩:∃y z,args= #[y,z]:=by
     obtain⟨l⟩:=args
     match l,D with
     |[y,z],_=>exact⟨y,z,rfl⟩
    obtain⟨j,n⟩:=Vl.two (x:=y) (y:=z) p;obtain⟨k1,k2⟩:=zna (P:=P) (w:=w) b j n;simp only[lL,ja]at k1;exact⟨v,by simp[execOp,resolve,invoke,builtin,Builtin.min_,k1],k2⟩
   ·cases b
  ·cases r;simp only at b;split at b
   ·rename_i x R;have D:=p.Ie
    obtain⟨y,z,rfl⟩:∃y z,args= #[y,z]:=by
     obtain⟨l⟩:=args
     match l,D with
     |[y,z],_=>exact⟨y,z,rfl⟩
    obtain⟨j,n⟩:=Vl.two (x:=y) (y:=z) p;obtain⟨k1,k2⟩:=zna (P:=P) (w:=w) b j n;simp only[e7]at k1;exact⟨v,by simp[execOp,resolve,invoke,builtin,Builtin.max_,k1],k2⟩
   ·cases b
  ·cases r
end
end Go.Am
