import Derived.Test.YtnojafnlicbhpaaGreatAmE
open Option renaming none→ae,some→J
open Bool renaming true→Z
set_option linter.defProp false
namespace Go.Am
def mz:=@List.map_append
def te:=@Array.ext'
def tf:=@List.map_map
def Qd:=@List.drop_left
def a5q:=@Array.mapM_eq_mapM_toList
section
variable {m:Mu}{a:Act}{w:World}{P:Program}
variable{v:Value}{vs:List Value}
def Vl.one{x:Operand}(h:Vl m [v] ([x].map a.eval)):V m v (a.eval x):=by
 obtain⟨y,ys,e,hv,_⟩:=h.cons_inv;cases e;exact hv
def Vl.two{x y:Operand}{u:Value}(h:Vl m [v,u] ([x,y].map a.eval)):V m v (a.eval x)/\V m u (a.eval y):=by
 obtain⟨y,ys,e,hv,ht⟩:=h.cons_inv;cases e;exact⟨hv,Vl.one (x:=_) ht⟩
def Vl.JP{xs:List Operand}(h:Vl m vs (xs.map a.eval)):vs.length=xs.length:=by simpa using h.1
def znh{b:Bool}{x y x' y':Value}(h:vz b x y=J v)(hx:V m x x')(hy:V m y y'):
 ((if b then Builtin.max2 x' y' else Builtin.min2 x' y')).run P w=.ok v w/\V m v v:=by
 unfold vz at h;split at h
 ·cases hx;cases hy;split at h
  ·cases h;refine⟨?_,.int _ _⟩;cases b<;>simp[Builtin.max2,Builtin.min2]
  ·cases h
 ·cases h
def CN{z:List Value}(h:z.all cz=Z):Vl m z z:=
 ⟨rfl,λi x y hx hy=>by
   rw[hx]at hy;cases hy
   exact OX (bm.1 h x (eA hx))⟩
def zwz:∀(l:List Field),(∀f,f∈l->∃i,P.info? f.type=J i)->
 (l.mapM (m:=Sem) λf=>do pure (f.offset,<-sizeOf f.type)).run P w=.ok (l.map λf=>(f.offset,((P.info? f.type).map (·.size)).getD 0)) w:=by
 intro l;induction l with
 |nil=>intro _;simp
 |cons f l ih=>
  intro h;obtain⟨i,hi⟩:=h f (by simp);have hs:(sizeOf f.type).run P w=.ok i.size w:=by simp[sizeOf,typeInfo,hi]
  have ih':=ih (λg hg=>h g (by simp[hg]));rw[List.mapM_cons];simp only[Sem.run_bind,hs,Result.andThen_ok,Sem.run_pure,ih'];simp[hi]
def zxJ{jX:Array Field}{t:TypeId}(hu:P.underlying t=J (.struct jX))(i:Nat)(p:Nat×Nat)(h:dA P t i=J p):
 (jX.toList.map λf=>(f.offset,((P.info? f.type).map (·.size)).getD 0)).toArray[i]? =J p:=by
 unfold dA at h;rw[hu]at h;simp only at h;split at h
 ·rename_i fd hf;split at h
  ·rename_i inf hi;split at h
   ·cases h
   ·cases h;have p7:jX.toList[i]? =J fd:=by simpa using hf
    simp[hi,hf]
  ·cases h
 ·cases h
def zun{t:TypeId}{js:List Nat}{ys:List Value}(h:Fm P t js vs=J v)(hv:Vl m vs ys)(hl:js.length=vs.length):
 ∃y,(Instr.build t (js.zip ys).toArray).run P w=.ok y w/\V m v y:=by
 unfold Fm at h;split at h
 ·rename_i jX hu;split at h
  ·rename_i g sz cG z ht;split at h
   ·rename_i hz;simp only[bK]at hz;obtain⟨hz,qp⟩:=hz;simp only[bP]at h;obtain⟨l,hf,rfl⟩:=h;obtain⟨i,zv,hi,Qs,jC,_,_,_,_⟩:=jN (w:=w) ht;have en:Vl m z zv.cells.toList:=by rw[jC];exact CN hz
    have hp:=zwz (P:=P) (w:=w) jX.toList (λf hf=>HG.1 (bm.1 qp f hf))
    have QO:(jX.mapM (m:=Sem) λf=>do pure (f.offset,<-sizeOf f.type)).run P w=.ok (jX.toList.map λf=>(f.offset,((P.info? f.type).map (·.size)).getD 0)).toArray w:=by
     rw[a5q,Sem.run_map,hp,Result.andThen_ok]
    obtain⟨v7,h1,h2⟩:=U1 (zxJ hu) hf hv en hl;refine⟨.agg v7,?_,.agg (by simpa using h2.1) (by simpa using h2.2)⟩;have QY:(zeroValue t).run P w=.ok zv w:=by simp[zeroValue,typeInfo,hi,Qs]
    simp only[Instr.build,Sem.run_bind,QY,Result.andThen_ok,jA hu,QO];rw[h1];simp
   ·cases h
  ·cases h
 ·rename_i n e hu;split at h
  ·rename_i g sz cG z ht;split at h
   ·rename_i g2 es a3c xj;obtain⟨by2,z2⟩:=a3c;split at h
    ·rename_i hz;simp only[bP]at h;obtain⟨l,hf,rfl⟩:=h;obtain⟨i,zv,hi,Qs,jC,_,_,_,_⟩:=jN (w:=w) ht;obtain⟨i2,zv2,_,_,_,_,_,_,f9⟩:=jN (w:=w) xj;have en:Vl m z zv.cells.toList:=by rw[jC];exact CN hz
     obtain⟨v7,h1,h2⟩:=U1 (λ_ _ h=>h) hf hv en hl;refine⟨.agg v7,?_,.agg (by simpa using h2.1) (by simpa using h2.2)⟩;simp[Instr.build,zeroValue,typeInfo,hi,Qs,jA hu,f9,h1]
    ·cases h
   ·cases h
  ·cases h
 ·cases h
def zub{o:Oper}{xs:List Operand}(hx:gG o.op=J xs)(hv:eY P o.op vs=J v)(hs:Vl m vs (xs.map a.eval)):
 ∃y,(execOp a.eval o).run P w=.ok (.value y) w/\V m v y:=by
 obtain⟨dst,op,ty,pos,af,g⟩:=o;simp only at hx hv;cases op<;>simp only[gG]at hx<;>try (cases hx;done)
 case move x=>
  cases hx;simp only[eY]at hv;split at hv<;>cases hv;exact⟨_,by simp[execOp],hs.one⟩
 case assign x=>
  cases hx;simp only[eY]at hv;split at hv<;>cases hv;exact⟨_,by simp[execOp],hs.one⟩
 case unOp op t x=>
  cases hx;simp only[eY]at hv;split at hv
  ·obtain⟨z,h1,h2⟩:=zzB (P:=P) (w:=w) hv hs.one;exact⟨z,by simp[execOp,h1],h2⟩
  ·cases hv
 case convert s d x=>
  cases hx;simp only[eY]at hv;split at hv
  ·obtain⟨z,h1,h2⟩:=zwJ (P:=P) (w:=w) hv hs.one;exact⟨z,by simp[execOp,h1],h2⟩
  ·cases hv
 case field t x f=>
  cases hx;simp only[eY]at hv;split at hv
  ·obtain⟨z,h1,h2⟩:=zup (P:=P) (w:=w) hv hs.one;exact⟨z,by simp[execOp,h1],h2⟩
  ·cases hv
 case extract x i=>
  cases hx;simp only[eY]at hv;split at hv
  ·rename_i us;have h1:=hs.one;generalize hz:a.eval x=z at h1;cases h1 with
   |ax=>simp at hv
   |tuple hl k=>
    rename_i ys
    have hi:i<ys.toList.length:=by
     rw[<-hl];rcases dQ i us.toList.length with h|h
     ·exact h
     ·rw[BX h]at hv;cases hv
    refine⟨ys.toList[i],?_,k i v _ hv (cJ hi)⟩
    have:ys[i]? =J ys.toList[i]:=by
     rw[<-VV];exact cJ hi
    simp[execOp,hz,Instr.extract,this]
  ·cases hv
 case binOp op t x y u=>
  cases hx;simp only[eY]at hv;split at hv
  ·obtain⟨h1,h2⟩:=hs.two;obtain⟨k1,k2⟩:=zxO (P:=P) (w:=w) (ox:=x) (oy:=y) hv h1 h2;simp only[Sem.run_bind]at k1;refine⟨v,?_,k2⟩;simp only[execOp,Sem.run_bind,k1,Result.andThen_ok,Sem.run_pure]
  ·cases hv
 case index t x y=>
  cases hx;simp only[eY]at hv;split at hv
  ·obtain⟨h1,h2⟩:=hs.two;obtain⟨z,k1,k2⟩:=zuq (P:=P) (w:=w) hv h1 h2;exact⟨z,by simp[execOp,k1],k2⟩
  ·cases hv
 case build t ps=>
  cases hx;simp only[eY]at hv;obtain⟨z,k1,k2⟩:=zun (P:=P) (w:=w) hv hs (by have:=hs.JP;simp at this⊢;exact this.symm);refine⟨z,?_,k2⟩
  have e:((ps.toList.map (·.1)).zip ((ps.toList.map (·.2)).map a.eval)).toArray=ps.map λ(i,x)=>(i,a.eval x):=by
   apply te;simp[List.zip_map',tf]
  rw[e]at k1;simp[execOp,k1]
 case makeFunc fn fs cs=>
  cases hx;simp only[eY,aT]at hv;subst hv;refine⟨.func fn (fs.map a.eval) (cs.map a.eval),by simp[execOp,Instr.makeFunc],?_⟩;have h1:=hs.take fs.size;have h2:=hs.drop fs.size;simp only[mz]at h1 h2;have e:(fs.toList.map a.eval).length=fs.size:=by simp
  rw[<-e,List.take_left]at h1;rw[<-e,Qd]at h2;rw[e]at h1 h2;exact .func fn (by simpa using h1.1) (by simpa using h1.2) (by simpa using h2.1) (by simpa using h2.2)
 case slice t x l h mx=>
  cases hx;simp only[eY]at hv;split at hv
  ·obtain⟨z,k1,k2⟩:=G6 (P:=P) (w:=w) (lo':=ae) (hi':=ae) (mx':=ae) hv (hs.one) trivial trivial trivial;exact⟨z,by simp[execOp,k1],k2⟩
  ·rename_i l _ _;obtain⟨h1,h2⟩:=hs.two;obtain⟨z,k1,k2⟩:=G6 (P:=P) (w:=w) (lo':=J (a.eval l)) (hi':=ae) (mx':=ae) hv h1 h2 trivial trivial;exact⟨z,by simp[execOp,k1],k2⟩
  ·rename_i l _ _;obtain⟨h1,h2⟩:=hs.two;obtain⟨z,k1,k2⟩:=G6 (P:=P) (w:=w) (lo':=ae) (hi':=J (a.eval l)) (mx':=ae) hv h1 trivial h2 trivial;exact⟨z,by simp[execOp,k1],k2⟩
  ·rename_i l h _ _ _;obtain⟨y,ys,e,h1,ht⟩:=hs.cons_inv;cases e;obtain⟨h2,h3⟩:=Vl.two (x:=l) (y:=h) ht;obtain⟨z,k1,k2⟩:=G6 (P:=P) (w:=w) (lo':=J (a.eval l)) (hi':=J (a.eval h)) (mx':=ae) hv h1 h2 h3 trivial;exact⟨z,by simp[execOp,k1],k2⟩
  ·rename_i l h q _ _ _ _;obtain⟨y,ys,e,h1,ht⟩:=hs.cons_inv;cases e;obtain⟨y,ys,e,h2,ht⟩:=ht.cons_inv;cases e;obtain⟨h3,h4⟩:=Vl.two (x:=h) (y:=q) ht;obtain⟨z,k1,k2⟩:=G6 (P:=P) (w:=w) (lo':=J (a.eval l)) (hi':=J (a.eval h)) (mx':=J (a.eval q)) hv h1 h2 h3 h4;exact⟨z,by simp[execOp,k1],k2⟩
  ·rename_i h q _ _ _;obtain⟨y,ys,e,h1,ht⟩:=hs.cons_inv;cases e;obtain⟨h3,h4⟩:=Vl.two (x:=h) (y:=q) ht;obtain⟨z,k1,k2⟩:=G6 (P:=P) (w:=w) (lo':=ae) (hi':=J (a.eval h)) (mx':=J (a.eval q)) hv h1 trivial h3 h4;exact⟨z,by simp[execOp,k1],k2⟩
  ·cases hv
 case call c=>
  obtain⟨callee,args,argTypes⟩:=c;simp only[eY]at hv;simp only at hx hv;split at hx
  ·cases hx;simp only at hv;split at hv
   ·rename_i x t ht;have hn:=hs.JP
    obtain⟨y,rfl⟩:∃y,args= #[y]:=by
     obtain⟨l⟩:=args
     match l,hn with
     |[y],_=>exact⟨y,rfl⟩
    obtain⟨l⟩:=argTypes;simp only at ht;subst ht;obtain⟨k1,k2⟩:=zx3 (P:=P) (w:=w) (ty:=ty) hv (Vl.one (x:=y) hs);exact⟨v,by simp[execOp,resolve,invoke,builtin,k1],k2⟩
   ·cases hv
  ·cases hx;simp only at hv;split at hv
   ·rename_i x x2;have hn:=hs.JP
    obtain⟨y,z,rfl⟩:∃y z,args= #[y,z]:=by
     obtain⟨l⟩:=args
     match l,hn with
     |[y,z],_=>exact⟨y,z,rfl⟩
    obtain⟨h1,h2⟩:=Vl.two (x:=y) (y:=z) hs;obtain⟨k1,k2⟩:=znh (P:=P) (w:=w) hv h1 h2;simp only[qH,my]at k1;exact⟨v,by simp[execOp,resolve,invoke,builtin,Builtin.min_,k1],k2⟩
   ·cases hv
  ·cases hx;simp only at hv;split at hv
   ·rename_i x x2;have hn:=hs.JP
    obtain⟨y,z,rfl⟩:∃y z,args= #[y,z]:=by
     obtain⟨l⟩:=args
     match l,hn with
     |[y,z],_=>exact⟨y,z,rfl⟩
    obtain⟨h1,h2⟩:=Vl.two (x:=y) (y:=z) hs;obtain⟨k1,k2⟩:=znh (P:=P) (w:=w) hv h1 h2;simp only[e9]at k1;exact⟨v,by simp[execOp,resolve,invoke,builtin,Builtin.max_,k1],k2⟩
   ·cases hv
  ·cases hx
end
end Go.Am
