import Derived.Test.YtnojafnlicbhpaaGreatAmE
open Option renaming none→ae,some→J
open Bool renaming true→Z
set_option linter.defProp false
namespace Go.Am
def l8:=@List.map_append
def sF:=@Array.ext'
def sG:=@List.map_map
def Oz:=@List.drop_left
def a2b:=@Array.mapM_eq_mapM_toList
section
variable {m:Mu}{a:Act}{w:World}{P:Program}
variable{v:Value}{vs:List Value}
def Vl.one{x:Operand}(h:Vl m [v] ([x].map a.eval)):V m v (a.eval x):=by
 obtain⟨y,ys,e,hv,_⟩:=h.cons_inv;cases e;exact hv
def Vl.two{x y:Operand}{u:Value}(h:Vl m [v,u] ([x,y].map a.eval)):V m v (a.eval x)/\V m u (a.eval y):=by
 obtain⟨y,ys,e,hv,ht⟩:=h.cons_inv;cases e;exact⟨hv,Vl.one (x:=_) ht⟩
def Vl.IQ{xs:List Operand}(h:Vl m vs (xs.map a.eval)):vs.length=xs.length:=by simpa using h.1
def WL{b:Bool}{x y x' y':Value}(h:uu b x y=J v)(hx:V m x x')(hy:V m y y'):
 ((if b then Builtin.max2 x' y' else Builtin.min2 x' y')).run P w=.ok v w/\V m v v:=by
 unfold uu at h;split at h
 ·cases hx;cases hy;split at h
  ·cases h;refine⟨?_,.int _ _⟩;cases b<;>simp[Builtin.max2,Builtin.min2]
  ·cases h
 ·cases h
def B0{z:List Value}(h:z.all ct=Z):Vl m z z:=
 ⟨rfl,λi x y hx hy=>by
   rw[hx]at hy;cases hy
   exact La (bm.1 h x (eo hx))⟩
def zwJ:∀(l:List Field),(∀f,f∈l->∃i,P.info? f.type=J i)->
 (l.mapM (m:=Sem) λf=>do pure (f.offset,<-sizeOf f.type)).run P w=.ok (l.map λf=>(f.offset,((P.info? f.type).map (·.size)).getD 0)) w:=by
 intro l;induction l with
 |nil=>intro _;simp
 |cons f l ih=>
  intro h;obtain⟨i,hi⟩:=h f (by simp);have hs:(sizeOf f.type).run P w=.ok i.size w:=by simp[sizeOf,typeInfo,hi]
  have ih':=ih (λg hg=>h g (by simp[hg]));rw[List.mapM_cons];simp only[Sem.run_bind,hs,Result.andThen_ok,Sem.run_pure,ih'];simp[hi]
def zx4{jX:Array Field}{t:TypeId}(hu:P.underlying t=J (.struct jX))(i:Nat)(p:Nat×Nat)(h:dv P t i=J p):
 (jX.toList.map λf=>(f.offset,((P.info? f.type).map (·.size)).getD 0)).toArray[i]? =J p:=by
 unfold dv at h;rw[hu]at h;simp only at h;split at h
 ·rename_i fd hf;split at h
  ·rename_i inf hi;split at h
   ·cases h
   ·cases h;have pH:jX.toList[i]? =J fd:=by simpa using hf
    simp[hi,hf]
  ·cases h
 ·cases h
def zuu{t:TypeId}{js:List Nat}{ys:List Value}(h:Gd P t js vs=J v)(hv:Vl m vs ys)(hl:js.length=vs.length):
 ∃y,(Instr.build t (js.zip ys).toArray).run P w=.ok y w/\V m v y:=by
 unfold Gd at h;split at h
 ·rename_i jX hu;split at h
  ·rename_i g sz cB z ht;split at h
   ·rename_i hz;simp only[bI]at hz;obtain⟨hz,ph⟩:=hz;simp only[bN]at h;obtain⟨l,hf,rfl⟩:=h;obtain⟨i,zv,hi,SK,jo,_,_,_,_⟩:=ju (w:=w) ht;have ej:Vl m z zv.cells.toList:=by rw[jo];exact B0 hz
    have hp:=zwJ (P:=P) (w:=w) jX.toList (λf hf=>Gt.1 (bm.1 ph f hf))
    have Qx:(jX.mapM (m:=Sem) λf=>do pure (f.offset,<-sizeOf f.type)).run P w=.ok (jX.toList.map λf=>(f.offset,((P.info? f.type).map (·.size)).getD 0)).toArray w:=by
     rw[a2b,Sem.run_map,hp,Result.andThen_ok]
    obtain⟨uA,h1,h2⟩:=PC (zx4 hu) hf hv ej hl;refine⟨.agg uA,?_,.agg (by simpa using h2.1) (by simpa using h2.2)⟩;have Qh:(zeroValue t).run P w=.ok zv w:=by simp[zeroValue,typeInfo,hi,SK]
    simp only[Instr.build,Sem.run_bind,Qh,Result.andThen_ok,jC hu,Qx];rw[h1];simp
   ·cases h
  ·cases h
 ·rename_i n e hu;split at h
  ·rename_i g sz cB z ht;split at h
   ·rename_i g2 es a1q uG;obtain⟨by2,z2⟩:=a1q;split at h
    ·rename_i hz;simp only[bN]at h;obtain⟨l,hf,rfl⟩:=h;obtain⟨i,zv,hi,SK,jo,_,_,_,_⟩:=ju (w:=w) ht;obtain⟨i2,zv2,_,_,_,_,_,_,fQ⟩:=ju (w:=w) uG;have ej:Vl m z zv.cells.toList:=by rw[jo];exact B0 hz
     obtain⟨uA,h1,h2⟩:=PC (λ_ _ h=>h) hf hv ej hl;refine⟨.agg uA,?_,.agg (by simpa using h2.1) (by simpa using h2.2)⟩;simp[Instr.build,zeroValue,typeInfo,hi,SK,jC hu,fQ,h1]
    ·cases h
   ·cases h
  ·cases h
 ·cases h
def zuM{o:Oper}{xs:List Operand}(hx:gw o.op=J xs)(hv:eD P o.op vs=J v)(hs:Vl m vs (xs.map a.eval)):
 ∃y,(execOp a.eval o).run P w=.ok (.value y) w/\V m v y:=by
 obtain⟨dst,op,ty,pos,af,g⟩:=o;simp only at hx hv;cases op<;>simp only[gw]at hx<;>try (cases hx;done)
 case move x=>
  cases hx;simp only[eD]at hv;split at hv<;>cases hv;exact⟨_,by simp[execOp],hs.one⟩
 case assign x=>
  cases hx;simp only[eD]at hv;split at hv<;>cases hv;exact⟨_,by simp[execOp],hs.one⟩
 case unOp op t x=>
  cases hx;simp only[eD]at hv;split at hv
  ·obtain⟨z,h1,h2⟩:=zy7 (P:=P) (w:=w) hv hs.one;exact⟨z,by simp[execOp,h1],h2⟩
  ·cases hv
 case convert s d x=>
  cases hx;simp only[eD]at hv;split at hv
  ·obtain⟨z,h1,h2⟩:=zwG (P:=P) (w:=w) hv hs.one;exact⟨z,by simp[execOp,h1],h2⟩
  ·cases hv
 case field t x f=>
  cases hx;simp only[eD]at hv;split at hv
  ·obtain⟨z,h1,h2⟩:=zuB (P:=P) (w:=w) hv hs.one;exact⟨z,by simp[execOp,h1],h2⟩
  ·cases hv
 case extract x i=>
  cases hx;simp only[eD]at hv;split at hv
  ·rename_i us;have h1:=hs.one;generalize hz:a.eval x=z at h1;cases h1 with
   |au=>simp at hv
   |tuple hl k=>
    rename_i ys
    have hi:i<ys.toList.length:=by
     rw[<-hl];rcases dK i us.toList.length with h|h
     ·exact h
     ·rw[AZ h]at hv;cases hv
    refine⟨ys.toList[i],?_,k i v _ hv (cE hi)⟩
    have:ys[i]? =J ys.toList[i]:=by
     rw[<-Ue];exact cE hi
    simp[execOp,hz,Instr.extract,this]
  ·cases hv
 case binOp op t x y u=>
  cases hx;simp only[eD]at hv;split at hv
  ·obtain⟨h1,h2⟩:=hs.two;obtain⟨k1,k2⟩:=zxI (P:=P) (w:=w) (ox:=x) (oy:=y) hv h1 h2;simp only[Sem.run_bind]at k1;refine⟨v,?_,k2⟩;simp only[execOp,Sem.run_bind,k1,Result.andThen_ok,Sem.run_pure]
  ·cases hv
 case index t x y=>
  cases hx;simp only[eD]at hv;split at hv
  ·obtain⟨h1,h2⟩:=hs.two;obtain⟨z,k1,k2⟩:=zuN (P:=P) (w:=w) hv h1 h2;exact⟨z,by simp[execOp,k1],k2⟩
  ·cases hv
 case build t ps=>
  cases hx;simp only[eD]at hv;obtain⟨z,k1,k2⟩:=zuu (P:=P) (w:=w) hv hs (by have:=hs.IQ;simp at this⊢;exact this.symm);refine⟨z,?_,k2⟩
  have e:((ps.toList.map (·.1)).zip ((ps.toList.map (·.2)).map a.eval)).toArray=ps.map λ(i,x)=>(i,a.eval x):=by
   apply sF;simp[List.zip_map',sG]
  rw[e]at k1;simp[execOp,k1]
 case makeFunc fn fs cs=>
  cases hx;simp only[eD,aT]at hv;subst hv;refine⟨.func fn (fs.map a.eval) (cs.map a.eval),by simp[execOp,Instr.makeFunc],?_⟩;have h1:=hs.take fs.size;have h2:=hs.drop fs.size;simp only[l8]at h1 h2;have e:(fs.toList.map a.eval).length=fs.size:=by simp
  rw[<-e,List.take_left]at h1;rw[<-e,Oz]at h2;rw[e]at h1 h2;exact .func fn (by simpa using h1.1) (by simpa using h1.2) (by simpa using h2.1) (by simpa using h2.2)
 case slice t x l h mx=>
  cases hx;simp only[eD]at hv;split at hv
  ·obtain⟨z,k1,k2⟩:=FL (P:=P) (w:=w) (lo':=ae) (hi':=ae) (mx':=ae) hv (hs.one) trivial trivial trivial;exact⟨z,by simp[execOp,k1],k2⟩
  ·rename_i l _ _;obtain⟨h1,h2⟩:=hs.two;obtain⟨z,k1,k2⟩:=FL (P:=P) (w:=w) (lo':=J (a.eval l)) (hi':=ae) (mx':=ae) hv h1 h2 trivial trivial;exact⟨z,by simp[execOp,k1],k2⟩
  ·rename_i l _ _;obtain⟨h1,h2⟩:=hs.two;obtain⟨z,k1,k2⟩:=FL (P:=P) (w:=w) (lo':=ae) (hi':=J (a.eval l)) (mx':=ae) hv h1 trivial h2 trivial;exact⟨z,by simp[execOp,k1],k2⟩
  ·rename_i l h _ _ _;obtain⟨y,ys,e,h1,ht⟩:=hs.cons_inv;cases e;obtain⟨h2,h3⟩:=Vl.two (x:=l) (y:=h) ht;obtain⟨z,k1,k2⟩:=FL (P:=P) (w:=w) (lo':=J (a.eval l)) (hi':=J (a.eval h)) (mx':=ae) hv h1 h2 h3 trivial;exact⟨z,by simp[execOp,k1],k2⟩
  ·rename_i l h q _ _ _ _;obtain⟨y,ys,e,h1,ht⟩:=hs.cons_inv;cases e;obtain⟨y,ys,e,h2,ht⟩:=ht.cons_inv;cases e;obtain⟨h3,h4⟩:=Vl.two (x:=h) (y:=q) ht;obtain⟨z,k1,k2⟩:=FL (P:=P) (w:=w) (lo':=J (a.eval l)) (hi':=J (a.eval h)) (mx':=J (a.eval q)) hv h1 h2 h3 h4;exact⟨z,by simp[execOp,k1],k2⟩
  ·rename_i h q _ _ _;obtain⟨y,ys,e,h1,ht⟩:=hs.cons_inv;cases e;obtain⟨h3,h4⟩:=Vl.two (x:=h) (y:=q) ht;obtain⟨z,k1,k2⟩:=FL (P:=P) (w:=w) (lo':=ae) (hi':=J (a.eval h)) (mx':=J (a.eval q)) hv h1 trivial h3 h4;exact⟨z,by simp[execOp,k1],k2⟩
  ·cases hv
 case call c=>
  obtain⟨callee,args,argTypes⟩:=c;simp only[eD]at hv;simp only at hx hv;split at hx
  ·cases hx;simp only at hv;split at hv
   ·rename_i x t ht;have hn:=hs.IQ
    obtain⟨y,rfl⟩:∃y,args= #[y]:=by
     obtain⟨l⟩:=args
     match l,hn with
     |[y],_=>exact⟨y,rfl⟩
    obtain⟨l⟩:=argTypes;simp only at ht;subst ht;obtain⟨k1,k2⟩:=zyu (P:=P) (w:=w) (ty:=ty) hv (Vl.one (x:=y) hs);exact⟨v,by simp[execOp,resolve,invoke,builtin,k1],k2⟩
   ·cases hv
  ·cases hx;simp only at hv;split at hv
   ·rename_i x x2;have hn:=hs.IQ
    obtain⟨y,z,rfl⟩:∃y z,args= #[y,z]:=by
     obtain⟨l⟩:=args
     match l,hn with
     |[y,z],_=>exact⟨y,z,rfl⟩
    obtain⟨h1,h2⟩:=Vl.two (x:=y) (y:=z) hs;obtain⟨k1,k2⟩:=WL (P:=P) (w:=w) hv h1 h2;simp only[p8,l7]at k1;exact⟨v,by simp[execOp,resolve,invoke,builtin,Builtin.min_,k1],k2⟩
   ·cases hv
  ·cases hx;simp only at hv;split at hv
   ·rename_i x x2;have hn:=hs.IQ
    obtain⟨y,z,rfl⟩:∃y z,args= #[y,z]:=by
     obtain⟨l⟩:=args
     match l,hn with
     |[y,z],_=>exact⟨y,z,rfl⟩
    obtain⟨h1,h2⟩:=Vl.two (x:=y) (y:=z) hs;obtain⟨k1,k2⟩:=WL (P:=P) (w:=w) hv h1 h2;simp only[eP]at k1;exact⟨v,by simp[execOp,resolve,invoke,builtin,Builtin.max_,k1],k2⟩
   ·cases hv
  ·cases hx
end
end Go.Am
