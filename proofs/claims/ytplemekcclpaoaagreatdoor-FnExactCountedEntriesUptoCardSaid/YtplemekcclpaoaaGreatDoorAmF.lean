import Derived.Test.YtplemekcclpaoaaGreatDoorAmE
namespace Go.Am
section
variable {m:Mu}{a:Act}{w:World}{P:Program}
variable{v:Value}{vs:List Value}
theorem Vl.one{x:Operand}(h:Vl m [v] ([x].map a.eval)):V m v (a.eval x):=by
 obtain⟨y,ys,e,hv,_⟩:=h.cons_inv;cases e;exact hv
theorem Vl.two{x y:Operand}{u:Value}(h:Vl m [v,u] ([x,y].map a.eval)):V m v (a.eval x)∧V m u (a.eval y):=by
 obtain⟨y,ys,e,hv,ht⟩:=h.cons_inv;cases e;exact⟨hv,Vl.one (x:=_) ht⟩
theorem Vl.len_eq{xs:List Operand}(h:Vl m vs (xs.map a.eval)):vs.length=xs.length:=by simpa using h.1
theorem zmn{b:Bool}{x y x' y':Value}(h:zgd b x y=some v)(hx:V m x x')(hy:V m y y'):
 ((if b then Builtin.max2 x' y' else Builtin.min2 x' y')).run P w=.ok v w∧V m v v:=by
 unfold zgd at h;split at h
 ·cases hx;cases hy;split at h
  ·cases h;refine⟨?_,.int _ _⟩;cases b<;>simp[Builtin.max2,Builtin.min2]
  ·cases h
 ·cases h
theorem zfw{z:List Value}(h:z.all zai=true):Vl m z z:=
 ⟨rfl,fun i x y hx hy=>by
   rw[hx]at hy;cases hy
   exact zmQ (List.all_eq_true.1 h x (List.mem_of_getElem? hx))⟩
theorem zuh:∀(l:List Field),(∀f,f∈l→∃i,P.info? f.type=some i)→
 (l.mapM (m:=Sem) fun f=>do pure (f.offset,←sizeOf f.type)).run P w=.ok (l.map fun f=>(f.offset,((P.info? f.type).map (·.size)).getD 0)) w:=by
 intro l;induction l with
 |nil=>intro _;simp
 |cons f l ih=>
  intro h;obtain⟨i,hi⟩:=h f (by simp);have hs:(sizeOf f.type).run P w=.ok i.size w:=by simp[sizeOf,typeInfo,hi]
  have ih':=ih (fun g hg=>h g (by simp[hg]));rw[List.mapM_cons];simp only[Sem.run_bind,hs,Result.andThen_ok,Sem.run_pure,ih'];simp[hi]
theorem zw7{fields:Array Field}{t:TypeId}(hu:P.underlying t=some (.struct fields))(i:Nat)(p:Nat×Nat)(h:zah P t i=some p):
 (fields.toList.map fun f=>(f.offset,((P.info? f.type).map (·.size)).getD 0)).toArray[i]? =some p:=by
 unfold zah at h;rw[hu]at h;simp only at h;split at h
 ·rename_i fd hf;split at h
  ·rename_i inf hi;split at h
   ·cases h
   ·cases h;have hf':fields.toList[i]? =some fd:=by simpa using hf
    simp[hi,hf]
  ·cases h
 ·cases h
theorem zsV{t:TypeId}{js:List Nat}{ys:List Value}(h:zkB P t js vs=some v)(hv:Vl m vs ys)(hl:js.length=vs.length):
 ∃y,(Instr.build t (js.zip ys).toArray).run P w=.ok y w∧V m v y:=by
 unfold zkB at h;split at h
 ·rename_i fields hu;split at h
  ·rename_i g sz by_ z ht;split at h
   ·rename_i hz;simp only[Bool.and_eq_true]at hz;obtain⟨hz,hall⟩:=hz;simp only[Option.map_eq_some_iff]at h;obtain⟨l,hf,rfl⟩:=h;obtain⟨i,zv,hi,hzv,hzc,_,_,_,_⟩:=zbp (w:=w) ht;have hrow:Vl m z zv.cells.toList:=by rw[hzc];exact zfw hz
    have hp:=zuh (P:=P) (w:=w) fields.toList (fun f hf=>Option.isSome_iff_exists.1 (List.all_eq_true.1 hall f hf))
    have hp':(fields.mapM (m:=Sem) fun f=>do pure (f.offset,←sizeOf f.type)).run P w=.ok (fields.toList.map fun f=>(f.offset,((P.info? f.type).map (·.size)).getD 0)).toArray w:=by
     rw[Array.mapM_eq_mapM_toList,Sem.run_map,hp,Result.andThen_ok]
    obtain⟨ca',h1,h2⟩:=zkV (zw7 hu) hf hv hrow hl;refine⟨.agg ca',?_,.agg (by simpa using h2.1) (by simpa using h2.2)⟩;have hzr:(zeroValue t).run P w=.ok zv w:=by simp[zeroValue,typeInfo,hi,hzv]
    simp only[Instr.build,Sem.run_bind,hzr,Result.andThen_ok,zb0 hu,hp'];rw[h1];simp
   ·cases h
  ·cases h
 ·rename_i n e hu;split at h
  ·rename_i g sz by_ z ht;split at h
   ·rename_i g2 es rest2 ht2;obtain⟨by2,z2⟩:=rest2;split at h
    ·rename_i hz;simp only[Option.map_eq_some_iff]at h;obtain⟨l,hf,rfl⟩:=h;obtain⟨i,zv,hi,hzv,hzc,_,_,_,_⟩:=zbp (w:=w) ht;obtain⟨i2,zv2,_,_,_,_,_,_,hs2⟩:=zbp (w:=w) ht2;have hrow:Vl m z zv.cells.toList:=by rw[hzc];exact zfw hz
     obtain⟨ca',h1,h2⟩:=zkV (fun _ _ h=>h) hf hv hrow hl;refine⟨.agg ca',?_,.agg (by simpa using h2.1) (by simpa using h2.2)⟩;simp[Instr.build,zeroValue,typeInfo,hi,hzv,zb0 hu,hs2,h1]
    ·cases h
   ·cases h
  ·cases h
 ·cases h
theorem ztj{o:Oper}{xs:List Operand}(hx:zaJ o.op=some xs)(hv:zaP P o.op vs=some v)(hs:Vl m vs (xs.map a.eval)):
 ∃y,(execOp a.eval o).run P w=.ok (.value y) w∧V m v y:=by
 obtain⟨dst,op,ty,pos,af,g⟩:=o;simp only at hx hv;cases op<;>simp only[zaJ]at hx<;>try (cases hx;done)
 case move x=>
  cases hx;simp only[zaP]at hv;split at hv<;>cases hv;exact⟨_,by simp[execOp],hs.one⟩
 case assign x=>
  cases hx;simp only[zaP]at hv;split at hv<;>cases hv;exact⟨_,by simp[execOp],hs.one⟩
 case unOp op t x=>
  cases hx;simp only[zaP]at hv;split at hv
  ·obtain⟨z,h1,h2⟩:=zxT (P:=P) (w:=w) hv hs.one;exact⟨z,by simp[execOp,h1],h2⟩
  ·cases hv
 case convert s d x=>
  cases hx;simp only[zaP]at hv;split at hv
  ·obtain⟨z,h1,h2⟩:=zum (P:=P) (w:=w) hv hs.one;exact⟨z,by simp[execOp,h1],h2⟩
  ·cases hv
 case field t x f=>
  cases hx;simp only[zaP]at hv;split at hv
  ·obtain⟨z,h1,h2⟩:=zsZ (P:=P) (w:=w) hv hs.one;exact⟨z,by simp[execOp,h1],h2⟩
  ·cases hv
 case extract x i=>
  cases hx;simp only[zaP]at hv;split at hv
  ·rename_i us;have h1:=hs.one;generalize hz:a.eval x=z at h1;cases h1 with
   |junk=>simp at hv
   |tuple hl k=>
    rename_i ys
    have hi:i<ys.toList.length:=by
     rw[←hl];rcases Nat.lt_or_ge i us.toList.length with h|h
     ·exact h
     ·rw[List.getElem?_eq_none h]at hv;cases hv
    refine⟨ys.toList[i],?_,k i v _ hv (List.getElem?_eq_getElem hi)⟩
    have:ys[i]? =some ys.toList[i]:=by
     rw[←Array.getElem?_toList];exact List.getElem?_eq_getElem hi
    simp[execOp,hz,Instr.extract,this]
  ·cases hv
 case binOp op t x y u=>
  cases hx;simp only[zaP]at hv;split at hv
  ·obtain⟨h1,h2⟩:=hs.two;obtain⟨k1,k2⟩:=zvQ (P:=P) (w:=w) (ox:=x) (oy:=y) hv h1 h2;simp only[Sem.run_bind]at k1;refine⟨v,?_,k2⟩;simp only[execOp,Sem.run_bind,k1,Result.andThen_ok,Sem.run_pure]
  ·cases hv
 case index t x y=>
  cases hx;simp only[zaP]at hv;split at hv
  ·obtain⟨h1,h2⟩:=hs.two;obtain⟨z,k1,k2⟩:=zsR (P:=P) (w:=w) hv h1 h2;exact⟨z,by simp[execOp,k1],k2⟩
  ·cases hv
 case build t ps=>
  cases hx;simp only[zaP]at hv;obtain⟨z,k1,k2⟩:=zsV (P:=P) (w:=w) hv hs (by have:=hs.len_eq;simp at this⊢;exact this.symm);refine⟨z,?_,k2⟩
  have e:((ps.toList.map (·.1)).zip ((ps.toList.map (·.2)).map a.eval)).toArray=ps.map fun(i,x)=>(i,a.eval x):=by
   apply Array.ext';simp[List.zip_map',List.map_map]
  rw[e]at k1;simp[execOp,k1]
 case makeFunc fn fs cs=>
  cases hx;simp only[zaP,Option.some.injEq]at hv;subst hv;refine⟨.func fn (fs.map a.eval) (cs.map a.eval),by simp[execOp,Instr.makeFunc],?_⟩;have h1:=hs.take fs.size;have h2:=hs.drop fs.size;simp only[List.map_append]at h1 h2;have e:(fs.toList.map a.eval).length=fs.size:=by simp
  rw[←e,List.take_left]at h1;rw[←e,List.drop_left]at h2;rw[e]at h1 h2;exact .func fn (by simpa using h1.1) (by simpa using h1.2) (by simpa using h2.1) (by simpa using h2.2)
 case slice t x l h mx=>
  cases hx;simp only[zaP]at hv;split at hv
  ·obtain⟨z,k1,k2⟩:=zgg (P:=P) (w:=w) (lo':=none) (hi':=none) (mx':=none) hv (hs.one) trivial trivial trivial;exact⟨z,by simp[execOp,k1],k2⟩
  ·rename_i l _ _;obtain⟨h1,h2⟩:=hs.two;obtain⟨z,k1,k2⟩:=zgg (P:=P) (w:=w) (lo':=some (a.eval l)) (hi':=none) (mx':=none) hv h1 h2 trivial trivial;exact⟨z,by simp[execOp,k1],k2⟩
  ·rename_i l _ _;obtain⟨h1,h2⟩:=hs.two;obtain⟨z,k1,k2⟩:=zgg (P:=P) (w:=w) (lo':=none) (hi':=some (a.eval l)) (mx':=none) hv h1 trivial h2 trivial;exact⟨z,by simp[execOp,k1],k2⟩
  ·rename_i l h _ _ _;obtain⟨y,ys,e,h1,ht⟩:=hs.cons_inv;cases e;obtain⟨h2,h3⟩:=Vl.two (x:=l) (y:=h) ht;obtain⟨z,k1,k2⟩:=zgg (P:=P) (w:=w) (lo':=some (a.eval l)) (hi':=some (a.eval h)) (mx':=none) hv h1 h2 h3 trivial;exact⟨z,by simp[execOp,k1],k2⟩
  ·rename_i l h q _ _ _ _;obtain⟨y,ys,e,h1,ht⟩:=hs.cons_inv;cases e;obtain⟨y,ys,e,h2,ht⟩:=ht.cons_inv;cases e;obtain⟨h3,h4⟩:=Vl.two (x:=h) (y:=q) ht;obtain⟨z,k1,k2⟩:=zgg (P:=P) (w:=w) (lo':=some (a.eval l)) (hi':=some (a.eval h)) (mx':=some (a.eval q)) hv h1 h2 h3 h4;exact⟨z,by simp[execOp,k1],k2⟩
  ·rename_i h q _ _ _;obtain⟨y,ys,e,h1,ht⟩:=hs.cons_inv;cases e;obtain⟨h3,h4⟩:=Vl.two (x:=h) (y:=q) ht;obtain⟨z,k1,k2⟩:=zgg (P:=P) (w:=w) (lo':=none) (hi':=some (a.eval h)) (mx':=some (a.eval q)) hv h1 trivial h3 h4;exact⟨z,by simp[execOp,k1],k2⟩
  ·cases hv
 case call c=>
  obtain⟨callee,args,argTypes⟩:=c;simp only[zaP]at hv;simp only at hx hv;split at hx
  ·cases hx;simp only at hv;split at hv
   ·rename_i x t ht;have hn:=hs.len_eq
    obtain⟨y,rfl⟩:∃y,args= #[y]:=by
     obtain⟨l⟩:=args
     match l,hn with
     |[y],_=>exact⟨y,rfl⟩
    obtain⟨l⟩:=argTypes;simp only at ht;subst ht;obtain⟨k1,k2⟩:=zwF (P:=P) (w:=w) (ty:=ty) hv (Vl.one (x:=y) hs);exact⟨v,by simp[execOp,resolve,invoke,builtin,k1],k2⟩
   ·cases hv
  ·cases hx;simp only at hv;split at hv
   ·rename_i x x2;have hn:=hs.len_eq
    obtain⟨y,z,rfl⟩:∃y z,args= #[y,z]:=by
     obtain⟨l⟩:=args
     match l,hn with
     |[y,z],_=>exact⟨y,z,rfl⟩
    obtain⟨h1,h2⟩:=Vl.two (x:=y) (y:=z) hs;obtain⟨k1,k2⟩:=zmn (P:=P) (w:=w) hv h1 h2;simp only[Bool.false_eq_true,if_false]at k1;exact⟨v,by simp[execOp,resolve,invoke,builtin,Builtin.min_,k1],k2⟩
   ·cases hv
  ·cases hx;simp only at hv;split at hv
   ·rename_i x x2;have hn:=hs.len_eq
    obtain⟨y,z,rfl⟩:∃y z,args= #[y,z]:=by
     obtain⟨l⟩:=args
     match l,hn with
     |[y,z],_=>exact⟨y,z,rfl⟩
    obtain⟨h1,h2⟩:=Vl.two (x:=y) (y:=z) hs;obtain⟨k1,k2⟩:=zmn (P:=P) (w:=w) hv h1 h2;simp only[if_true]at k1;exact⟨v,by simp[execOp,resolve,invoke,builtin,Builtin.max_,k1],k2⟩
   ·cases hv
  ·cases hx
end
end Go.Am
