import Derived.Test.YtplemekcclpaoaaGreatDoorAmD
namespace Go.Am
section
variable {m:Mu}{a:Act}{w:World}{P:Program}
variable{k:IntKind}{lo lo':Option Value}{t:TypeId}{v x x' y:Value}{xs ys:Array Value}
theorem zxT{op:UnOp}(h:unV op x=some v)(hv:V m x y):∃z,(Op.unary op y).run P w=.ok z w∧V m v z:=by
 unfold unV at h;split at h
 ·cases hv;cases h;exact⟨_,rfl,.bool _⟩
 ·cases hv;cases h;exact⟨_,rfl,.int _ _⟩
 ·cases h
theorem zb0{d:TypeDesc}(h:P.underlying t=some d):(underlying t).run P w=.ok d w:=by
 simp[underlying,h]
theorem zkX(h:zde P t=some k):P.underlying t=some (.int k):=by
 unfold zde at h;split at h
 ·cases h;assumption
 ·cases h
theorem zb6{e:TypeId}(h:zaw P t=some e):P.underlying t=some (.slice e):=by
 unfold zaw at h;split at h
 ·cases h;assumption
 ·cases h
theorem zkW{e:TypeId}{n:Nat}(h:zj0 P t=some (n,e)):P.underlying t=some (.array n e):=by
 unfold zj0 at h;split at h
 ·cases h;assumption
 ·cases h
theorem zjA(h:zaE P t=true):P.underlying t=some .string:=by
 unfold zaE at h;split at h
 ·assumption
 ·cases h
theorem zqn(h:zix P t=true):P.underlying t=some .bool:=by
 unfold zix at h;split at h
 ·assumption
 ·cases h
theorem zum{s d:TypeId}(h:ziL P s d x=some v)(hv:V m x y):∃z,(convert s d y).run P w=.ok z w∧V m v z:=by
 unfold ziL at h;split at h
 ·rename_i sd k j n hs hk;cases hv;cases h;have hd:=zkX hk;refine⟨_,?_,.int _ _⟩;simp[convert,zb0 hs,zb0 hd,Conv.intToInt]
 ·cases h
theorem zrg{op:BinOp}{x y:Int}(h:zbJ op k x y=some v):(binOp op t (.int k x) (.int k y)).run P w=.ok v w:=by
 cases op<;>simp only[zbJ]at h<;>
  first
   |(cases h;simp[binOp,Op.intArith,Op.intBits,Op.intCmp])
   | (split at h
      ·cases h
      ·cases h;rename_i hy;simp[binOp,Op.intDiv,hy])
   |cases h
theorem zst(h:zde P t=some k){cs:Array Value}{o:Nat}(hv:cs.toList[o]? =some v):(part t cs o).run P w=.ok v w:=by
 have:=zkX h;rw[Array.getElem?_toList]at hv;simp[part,isAgg,zb0 this,hv]
theorem zw2{xs' ys':Array Value}(hx:Vl m xs.toList xs'.toList)(hy:Vl m ys.toList ys'.toList):∀{fs:List Field}{l:List Nat}{r:Bool},zlY P fs=some l→eqL xs.toList ys.toList l=some r→
 (Op.eqFields 9999 xs' ys' fs).run P w=.ok r w:=by
 intro fs;induction fs with
 |nil=>intro l r h1 h2;simp only[zlY]at h1;cases h1;simp only[eqL]at h2;cases h2;rfl
 |cons f fs ih=>
  intro l r h1 h2;simp only[zlY]at h1;split at h1
  ·rename_i hf;obtain⟨k,hk⟩:=Option.isSome_iff_exists.1 hf.2;simp only[Option.map_eq_some_iff]at h1;obtain⟨l',h3,rfl⟩:=h1;simp only[eqL]at h2;split at h2
   ·rename_i j a j' b ha hb;split at h2<;>try cases h2
    rename_i e;subst e;simp only[Option.map_eq_some_iff]at h2;obtain⟨r',h4,rfl⟩:=h2;obtain⟨va,pa,qa⟩:=hx.get ha;obtain⟨vb,pb,qb⟩:=hy.get hb;cases qa;cases qb;have:=ih h3 h4;simp only[Op.eqFields,hf.1,ne_eq,not_false_eq_true,if_true,Sem.run_bind,zst hk pa,zst hk pb,Result.andThen_ok,show(Op.equalIn 9999 f.type (.int j a) (.int j b)).run P w=.ok (a==b) w from run_equalIn_int w 9998 f.type j k a b (zkX hk)];cases a==b<;>simp[this]
   ·cases h2
  ·cases h1
theorem zrn{xs' ys':Array Value}{r:Bool}(h:(zmL P t).bind (eqL xs.toList ys.toList)=some r)(hx:Vl m xs.toList xs'.toList)(hy:Vl m ys.toList ys'.toList):
 P.eqGuardType P.depth t=false∧(Op.equalIn 10000 t (.agg xs') (.agg ys')).run P w=.ok r w:=by
 simp only[Option.bind_eq_some_iff]at h;obtain⟨l,h1,h2⟩:=h;unfold zmL at h1;split at h1
 ·rename_i fs hfs;split at h1
  ·rename_i hc;have e:P.fieldsOf t=fs:=by simp[Program.fieldsOf,hfs]
   refine⟨hc.2,?_⟩;rw[run_equalIn_struct w 9999 t xs' ys' (by rw[e];exact hfs) hc.1,e];exact zw2 hx hy h1 h2
  ·cases h1
 ·cases h1
theorem zvQ{op:BinOp}{ox oy:Operand}{y':Value}(h:za1 P op t x y=some v)(hx:V m x x')(hy:V m y y'):
 (do eqGuard op t ox oy x' y';binOp op t x' y').run P w=.ok v w∧V m v v:=by
 unfold za1 at h;split at h
 ·rename_i xs ys;cases hx with
  |agg h1 h2=>
   cases hy with
   |agg h3 h4=>
    split at h
    ·simp only[Option.map_eq_some_iff]at h;obtain⟨r,h5,rfl⟩:=h;obtain⟨g1,g2⟩:=zrn (w:=w) h5 ⟨h1,h2⟩ ⟨h3,h4⟩;refine⟨?_,.bool _⟩;rw[Sem.run_bind,run_eqGuard_agg _ _ _ _ _ _ _ g1,Result.andThen_ok,run_eql_struct,g2,Result.andThen_ok]
    ·simp only[Option.map_eq_some_iff]at h;obtain⟨r,h5,rfl⟩:=h;obtain⟨g1,g2⟩:=zrn (w:=w) h5 ⟨h1,h2⟩ ⟨h3,h4⟩;refine⟨?_,.bool _⟩;rw[Sem.run_bind,run_eqGuard_agg _ _ _ _ _ _ _ g1,Result.andThen_ok,run_neq_struct,g2,Result.andThen_ok]
    ·cases h
 ·cases hx;cases hy;rename_i k a j b
  have hg:(eqGuard op t ox oy (.int k a) (.int j b)).run P w=.ok () w:=by
   unfold eqGuard;split<;>rfl
  simp only[Sem.run_bind,hg,Result.andThen_ok];split at h
  ·split at h
   ·cases h
   ·cases h;rename_i hb;exact⟨by simp[binOp,Op.shift,hb],.int _ _⟩
  ·split at h
   ·cases h
   ·cases h;rename_i hb;exact⟨by simp[binOp,Op.shift,hb],.int _ _⟩
  ·split at h
   ·rename_i e;subst e;refine⟨zrg h,?_⟩;cases op<;>simp only[zbJ]at h<;>first|(cases h;first|exact .int _ _|exact .bool _)|(split at h<;>first|(cases h;first|exact .int _ _|exact .bool _)|cases h)|cases h
   ·cases h
 ·cases hx;cases hy;rename_i a b;split at h
  ·rename_i hb;have hu:=zqn hb
   have hg:(eqGuard op t ox oy (.bool a) (.bool b)).run P w=.ok () w:=by
    unfold eqGuard;split<;>rfl
   simp only[Sem.run_bind,hg,Result.andThen_ok];split at h
   ·cases h;exact⟨by simp[binOp,Op.equal,Op.maxDepth,run_equalIn_bool w 9999 t a b hu],.bool _⟩
   ·cases h;exact⟨by simp[binOp,Op.equal,Op.maxDepth,run_equalIn_bool w 9999 t a b hu,bne],.bool _⟩
   ·cases h
  ·cases h
 ·cases hx;cases hy;rename_i a b
  have hg:(eqGuard op t ox oy (.string a) (.string b)).run P w=.ok () w:=by
   unfold eqGuard;split<;>rfl
  simp only[Sem.run_bind,hg,Result.andThen_ok];split at h
  ·cases h;exact⟨by simp[binOp,Op.stringOp],.bool _⟩
  ·cases h;exact⟨by simp[binOp,Op.stringOp],.bool _⟩
  ·split at h
   ·cases h;rename_i hs;exact⟨by simp only[binOp];exact run_string_add_sum w a b hs,.str _⟩
   ·cases h
  ·cases h
 ·cases h
def VO(m:Mu):Option Value→Option Value→Prop
 |none,none=>True
 |some x,some y=>V m x y
 |_,_=>False
theorem ztD(h:VO m lo lo'){i:Int}(e:lo=some (.int k i)):lo'=some (.int k i):=by
 subst e;cases lo' with
 |none=>cases h
 |some y=>have h':V m _ y:=h;cases h';rfl
theorem zjG{d q:Nat}(hq:bnd d lo=some q)(h:VO m lo lo'):(lo'=none∧lo=none∧q=d)∨∃k i,lo'=some (.int k i)∧0≤i∧q=i.toNat:=by
 unfold bnd at hq;split at hq
 ·cases hq;cases lo' with
  |none=>exact .inl ⟨rfl,rfl,rfl⟩
  |some y=>cases h
 ·split at hq
  ·cases hq;rename_i hh;exact .inr ⟨_,_,ztD h rfl,hh,rfl⟩
  ·cases hq
 ·cases hq
theorem zmt{q:Option Nat}(hq:zmB lo=some q)(h:VO m lo lo'):(lo'=none∧q=none)∨∃k i,lo'=some (.int k i)∧0≤i∧q=some i.toNat:=by
 unfold zmB at hq;split at hq
 ·cases hq;cases lo' with
  |none=>exact .inl ⟨rfl,rfl⟩
  |some y=>cases h
 ·split at hq
  ·cases hq;rename_i hh;exact .inr ⟨_,_,ztD h rfl,hh,rfl⟩
  ·cases hq
 ·cases hq
theorem zfi{i:Int}{y:Nat}{c:BoundsCode}(h0:0≤i)(h:i≤(y:Int)):(Instr.sliceBound (.int k i) y c).run P w=.ok i.toNat w:=by
 simp[Instr.sliceBound,asIntOf,h0,h]
theorem zja{b:Bool}{hi mx hi' mx':Option Value}{n c cap l h:Nat}{mo:Option Nat}(hb:zcW lo hi mx n c=some (l,h,mo))(hc:c≤cap)
(h1:VO m lo lo')(h2:VO m hi hi')(h3:VO m mx mx'):
 (Instr.sliceBounds b n cap lo' hi' mx').run P w=.ok (l,h,mo.getD cap) w∧l≤h∧h≤mo.getD cap∧(match mo with|none=>h≤c|some q=>q≤c):=by
 unfold zcW at hb;split at hb
 ·rename_i l1 q1 e1 e2 e3;split at hb
  ·rename_i hcond;cases hb;rcases zmt e3 h3 with⟨rfl,_⟩|⟨k,i,rfl,_,e⟩
   ·rcases zjG e2 h2 with⟨rfl,_,rfl⟩|⟨k2,i2,rfl,h02,rfl⟩
    ·rcases zjG e1 h1 with⟨rfl,_,rfl⟩|⟨k1,i1,rfl,h01,rfl⟩
     ·exact⟨by simp[Instr.sliceBounds],by omega,by simp;omega,by simp;omega⟩
     ·exact⟨by simp[Instr.sliceBounds,zfi h01 (show i1≤(h:Int)by omega)],by omega,by simp;omega,by simp;omega⟩
    ·have hs2:∀c',(Instr.sliceBound (.int k2 i2) cap c').run P w=.ok i2.toNat w:=fun c'=>zfi h02 (by omega)
     rcases zjG e1 h1 with⟨rfl,_,rfl⟩|⟨k1,i1,rfl,h01,rfl⟩
     ·exact⟨by simp[Instr.sliceBounds,hs2],by omega,by simp;omega,by simp;omega⟩
     ·exact⟨by simp[Instr.sliceBounds,hs2,zfi h01 (show i1≤(i2.toNat:Int)by omega)],by omega,by simp;omega,by simp;omega⟩
   ·cases e
  ·cases hb
 ·rename_i l1 q1 q3 e1 e2 e3;split at hb
  ·rename_i hcond;cases hb;rcases zmt e3 h3 with⟨_,e⟩|⟨k3,i3,rfl,h03,e⟩
   ·cases e
   ·cases e;rcases zjG e2 h2 with⟨_,rfl,_⟩|⟨k2,i2,rfl,h02,rfl⟩
    ·simp at hcond
    ·have hs3:∀c',(Instr.sliceBound (.int k3 i3) cap c').run P w=.ok i3.toNat w:=fun c'=>zfi h03 (by omega)
     have hs2:∀c',(Instr.sliceBound (.int k2 i2) i3.toNat c').run P w=.ok i2.toNat w:=fun c'=>zfi h02 (by omega)
     rcases zjG e1 h1 with⟨rfl,_,rfl⟩|⟨k1,i1,rfl,h01,rfl⟩
     ·exact⟨by simp[Instr.sliceBounds,hs3,hs2],by omega,by simp;omega,by simp;omega⟩
     ·exact⟨by simp[Instr.sliceBounds,hs3,hs2,zfi h01 (show i1≤(i2.toNat:Int)by omega)],by omega,by simp;omega,by simp;omega⟩
  ·cases hb
 ·cases hb
theorem zgg{hi mx hi' mx':Option Value}(h:ze6 P t x lo hi mx=some v)(hx:V m x x')
(h1:VO m lo lo')(h2:VO m hi hi')(h3:VO m mx mx'):∃y,(Instr.sliceAt t x' lo' hi' mx').run P w=.ok y w∧V m v y:=by
 unfold ze6 at h;split at h
 ·rename_i id off es' n c;split at h
  ·rename_i e he;have hu:=zb6 he;split at h
   ·rename_i g es rest ht;obtain⟨by_,z⟩:=rest;obtain⟨i,zv,_,_,_,_,_,_,hsz⟩:=zbp (w:=w) ht;split at h
    ·cases h
    ·rename_i hes;have hes:es=es':=by simpa using hes
     subst hes;cases hx with
     |slice hid k1 k2 k3 k4=>
      rename_i o cap;have add:∀l,l≤cap→l*es+(cap-l)*es=cap*es:=fun l hl=>by rw[←Nat.add_mul];congr 1;omega
      split at h
      ·rename_i l hh hb;cases h;obtain⟨hr,hl1,hl2,hl3⟩:=zja (P:=P) (w:=w) (m:=m) (b:=true) hb k2 h1 h2 h3;simp only[Option.getD_none]at hr hl2;simp only at hl3;have:=add l (by omega);refine⟨.slice (some ⟨(m.f id).blk,if cap=l then o else o+l*es,none⟩) (hh-l) (cap-l),?_,.slice hid (by omega) (by omega) (fun hp=>?_) (by omega)⟩
       ·simp[Instr.sliceAt,zb0 hu,Instr.slice,hr,hsz,zeS];split<;>rfl
       ·rw[if_neg (by omega),k3 (by omega),Nat.add_assoc]
      ·rename_i l hh q hb;obtain⟨hr,hl1,hl2,hl3⟩:=zja (P:=P) (w:=w) (m:=m) (b:=true) hb k2 h1 h2 h3;simp only[Option.getD_some]at hr hl2;simp only at hl3;have h5:=add l (by omega);have h6:(q-l)*es≤(cap-l)*es:=Nat.mul_le_mul_right _ (by omega)
       have hrun:(Instr.sliceAt t (.slice (some ⟨(m.f id).blk,o,none⟩) n cap) lo' hi' mx').run P w=.ok (.slice (some ⟨(m.f id).blk,if q=l then o else o+l*es,none⟩) (hh-l) (q-l)) w:=by
        simp[Instr.sliceAt,zb0 hu,Instr.slice,hr,hsz,zeS];split<;>rfl
       split at h
       ·cases h;rename_i hq;have e1:hh-l=0:=by omega
        rw[e1,hq]at hrun;exact⟨_,hrun,.nils _⟩
       ·cases h;refine⟨_,hrun,.slice hid (by omega) (by omega) (fun hp=>?_) (by omega)⟩;rw[if_neg (by omega),k3 (by omega),Nat.add_assoc]
      ·cases h
   ·cases h
  ·cases h
 ·split at h
  ·rename_i e he;have hu:=zb6 he;split at h
   ·rename_i rest ht;obtain⟨g,es,by_,z⟩:=rest;obtain⟨i,zv,_,_,_,_,_,_,hsz⟩:=zbp (w:=w) ht;split at h
    ·rename_i r hb;obtain⟨l,hh,mo⟩:=r;cases h;cases hx with
     |nils ad=>
      obtain⟨hr,hl1,hl2,hl3⟩:=zja (P:=P) (w:=w) (m:=m) (b:=true) hb (Nat.le_refl _) h1 h2 h3;have hm0:mo.getD 0=0:=by cases mo<;>simp_all
      rw[hm0]at hr hl2;have e1:hh=0:=by omega
      have e2:l=0:=by omega
      subst e1;subst e2;exact⟨.slice ad 0 0,by simp[Instr.sliceAt,zb0 hu,Instr.slice,hr,hsz],.nils _⟩
    ·cases h
   ·cases h
  ·cases h
 ·split at h
  ·rename_i ht;have hu:=zjA ht;cases hx with
   |str s=>
    split at h
    ·rename_i l hh hb;cases h;obtain⟨hr,hl1,hl2,hl3⟩:=zja (P:=P) (w:=w) (m:=m) (b:=false) hb (Nat.le_refl _) h1 h2 h3
     have hmx:mx'=none:=by
      unfold zcW at hb;split at hb
      ·rename_i e3;rcases zmt e3 h3 with⟨e,_⟩|⟨_,_,_,_,e⟩
       ·exact e
       ·cases e
      ·split at hb<;>simp at hb
      ·cases hb
     subst hmx;simp only[Option.getD_none]at hr;refine⟨_,?_,.str _⟩;simp[Instr.sliceAt,zb0 hu,Instr.slice,hr]
    ·cases h
  ·cases h
 ·cases h
theorem zoU{cs:List Value}{off:Nat}(h:zqZ P t cs off=some v)(hv:Vl m cs ys.toList):
 ∃y,(part t ys off).run P w=.ok y w∧V m v y:=by
 unfold zqZ at h;split at h
 ·rename_i sz rest ht;obtain⟨by_,z⟩:=rest;obtain⟨i,zv,_,_,_,_,_,ha,hs⟩:=zbp (w:=w) ht;simp only[Option.map_eq_some_iff]at h;obtain⟨l,h1,rfl⟩:=h;obtain⟨rfl,h2⟩:=zk3 h1;refine⟨.agg (ys.extract off (off+sz)),by simp[part,ha,hs],?_⟩;have:=(hv.drop off).take sz;refine .agg ?_ ?_
  ·simpa[List.extract_eq_take_drop]using this.1
  ·simpa[List.extract_eq_take_drop]using this.2
 ·rename_i sz rest ht;obtain⟨by_,z⟩:=rest;obtain⟨i,zv,_,_,_,_,_,ha,hs⟩:=zbp (w:=w) ht;have hg:cs[off]? =some v:=by simpa[List.head?_drop]using h
  obtain⟨y,hy,hV⟩:=hv.get hg;refine⟨y,?_,hV⟩;have hy':ys[off]? =some y:=by simpa using hy
  simp[part,ha,hy']
 ·cases h
theorem ztR(h:V m (.agg xs) y):∃ys,y=.agg ys∧Vl m xs.toList ys.toList:=by
 cases h with
 |agg hl k=>exact⟨_,rfl,hl,k⟩
theorem zsZ{f:Nat}(h:zrF P t f x=some v)(hx:V m x x'):∃y,(Instr.field t x' f).run P w=.ok y w∧V m v y:=by
 unfold zrF at h;split at h
 ·rename_i fields cs hu;obtain⟨ys,rfl,hv⟩:=ztR hx;split at h
  ·rename_i fd hf;obtain⟨y,hy,hV⟩:=zoU (P:=P) (w:=w) h hv;exact⟨y,by simp[Instr.field,zb0 hu,hf,asAgg,hy],hV⟩
  ·cases h
 ·cases h
theorem zsR{i i':Value}(h:zhS P t x i=some v)(hx:V m x x')(hi:V m i i'):∃y,(Instr.index t x' i').run P w=.ok y w∧V m v y:=by
 unfold zhS at h;split at h
 ·rename_i s k n;cases hx;cases hi;split at h
  ·rename_i hc;obtain⟨ht,h0⟩:=hc;have hu:=zjA ht;simp only[Option.map_eq_some_iff]at h;obtain⟨b,hb,rfl⟩:=h;exact⟨_,by simp[Instr.index,asIntOf,zb0 hu,h0,hb],.int _ _⟩
  ·cases h
 ·rename_i cs k n;obtain⟨ys,rfl,hv⟩:=ztR hx;cases hi;split at h
  ·rename_i len e he;have hu:=zkW he;split at h
   ·rename_i hc;split at h
    ·rename_i g es rest ht;obtain⟨by_,z⟩:=rest;obtain⟨i,zv,_,_,_,_,_,ha,hs⟩:=zbp (w:=w) ht;obtain⟨y,hy,hV⟩:=zoU (P:=P) (w:=w) h hv;exact⟨y,by simp[Instr.index,asIntOf,zb0 hu,hc,hs,hy],hV⟩
    ·cases h
   ·cases h
  ·cases h
 ·cases h
theorem zwF{ty:TypeId}(h:lenV P t x=some v)(hx:V m x x'):(Builtin.len_ #[t] ty #[x']).run P w=.ok v w∧V m v v:=by
 unfold lenV at h;split at h
 ·split at h
  ·rename_i e he;have hu:=zb6 he;cases h;cases hx<;>exact⟨by simp[Builtin.len_,zb0 hu,goInt],.int _ _⟩
  ·cases h
 ·split at h
  ·rename_i ht;have hu:=zjA ht;cases h;cases hx;exact⟨by simp[Builtin.len_,zb0 hu,goInt],.int _ _⟩
  ·cases h
 ·cases h
theorem zyp:∀(l:List Value) (k off:Nat) (ca:Array Value),off+k+l.length≤ca.size→
 (l.zipIdx k).foldl (fun(cs:Array Value) (p:Value×Nat)=>cs.setIfInBounds (off+p.2) p.1) ca=(ca.toList.take (off+k)++l++ca.toList.drop (off+k+l.length)).toArray:=by
 intro l;induction l with
 |nil=>intro k off ca h;simp
 |cons x l ih=>
  intro k off ca h;simp only[List.zipIdx_cons,List.foldl_cons];rw[ih (k+1) off _ (by simp at h⊢;omega)];have e:=list_seg_step ca.toList (off+k) x l (by simp at h⊢;omega);congr 1;simpa[Array.toList_setIfInBounds,Nat.add_assoc]using e
theorem zkV{place place':Nat→Option (Nat×Nat)}(hpl:∀i p,place i=some p→place' i=some p):∀{js:List Nat}{vs ys:List Value}{cs cs':List Value}{ca:Array Value},zdE place (js.zip vs) cs=some cs'→Vl m vs ys→Vl m cs ca.toList→
 js.length=vs.length→∃ca',Instr.fill place' ca (js.zip ys)=some ca'∧Vl m cs' ca'.toList:=by
 intro js;induction js with
 |nil=>
  intro vs ys cs cs' ca h hv hc _;simp only[List.zip_nil_left,zdE,Option.some.injEq]at h;subst h;exact⟨ca,by simp[Instr.fill],hc⟩
 |cons i js ih=>
  intro vs ys cs cs' ca h hv hc hlen;cases vs with
  |nil=>simp at hlen
  |cons v vs=>
   obtain⟨y,ys',rfl,hV,hvs⟩:=hv.cons_inv;simp only[List.zip_cons_cons,zdE]at h;split at h
   ·rename_i off size hp;split at h
    ·rename_i hcond;simp only[Bool.and_eq_true,beq_iff_eq]at hcond;split at h
     ·rename_i cs1 hput;have hne:v≠.tuple #[]:=fun e=>by subst e;simp[zgi]at hcond
      have hcells:=hV.cells hne;have hsz:y.cells.size=size:=by have:=hcells.1;have y1:=Array.length_toList (xs:=y.cells);omega
      have hcl:=hc.1;have hvl:v.cells.toList.length=y.cells.toList.length:=hcells.1;have y1:=Array.length_toList (xs:=y.cells);have y2:=Array.length_toList (xs:=ca);rcases zgO hput with⟨hnil,rfl⟩|⟨hle,rfl⟩
      ·rw[hnil]at hcond;simp at hcond;omega
      ·have hfit:off+0+y.cells.toList.length≤ca.size:=by omega
       have hf:=zyp y.cells.toList 0 off ca hfit
       have hv1:Vl m (cs.take off++v.cells.toList++cs.drop (off+v.cells.toList.length)) (ca.toList.take (off+0)++y.cells.toList++ca.toList.drop (off+0+y.cells.toList.length)):=by
        rw[Nat.add_zero,←hvl];exact((hc.take off).append hcells).append (hc.drop _)
       obtain⟨ca',h1,h2⟩:=ih (ca:=(ca.toList.take (off+0)++y.cells.toList++ca.toList.drop (off+0+y.cells.toList.length)).toArray) h hvs (by simpa using hv1) (by simpa using hlen);refine⟨ca',?_,h2⟩;simp only[List.zip_cons_cons,Instr.fill,hpl _ _ hp];rw[if_neg (by simp;omega)];rw[←hf]at h1;rw[←h1];congr 1;rw[←Array.foldl_toList];simp
     ·cases h
    ·cases h
   ·cases h
end
end Go.Am
