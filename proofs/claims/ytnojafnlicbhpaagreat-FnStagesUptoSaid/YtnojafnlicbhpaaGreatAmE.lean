import Derived.Test.YtnojafnlicbhpaaGreatAmD
open Bool renaming false→aa,true→Z
open Option renaming none→ae,some→J
set_option linter.defProp false
namespace Go.Am
def bI:=@Bool.and_eq_true
def bR:=@Option.bind_eq_some_iff
def gA:=@Nat.mul_le_mul_right
def nS:=@Nat.add_mul
def v8:=@Option.getD_some
def v9:=@beq_iff_eq
def wa:=@Array.length_toList
def Gq:=@Option.isSome_iff_exists
def Or:=@List.foldl_cons
def T6:=@Array.getElem?_toList
def Aak:=@Option.getD_none
def Aal:=@List.zip_cons_cons
def Ab5:=@List.extract_eq_take_drop
section
variable {m:Mu}{a:Act}{w:World}{P:Program}
variable{k:IntKind}{lo lo':Option Value}{t:TypeId}{v x x' y:Value}{xs ys:Array Value}
def zyZ{op:UnOp}(h:Ev op x=J v)(hv:V m x y):∃z,(Op.unary op y).run P w=.ok z w/\V m v z:=by
 unfold Ev at h;split at h
 ·cases hv;cases h;exact⟨_,rfl,.bool _⟩
 ·cases hv;cases h;exact⟨_,rfl,.int _ _⟩
 ·cases h
def jy{d:TypeDesc}(h:P.underlying t=J d):(underlying t).run P w=.ok d w:=by
 simp[underlying,h]
def Px(h:jW P t=J k):P.underlying t=J (.int k):=by
 unfold jW at h;split at h
 ·cases h;assumption
 ·cases h
def pe{e:TypeId}(h:cR P t=J e):P.underlying t=J (.slice e):=by
 unfold cR at h;split at h
 ·cases h;assumption
 ·cases h
def SK{e:TypeId}{n:Nat}(h:ze P t=J (n,e)):P.underlying t=J (.array n e):=by
 unfold ze at h;split at h
 ·cases h;assumption
 ·cases h
def Pn(h:dW P t=Z):P.underlying t=J .string:=by
 unfold dW at h;split at h
 ·assumption
 ·cases h
def zrD(h:ET P t=Z):P.underlying t=J .bool:=by
 unfold ET at h;split at h
 ·assumption
 ·cases h
def zv7{s d:TypeId}(h:Es P s d x=J v)(hv:V m x y):∃z,(convert s d y).run P w=.ok z w/\V m v z:=by
 unfold Es at h;split at h
 ·rename_i sd k j n hs hk;cases hv;cases h;have hd:=Px hk;refine⟨_,?_,.int _ _⟩;simp[convert,jy hs,jy hd,Conv.intToInt]
 ·cases h
def ztr{op:BinOp}{x y:Int}(h:jV op k x y=J v):(binOp op t (.int k x) (.int k y)).run P w=.ok v w:=by
 cases op<;>simp only[jV]at h<;>
  first
   |(cases h;simp[binOp,Op.intArith,Op.intBits,Op.intCmp])
   | (split at h
      ·cases h
      ·cases h;rename_i hy;simp[binOp,Op.intDiv,hy])
   |cases h
def Zo(h:jW P t=J k){cs:Array Value}{o:Nat}(hv:cs.toList[o]? =J v):(part t cs o).run P w=.ok v w:=by
 have:=Px h;rw[T6]at hv;simp[part,isAgg,jy this,hv]
def zyg{uf pm:Array Value}(hx:Vl m xs.toList uf.toList)(hy:Vl m ys.toList pm.toList):∀{fs:List Field}{l:List Nat}{r:Bool},G7 P fs=J l->tW xs.toList ys.toList l=J r->
 (Op.eqFields 9999 uf pm fs).run P w=.ok r w:=by
 intro fs;induction fs with
 |nil=>intro l r h1 h2;simp only[G7]at h1;cases h1;simp only[tW]at h2;cases h2;rfl
 |cons f fs ih=>
  intro l r h1 h2;simp only[G7]at h1;split at h1
  ·rename_i hf;obtain⟨k,hk⟩:=Gq.1 hf.2;simp only[bN]at h1;obtain⟨l',h3,rfl⟩:=h1;simp only[tW]at h2;split at h2
   ·rename_i j a j' b ha hb;split at h2<;>try cases h2
    rename_i e;subst e;simp only[bN]at h2;obtain⟨r',h4,rfl⟩:=h2;obtain⟨va,pa,qa⟩:=hx.get ha;obtain⟨vb,pb,qb⟩:=hy.get hb;cases qa;cases qb;have:=ih h3 h4;simp only[Op.eqFields,hf.1,ne_eq,not_false_eq_true,eP,Sem.run_bind,Zo hk pa,Zo hk pb,Result.andThen_ok,show(Op.equalIn 9999 f.type (.int j a) (.int j b)).run P w=.ok (a==b) w from run_equalIn_int w 9998 f.type j k a b (Px hk)];cases a==b<;>simp[this]
   ·cases h2
  ·cases h1
def ZI{uf pm:Array Value}{r:Bool}(h:(Be P t).bind (tW xs.toList ys.toList)=J r)(hx:Vl m xs.toList uf.toList)(hy:Vl m ys.toList pm.toList):
 P.eqGuardType P.depth t=aa/\(Op.equalIn 10000 t (.agg uf) (.agg pm)).run P w=.ok r w:=by
 simp only[bR]at h;obtain⟨l,h1,h2⟩:=h;unfold Be at h1;split at h1
 ·rename_i fs jC;split at h1
  ·rename_i hc;have e:P.fieldsOf t=fs:=by simp[Program.fieldsOf,jC]
   refine⟨hc.2,?_⟩;rw[run_equalIn_struct w 9999 t uf pm (by rw[e];exact jC) hc.1,e];exact zyg hx hy h1 h2
  ·cases h1
 ·cases h1
def zxf{op:BinOp}{ox oy:Operand}{y':Value}(h:cW P op t x y=J v)(hx:V m x x')(hy:V m y y'):
 (do eqGuard op t ox oy x' y';binOp op t x' y').run P w=.ok v w/\V m v v:=by
 unfold cW at h;split at h
 ·rename_i xs ys;cases hx with
  |agg h1 h2=>
   cases hy with
   |agg h3 h4=>
    split at h
    ·simp only[bN]at h;obtain⟨r,h5,rfl⟩:=h;obtain⟨g1,g2⟩:=ZI (w:=w) h5 ⟨h1,h2⟩ ⟨h3,h4⟩;refine⟨?_,.bool _⟩;rw[Sem.run_bind,run_eqGuard_agg _ _ _ _ _ _ _ g1,Result.andThen_ok,run_eql_struct,g2,Result.andThen_ok]
    ·simp only[bN]at h;obtain⟨r,h5,rfl⟩:=h;obtain⟨g1,g2⟩:=ZI (w:=w) h5 ⟨h1,h2⟩ ⟨h3,h4⟩;refine⟨?_,.bool _⟩;rw[Sem.run_bind,run_eqGuard_agg _ _ _ _ _ _ _ g1,Result.andThen_ok,run_neq_struct,g2,Result.andThen_ok]
    ·cases h
 ·cases hx;cases hy;rename_i k a j b
  have hg:(eqGuard op t ox oy (.int k a) (.int j b)).run P w=.ok () w:=by
   unfold eqGuard;split<;>rfl
  simp only[Sem.run_bind,hg,Result.andThen_ok];split at h
  ·split at h
   ·cases h
   ·cases h;rename_i hb;exact⟨by simp[binOp,Op.shift,hb],.int _ _⟩
  ·split at h
   ·cases h
   ·cases h;rename_i hb;exact⟨by simp[binOp,Op.shift,hb],.int _ _⟩
  ·split at h
   ·rename_i e;subst e;refine⟨ztr h,?_⟩;cases op<;>simp only[jV]at h<;>first|(cases h;first|exact .int _ _|exact .bool _)|(split at h<;>first|(cases h;first|exact .int _ _|exact .bool _)|cases h)|cases h
   ·cases h
 ·cases hx;cases hy;rename_i a b;split at h
  ·rename_i hb;have hu:=zrD hb
   have hg:(eqGuard op t ox oy (.bool a) (.bool b)).run P w=.ok () w:=by
    unfold eqGuard;split<;>rfl
   simp only[Sem.run_bind,hg,Result.andThen_ok];split at h
   ·cases h;exact⟨by simp[binOp,Op.equal,Op.maxDepth,run_equalIn_bool w 9999 t a b hu],.bool _⟩
   ·cases h;exact⟨by simp[binOp,Op.equal,Op.maxDepth,run_equalIn_bool w 9999 t a b hu,bne],.bool _⟩
   ·cases h
  ·cases h
 ·cases hx;cases hy;rename_i a b
  have hg:(eqGuard op t ox oy (.string a) (.string b)).run P w=.ok () w:=by
   unfold eqGuard;split<;>rfl
  simp only[Sem.run_bind,hg,Result.andThen_ok];split at h
  ·cases h;exact⟨by simp[binOp,Op.stringOp],.bool _⟩
  ·cases h;exact⟨by simp[binOp,Op.stringOp],.bool _⟩
  ·split at h
   ·cases h;rename_i hs;exact⟨by simp only[binOp];exact run_string_add_sum w a b hs,.str _⟩
   ·cases h
  ·cases h
 ·cases h
def VO(m:Mu):Option Value->Option Value->Prop
 |none,ae=>True
 |some x,J y=>V m x y
 |_,_=>False
def X8(h:VO m lo lo'){i:Int}(e:lo=J (.int k i)):lo'=J (.int k i):=by
 subst e;cases lo' with
 |none=>cases h
 |some y=>have h':V m _ y:=h;cases h';rfl
def Kf{d q:Nat}(hq:vd d lo=J q)(h:VO m lo lo'):(lo'=ae/\lo=ae/\q=d)\/∃k i,lo'=J (.int k i)/\0<=i/\q=i.toNat:=by
 unfold vd at hq;split at hq
 ·cases hq;cases lo' with
  |none=>exact .inl ⟨rfl,rfl,rfl⟩
  |some y=>cases h
 ·split at hq
  ·cases hq;rename_i hh;exact .inr ⟨_,_,X8 h rfl,hh,rfl⟩
  ·cases hq
 ·cases hq
def Qc{q:Option Nat}(hq:wj lo=J q)(h:VO m lo lo'):(lo'=ae/\q=ae)\/∃k i,lo'=J (.int k i)/\0<=i/\q=J i.toNat:=by
 unfold wj at hq;split at hq
 ·cases hq;cases lo' with
  |none=>exact .inl ⟨rfl,rfl⟩
  |some y=>cases h
 ·split at hq
  ·cases hq;rename_i hh;exact .inr ⟨_,_,X8 h rfl,hh,rfl⟩
  ·cases hq
 ·cases hq
def Dh{i:Int}{y:Nat}{c:BoundsCode}(h0:0<=i)(h:i<=(y:Int)):(Instr.sliceBound (.int k i) y c).run P w=.ok i.toNat w:=by
 simp[Instr.sliceBound,asIntOf,h0,h]
def NS{b:Bool}{hi mx hi' mx':Option Value}{n c cap l h:Nat}{mo:Option Nat}(hb:oe lo hi mx n c=J (l,h,mo))(hc:c<=cap)
(h1:VO m lo lo')(h2:VO m hi hi')(h3:VO m mx mx'):
 (Instr.sliceBounds b n cap lo' hi' mx').run P w=.ok (l,h,mo.getD cap) w/\l<=h/\h<=mo.getD cap/\(match mo with|none=>h<=c|some q=>q<=c):=by
 unfold oe at hb;split at hb
 ·rename_i l1 q1 e1 e2 e3;split at hb
  ·rename_i ye;cases hb;rcases Qc e3 h3 with⟨rfl,_⟩|⟨k,i,rfl,_,e⟩
   ·rcases Kf e2 h2 with⟨rfl,_,rfl⟩|⟨k2,i2,rfl,Rm,rfl⟩
    ·rcases Kf e1 h1 with⟨rfl,_,rfl⟩|⟨k1,i1,rfl,HE,rfl⟩
     ·exact⟨by simp[Instr.sliceBounds],by omega,by simp;omega,by simp;omega⟩
     ·exact⟨by simp[Instr.sliceBounds,Dh HE (show i1<=(h:Int)by omega)],by omega,by simp;omega,by simp;omega⟩
    ·have fL:∀c',(Instr.sliceBound (.int k2 i2) cap c').run P w=.ok i2.toNat w:=λc'=>Dh Rm (by omega)
     rcases Kf e1 h1 with⟨rfl,_,rfl⟩|⟨k1,i1,rfl,HE,rfl⟩
     ·exact⟨by simp[Instr.sliceBounds,fL],by omega,by simp;omega,by simp;omega⟩
     ·exact⟨by simp[Instr.sliceBounds,fL,Dh HE (show i1<=(i2.toNat:Int)by omega)],by omega,by simp;omega,by simp;omega⟩
   ·cases e
  ·cases hb
 ·rename_i l1 q1 q3 e1 e2 e3;split at hb
  ·rename_i ye;cases hb;rcases Qc e3 h3 with⟨_,e⟩|⟨k3,i3,rfl,h03,e⟩
   ·cases e
   ·cases e;rcases Kf e2 h2 with⟨_,rfl,_⟩|⟨k2,i2,rfl,Rm,rfl⟩
    ·simp at ye
    ·have hs3:∀c',(Instr.sliceBound (.int k3 i3) cap c').run P w=.ok i3.toNat w:=λc'=>Dh h03 (by omega)
     have fL:∀c',(Instr.sliceBound (.int k2 i2) i3.toNat c').run P w=.ok i2.toNat w:=λc'=>Dh Rm (by omega)
     rcases Kf e1 h1 with⟨rfl,_,rfl⟩|⟨k1,i1,rfl,HE,rfl⟩
     ·exact⟨by simp[Instr.sliceBounds,hs3,fL],by omega,by simp;omega,by simp;omega⟩
     ·exact⟨by simp[Instr.sliceBounds,hs3,fL,Dh HE (show i1<=(i2.toNat:Int)by omega)],by omega,by simp;omega,by simp;omega⟩
  ·cases hb
 ·cases hb
def FF{hi mx hi' mx':Option Value}(h:nz P t x lo hi mx=J v)(hx:V m x x')
(h1:VO m lo lo')(h2:VO m hi hi')(h3:VO m mx mx'):∃y,(Instr.sliceAt t x' lo' hi' mx').run P w=.ok y w/\V m v y:=by
 unfold nz at h;split at h
 ·rename_i id off bw n c;split at h
  ·rename_i e he;have hu:=pe he;split at h
   ·rename_i g es dD ht;obtain⟨cz,z⟩:=dD;obtain⟨i,zv,_,_,_,_,_,_,eA⟩:=jB (w:=w) ht;split at h
    ·cases h
    ·rename_i hes;have hes:es=bw:=by simpa using hes
     subst hes;cases hx with
     |slice bY k1 k2 k3 k4=>
      rename_i o cap;have add:∀l,l<=cap->l*es+(cap-l)*es=cap*es:=λl hl=>by rw[<-nS];congr 1;omega
      split at h
      ·rename_i l hh hb;cases h;obtain⟨hr,zO,EG,lm⟩:=NS (P:=P) (w:=w) (m:=m) (b:=Z) hb k2 h1 h2 h3;simp only[Aak]at hr EG;simp only at lm;have:=add l (by omega);refine⟨.slice (J ⟨(m.f id).bq,if cap=l then o else o+l*es,ae⟩) (hh-l) (cap-l),?_,.slice bY (by omega) (by omega) (λhp=>?_) (by omega)⟩
       ·simp[Instr.sliceAt,jy hu,Instr.slice,hr,eA,vo];split<;>rfl
       ·rw[az (by omega),k3 (by omega),iN]
      ·rename_i l hh q hb;obtain⟨hr,zO,EG,lm⟩:=NS (P:=P) (w:=w) (m:=m) (b:=Z) hb k2 h1 h2 h3;simp only[v8]at hr EG;simp only at lm;have h5:=add l (by omega);have h6:(q-l)*es<=(cap-l)*es:=gA _ (by omega)
       have dS:(Instr.sliceAt t (.slice (J ⟨(m.f id).bq,o,ae⟩) n cap) lo' hi' mx').run P w=.ok (.slice (J ⟨(m.f id).bq,if q=l then o else o+l*es,ae⟩) (hh-l) (q-l)) w:=by
        simp[Instr.sliceAt,jy hu,Instr.slice,hr,eA,vo];split<;>rfl
       split at h
       ·cases h;rename_i hq;have e1:hh-l=0:=by omega
        rw[e1,hq]at dS;exact⟨_,dS,.mH _⟩
       ·cases h;refine⟨_,dS,.slice bY (by omega) (by omega) (λhp=>?_) (by omega)⟩;rw[az (by omega),k3 (by omega),iN]
      ·cases h
   ·cases h
  ·cases h
 ·split at h
  ·rename_i e he;have hu:=pe he;split at h
   ·rename_i dD ht;obtain⟨g,es,cz,z⟩:=dD;obtain⟨i,zv,_,_,_,_,_,_,eA⟩:=jB (w:=w) ht;split at h
    ·rename_i r hb;obtain⟨l,hh,mo⟩:=r;cases h;cases hx with
     |mH ad=>
      obtain⟨hr,zO,EG,lm⟩:=NS (P:=P) (w:=w) (m:=m) (b:=Z) hb (cy _) h1 h2 h3;have r9:mo.getD 0=0:=by cases mo<;>simp_all
      rw[r9]at hr EG;have e1:hh=0:=by omega
      have e2:l=0:=by omega
      subst e1;subst e2;exact⟨.slice ad 0 0,by simp[Instr.sliceAt,jy hu,Instr.slice,hr,eA],.mH _⟩
    ·cases h
   ·cases h
  ·cases h
 ·split at h
  ·rename_i ht;have hu:=Pn ht;cases hx with
   |str s=>
    split at h
    ·rename_i l hh hb;cases h;obtain⟨hr,zO,EG,lm⟩:=NS (P:=P) (w:=w) (m:=m) (b:=aa) hb (cy _) h1 h2 h3
     have gD:mx'=ae:=by
      unfold oe at hb;split at hb
      ·rename_i e3;rcases Qc e3 h3 with⟨e,_⟩|⟨_,_,_,_,e⟩
       ·exact e
       ·cases e
      ·split at hb<;>simp at hb
      ·cases hb
     subst gD;simp only[Aak]at hr;refine⟨_,?_,.str _⟩;simp[Instr.sliceAt,jy hu,Instr.slice,hr]
    ·cases h
  ·cases h
 ·cases h
def Zu{cs:List Value}{off:Nat}(h:NZ P t cs off=J v)(hv:Vl m cs ys.toList):
 ∃y,(part t ys off).run P w=.ok y w/\V m v y:=by
 unfold NZ at h;split at h
 ·rename_i sz dD ht;obtain⟨cz,z⟩:=dD;obtain⟨i,zv,_,_,_,_,_,ha,hs⟩:=jB (w:=w) ht;simp only[bN]at h;obtain⟨l,h1,rfl⟩:=h;obtain⟨rfl,h2⟩:=Sj h1;refine⟨.agg (ys.extract off (off+sz)),by simp[part,ha,hs],?_⟩;have:=(hv.drop off).take sz;refine .agg ?_ ?_
  ·simpa[Ab5]using this.1
  ·simpa[Ab5]using this.2
 ·rename_i sz dD ht;obtain⟨cz,z⟩:=dD;obtain⟨i,zv,_,_,_,_,_,ha,hs⟩:=jB (w:=w) ht;have hg:cs[off]? =J v:=by simpa[List.head?_drop]using h
  obtain⟨y,hy,hV⟩:=hv.get hg;refine⟨y,?_,hV⟩;have iA:ys[off]? =J y:=by simpa using hy
  simp[part,ha,iA]
 ·cases h
def Y4(h:V m (.agg xs) y):∃ys,y=.agg ys/\Vl m xs.toList ys.toList:=by
 cases h with
 |agg hl k=>exact⟨_,rfl,hl,k⟩
def zuu{f:Nat}(h:T1 P t f x=J v)(hx:V m x x'):∃y,(Instr.field t x' f).run P w=.ok y w/\V m v y:=by
 unfold T1 at h;split at h
 ·rename_i jX cs hu;obtain⟨ys,rfl,hv⟩:=Y4 hx;split at h
  ·rename_i fd hf;obtain⟨y,hy,hV⟩:=Zu (P:=P) (w:=w) h hv;exact⟨y,by simp[Instr.field,jy hu,hf,asAgg,hy],hV⟩
  ·cases h
 ·cases h
def zuC{i i':Value}(h:rC P t x i=J v)(hx:V m x x')(hi:V m i i'):∃y,(Instr.index t x' i').run P w=.ok y w/\V m v y:=by
 unfold rC at h;split at h
 ·rename_i s k n;cases hx;cases hi;split at h
  ·rename_i hc;obtain⟨ht,h0⟩:=hc;have hu:=Pn ht;simp only[bN]at h;obtain⟨b,hb,rfl⟩:=h;exact⟨_,by simp[Instr.index,asIntOf,jy hu,h0,hb],.int _ _⟩
  ·cases h
 ·rename_i cs k n;obtain⟨ys,rfl,hv⟩:=Y4 hx;cases hi;split at h
  ·rename_i len e he;have hu:=SK he;split at h
   ·rename_i hc;split at h
    ·rename_i g es dD ht;obtain⟨cz,z⟩:=dD;obtain⟨i,zv,_,_,_,_,_,ha,hs⟩:=jB (w:=w) ht;obtain⟨y,hy,hV⟩:=Zu (P:=P) (w:=w) h hv;exact⟨y,by simp[Instr.index,asIntOf,jy hu,hc,hs,hy],hV⟩
    ·cases h
   ·cases h
  ·cases h
 ·cases h
def zxE{ty:TypeId}(h:iE P t x=J v)(hx:V m x x'):(Builtin.len_ #[t] ty #[x']).run P w=.ok v w/\V m v v:=by
 unfold iE at h;split at h
 ·split at h
  ·rename_i e he;have hu:=pe he;cases h;cases hx<;>exact⟨by simp[Builtin.len_,jy hu,goInt],.int _ _⟩
  ·cases h
 ·split at h
  ·rename_i ht;have hu:=Pn ht;cases h;cases hx;exact⟨by simp[Builtin.len_,jy hu,goInt],.int _ _⟩
  ·cases h
 ·cases h
def zzJ:∀(l:List Value) (k off:Nat) (ca:Array Value),off+k+l.length<=ca.size->
 (l.zipIdx k).foldl (λ(cs:Array Value) (p:Value×Nat)=>cs.setIfInBounds (off+p.2) p.1) ca=(ca.toList.take (off+k)++l++ca.toList.drop (off+k+l.length)).toArray:=by
 intro l;induction l with
 |nil=>intro k off ca h;simp
 |cons x l ih=>
  intro k off ca h;simp only[List.zipIdx_cons,Or];rw[ih (k+1) off _ (by simp at h⊢;omega)];have e:=list_seg_step ca.toList (off+k) x l (by simp at h⊢;omega);congr 1;simpa[Array.toList_setIfInBounds,iN]using e
def Ry{kB XL:Nat->Option (Nat×Nat)}(dL:∀i p,kB i=J p->XL i=J p):∀{js:List Nat}{vs ys:List Value}{cs eU:List Value}{ca:Array Value},jx kB (js.zip vs) cs=J eU->Vl m vs ys->Vl m cs ca.toList->
 js.length=vs.length->∃v3,Instr.fill XL ca (js.zip ys)=J v3/\Vl m eU v3.toList:=by
 intro js;induction js with
 |nil=>
  intro vs ys cs eU ca h hv hc _;simp only[List.zip_nil_left,jx,aT]at h;subst h;exact⟨ca,by simp[Instr.fill],hc⟩
 |cons i js ih=>
  intro vs ys cs eU ca h hv hc hlen;cases vs with
  |nil=>simp at hlen
  |cons v vs=>
   obtain⟨y,pm,rfl,hV,j4⟩:=hv.cons_inv;simp only[Aal,jx]at h;split at h
   ·rename_i off size hp;split at h
    ·rename_i ye;simp only[bI,v9]at ye;split at h
     ·rename_i cs1 dj;have hne:v≠.tuple #[]:=λe=>by subst e;simp[ml]at ye
      have CP:=hV.cells hne;have eA:y.cells.size=size:=by have:=CP.1;have y1:=wa (xs:=y.cells);omega
      have gR:=hc.1;have Ex:v.cells.toList.length=y.cells.toList.length:=CP.1;have y1:=wa (xs:=y.cells);have y2:=wa (xs:=ca);rcases Ht dj with⟨Rk,rfl⟩|⟨cV,rfl⟩
      ·rw[Rk]at ye;simp at ye;omega
      ·have hfit:off+0+y.cells.toList.length<=ca.size:=by omega
       have hf:=zzJ y.cells.toList 0 off ca hfit
       have hv1:Vl m (cs.take off++v.cells.toList++cs.drop (off+v.cells.toList.length)) (ca.toList.take (off+0)++y.cells.toList++ca.toList.drop (off+0+y.cells.toList.length)):=by
        rw[rb,<-Ex];exact((hc.take off).append CP).append (hc.drop _)
       obtain⟨v3,h1,h2⟩:=ih (ca:=(ca.toList.take (off+0)++y.cells.toList++ca.toList.drop (off+0+y.cells.toList.length)).toArray) h j4 (by simpa using hv1) (by simpa using hlen);refine⟨v3,?_,h2⟩;simp only[Aal,Instr.fill,dL _ _ hp];rw[az (by simp;omega)];rw[<-hf]at h1;rw[<-h1];congr 1;rw[<-Array.foldl_toList];simp
     ·cases h
    ·cases h
   ·cases h
end
end Go.Am
