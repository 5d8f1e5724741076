import Derived.Test.YtnojafnlicbhpaaGreatAmD
open Bool renaming false→aa,true→Z
open Option renaming none→ae,some→J
set_option linter.defProp false
namespace Go.Am
def bK:=@Bool.and_eq_true
def bW:=@Option.bind_eq_some_iff
def gO:=@Nat.mul_le_mul_right
def oz:=@Nat.add_mul
def xG:=@Option.getD_some
def xH:=@beq_iff_eq
def xI:=@Array.length_toList
def HG:=@Option.isSome_iff_exists
def Qc:=@List.foldl_cons
def VV:=@Array.getElem?_toList
def a1c:=@Option.getD_none
def a1d:=@List.zip_cons_cons
def a5p:=@List.extract_eq_take_drop
section
variable {m:Mu}{a:Act}{w:World}{P:Program}
variable{k:IntKind}{lo lo':Option Value}{t:TypeId}{v x x' y:Value}{xs ys:Array Value}
def zzB{op:UnOp}(h:EU op x=J v)(hv:V m x y):∃z,(Op.unary op y).run P w=.ok z w/\V m v z:=by
 unfold EU at h;split at h
 ·cases hv;cases h;exact⟨_,rfl,.bool _⟩
 ·cases hv;cases h;exact⟨_,rfl,.int _ _⟩
 ·cases h
def jA{d:TypeDesc}(h:P.underlying t=J d):(underlying t).run P w=.ok d w:=by
 simp[underlying,h]
def RU(h:j9 P t=J k):P.underlying t=J (.int k):=by
 unfold j9 at h;split at h
 ·cases h;assumption
 ·cases h
def qu{e:TypeId}(h:cW P t=J e):P.underlying t=J (.slice e):=by
 unfold cW at h;split at h
 ·cases h;assumption
 ·cases h
def SZ{e:TypeId}{n:Nat}(h:Bo P t=J (n,e)):P.underlying t=J (.array n e):=by
 unfold Bo at h;split at h
 ·cases h;assumption
 ·cases h
def VM(h:eC P t=Z):P.underlying t=J .string:=by
 unfold eC at h;split at h
 ·assumption
 ·cases h
def zrK(h:EW P t=Z):P.underlying t=J .bool:=by
 unfold EW at h;split at h
 ·assumption
 ·cases h
def zwJ{s d:TypeId}(h:GU P s d x=J v)(hv:V m x y):∃z,(convert s d y).run P w=.ok z w/\V m v z:=by
 unfold GU at h;split at h
 ·rename_i sd k j n hs hk;cases hv;cases h;have hd:=RU hk;refine⟨_,?_,.int _ _⟩;simp[convert,jA hs,jA hd,Conv.intToInt]
 ·cases h
def zsK{op:BinOp}{x y:Int}(h:kh op k x y=J v):(binOp op t (.int k x) (.int k y)).run P w=.ok v w:=by
 cases op<;>simp only[kh]at h<;>
  first
   |(cases h;simp[binOp,Op.intArith,Op.intBits,Op.intCmp])
   | (split at h
      ·cases h
      ·cases h;rename_i hy;simp[binOp,Op.intDiv,hy])
   |cases h
def Xo(h:j9 P t=J k){cs:Array Value}{o:Nat}(hv:cs.toList[o]? =J v):(part t cs o).run P w=.ok v w:=by
 have:=RU h;rw[VV]at hv;simp[part,isAgg,jA this,hv]
def zyg{xh qx:Array Value}(hx:Vl m xs.toList xh.toList)(hy:Vl m ys.toList qx.toList):∀{fs:List Field}{l:List Nat}{r:Bool},HX P fs=J l->tD xs.toList ys.toList l=J r->
 (Op.eqFields 9999 xh qx fs).run P w=.ok r w:=by
 intro fs;induction fs with
 |nil=>intro l r h1 h2;simp only[HX]at h1;cases h1;simp only[tD]at h2;cases h2;rfl
 |cons f fs ih=>
  intro l r h1 h2;simp only[HX]at h1;split at h1
  ·rename_i hf;obtain⟨k,hk⟩:=HG.1 hf.2;simp only[bP]at h1;obtain⟨l',h3,rfl⟩:=h1;simp only[tD]at h2;split at h2
   ·rename_i j a j' b ha hb;split at h2<;>try cases h2
    rename_i e;subst e;simp only[bP]at h2;obtain⟨r',h4,rfl⟩:=h2;obtain⟨va,pa,qa⟩:=hx.get ha;obtain⟨vb,pb,qb⟩:=hy.get hb;cases qa;cases qb;have:=ih h3 h4;simp only[Op.eqFields,hf.1,ne_eq,not_false_eq_true,e9,Sem.run_bind,Xo hk pa,Xo hk pb,Result.andThen_ok,show(Op.equalIn 9999 f.type (.int j a) (.int j b)).run P w=.ok (a==b) w from run_equalIn_int w 9998 f.type j k a b (RU hk)];cases a==b<;>simp[this]
   ·cases h2
  ·cases h1
def X7{xh qx:Array Value}{r:Bool}(h:(CI P t).bind (tD xs.toList ys.toList)=J r)(hx:Vl m xs.toList xh.toList)(hy:Vl m ys.toList qx.toList):
 P.eqGuardType P.depth t=aa/\(Op.equalIn 10000 t (.agg xh) (.agg qx)).run P w=.ok r w:=by
 simp only[bW]at h;obtain⟨l,h1,h2⟩:=h;unfold CI at h1;split at h1
 ·rename_i fs jL;split at h1
  ·rename_i hc;have e:P.fieldsOf t=fs:=by simp[Program.fieldsOf,jL]
   refine⟨hc.2,?_⟩;rw[run_equalIn_struct w 9999 t xh qx (by rw[e];exact jL) hc.1,e];exact zyg hx hy h1 h2
  ·cases h1
 ·cases h1
def zxO{op:BinOp}{ox oy:Operand}{y':Value}(h:di P op t x y=J v)(hx:V m x x')(hy:V m y y'):
 (do eqGuard op t ox oy x' y';binOp op t x' y').run P w=.ok v w/\V m v v:=by
 unfold di at h;split at h
 ·rename_i xs ys;cases hx with
  |agg h1 h2=>
   cases hy with
   |agg h3 h4=>
    split at h
    ·simp only[bP]at h;obtain⟨r,h5,rfl⟩:=h;obtain⟨g1,g2⟩:=X7 (w:=w) h5 ⟨h1,h2⟩ ⟨h3,h4⟩;refine⟨?_,.bool _⟩;rw[Sem.run_bind,run_eqGuard_agg _ _ _ _ _ _ _ g1,Result.andThen_ok,run_eql_struct,g2,Result.andThen_ok]
    ·simp only[bP]at h;obtain⟨r,h5,rfl⟩:=h;obtain⟨g1,g2⟩:=X7 (w:=w) h5 ⟨h1,h2⟩ ⟨h3,h4⟩;refine⟨?_,.bool _⟩;rw[Sem.run_bind,run_eqGuard_agg _ _ _ _ _ _ _ g1,Result.andThen_ok,run_neq_struct,g2,Result.andThen_ok]
    ·cases h
 ·cases hx;cases hy;rename_i k a j b
  have hg:(eqGuard op t ox oy (.int k a) (.int j b)).run P w=.ok () w:=by
   unfold eqGuard;split<;>rfl
  simp only[Sem.run_bind,hg,Result.andThen_ok];split at h
  ·split at h
   ·cases h
   ·cases h;rename_i hb;exact⟨by simp[binOp,Op.shift,hb],.int _ _⟩
  ·split at h
   ·cases h
   ·cases h;rename_i hb;exact⟨by simp[binOp,Op.shift,hb],.int _ _⟩
  ·split at h
   ·rename_i e;subst e;refine⟨zsK h,?_⟩;cases op<;>simp only[kh]at h<;>first|(cases h;first|exact .int _ _|exact .bool _)|(split at h<;>first|(cases h;first|exact .int _ _|exact .bool _)|cases h)|cases h
   ·cases h
 ·cases hx;cases hy;rename_i a b;split at h
  ·rename_i hb;have hu:=zrK hb
   have hg:(eqGuard op t ox oy (.bool a) (.bool b)).run P w=.ok () w:=by
    unfold eqGuard;split<;>rfl
   simp only[Sem.run_bind,hg,Result.andThen_ok];split at h
   ·cases h;exact⟨by simp[binOp,Op.equal,Op.maxDepth,run_equalIn_bool w 9999 t a b hu],.bool _⟩
   ·cases h;exact⟨by simp[binOp,Op.equal,Op.maxDepth,run_equalIn_bool w 9999 t a b hu,bne],.bool _⟩
   ·cases h
  ·cases h
 ·cases hx;cases hy;rename_i a b
  have hg:(eqGuard op t ox oy (.string a) (.string b)).run P w=.ok () w:=by
   unfold eqGuard;split<;>rfl
  simp only[Sem.run_bind,hg,Result.andThen_ok];split at h
  ·cases h;exact⟨by simp[binOp,Op.stringOp],.bool _⟩
  ·cases h;exact⟨by simp[binOp,Op.stringOp],.bool _⟩
  ·split at h
   ·cases h;rename_i hs;exact⟨by simp only[binOp];exact run_string_add_sum w a b hs,.str _⟩
   ·cases h
  ·cases h
 ·cases h
def VO(m:Mu):Option Value->Option Value->Prop
 |none,ae=>True
 |some x,J y=>V m x y
 |_,_=>False
def zu2(h:VO m lo lo'){i:Int}(e:lo=J (.int k i)):lo'=J (.int k i):=by
 subst e;cases lo' with
 |none=>cases h
 |some y=>have h':V m _ y:=h;cases h';rfl
def IP{d q:Nat}(hq:v5 d lo=J q)(h:VO m lo lo'):(lo'=ae/\lo=ae/\q=d)\/∃k i,lo'=J (.int k i)/\0<=i/\q=i.toNat:=by
 unfold v5 at hq;split at hq
 ·cases hq;cases lo' with
  |none=>exact .inl ⟨rfl,rfl,rfl⟩
  |some y=>cases h
 ·split at hq
  ·cases hq;rename_i hh;exact .inr ⟨_,_,zu2 h rfl,hh,rfl⟩
  ·cases hq
 ·cases hq
def Sp{q:Option Nat}(hq:za lo=J q)(h:VO m lo lo'):(lo'=ae/\q=ae)\/∃k i,lo'=J (.int k i)/\0<=i/\q=J i.toNat:=by
 unfold za at hq;split at hq
 ·cases hq;cases lo' with
  |none=>exact .inl ⟨rfl,rfl⟩
  |some y=>cases h
 ·split at hq
  ·cases hq;rename_i hh;exact .inr ⟨_,_,zu2 h rfl,hh,rfl⟩
  ·cases hq
 ·cases hq
def HC{i:Int}{y:Nat}{c:BoundsCode}(h0:0<=i)(h:i<=(y:Int)):(Instr.sliceBound (.int k i) y c).run P w=.ok i.toNat w:=by
 simp[Instr.sliceBound,asIntOf,h0,h]
def NA{b:Bool}{hi mx hi' mx':Option Value}{n c cap l h:Nat}{mo:Option Nat}(hb:oR lo hi mx n c=J (l,h,mo))(hc:c<=cap)
(h1:VO m lo lo')(h2:VO m hi hi')(h3:VO m mx mx'):
 (Instr.sliceBounds b n cap lo' hi' mx').run P w=.ok (l,h,mo.getD cap) w/\l<=h/\h<=mo.getD cap/\(match mo with|none=>h<=c|some q=>q<=c):=by
 unfold oR at hb;split at hb
 ·rename_i l1 q1 e1 e2 e3;split at hb
  ·rename_i zi;cases hb;rcases Sp e3 h3 with⟨rfl,_⟩|⟨k,i,rfl,_,e⟩
   ·rcases IP e2 h2 with⟨rfl,_,rfl⟩|⟨k2,i2,rfl,U7,rfl⟩
    ·rcases IP e1 h1 with⟨rfl,_,rfl⟩|⟨k1,i1,rfl,KH,rfl⟩
     ·exact⟨by simp[Instr.sliceBounds],by omega,by simp;omega,by simp;omega⟩
     ·exact⟨by simp[Instr.sliceBounds,HC KH (show i1<=(h:Int)by omega)],by omega,by simp;omega,by simp;omega⟩
    ·have f9:∀c',(Instr.sliceBound (.int k2 i2) cap c').run P w=.ok i2.toNat w:=λc'=>HC U7 (by omega)
     rcases IP e1 h1 with⟨rfl,_,rfl⟩|⟨k1,i1,rfl,KH,rfl⟩
     ·exact⟨by simp[Instr.sliceBounds,f9],by omega,by simp;omega,by simp;omega⟩
     ·exact⟨by simp[Instr.sliceBounds,f9,HC KH (show i1<=(i2.toNat:Int)by omega)],by omega,by simp;omega,by simp;omega⟩
   ·cases e
  ·cases hb
 ·rename_i l1 q1 q3 e1 e2 e3;split at hb
  ·rename_i zi;cases hb;rcases Sp e3 h3 with⟨_,e⟩|⟨k3,i3,rfl,h03,e⟩
   ·cases e
   ·cases e;rcases IP e2 h2 with⟨_,rfl,_⟩|⟨k2,i2,rfl,U7,rfl⟩
    ·simp at zi
    ·have hs3:∀c',(Instr.sliceBound (.int k3 i3) cap c').run P w=.ok i3.toNat w:=λc'=>HC h03 (by omega)
     have f9:∀c',(Instr.sliceBound (.int k2 i2) i3.toNat c').run P w=.ok i2.toNat w:=λc'=>HC U7 (by omega)
     rcases IP e1 h1 with⟨rfl,_,rfl⟩|⟨k1,i1,rfl,KH,rfl⟩
     ·exact⟨by simp[Instr.sliceBounds,hs3,f9],by omega,by simp;omega,by simp;omega⟩
     ·exact⟨by simp[Instr.sliceBounds,hs3,f9,HC KH (show i1<=(i2.toNat:Int)by omega)],by omega,by simp;omega,by simp;omega⟩
  ·cases hb
 ·cases hb
def G6{hi mx hi' mx':Option Value}(h:n7 P t x lo hi mx=J v)(hx:V m x x')
(h1:VO m lo lo')(h2:VO m hi hi')(h3:VO m mx mx'):∃y,(Instr.sliceAt t x' lo' hi' mx').run P w=.ok y w/\V m v y:=by
 unfold n7 at h;split at h
 ·rename_i id off bA n c;split at h
  ·rename_i e he;have hu:=qu he;split at h
   ·rename_i g es dH ht;obtain⟨cG,z⟩:=dH;obtain⟨i,zv,_,_,_,_,_,_,eI⟩:=jN (w:=w) ht;split at h
    ·cases h
    ·rename_i hes;have hes:es=bA:=by simpa using hes
     subst hes;cases hx with
     |slice b9 k1 k2 k3 k4=>
      rename_i o cap;have add:∀l,l<=cap->l*es+(cap-l)*es=cap*es:=λl hl=>by rw[<-oz];congr 1;omega
      split at h
      ·rename_i l hh hb;cases h;obtain⟨hr,BU,EL,lX⟩:=NA (P:=P) (w:=w) (m:=m) (b:=Z) hb k2 h1 h2 h3;simp only[a1c]at hr EL;simp only at lX;have:=add l (by omega);refine⟨.slice (J ⟨(m.f id).bu,if cap=l then o else o+l*es,ae⟩) (hh-l) (cap-l),?_,.slice b9 (by omega) (by omega) (λhp=>?_) (by omega)⟩
       ·simp[Instr.sliceAt,jA hu,Instr.slice,hr,eI,vt];split<;>rfl
       ·rw[aB (by omega),k3 (by omega),jc]
      ·rename_i l hh q hb;obtain⟨hr,BU,EL,lX⟩:=NA (P:=P) (w:=w) (m:=m) (b:=Z) hb k2 h1 h2 h3;simp only[xG]at hr EL;simp only at lX;have h5:=add l (by omega);have h6:(q-l)*es<=(cap-l)*es:=gO _ (by omega)
       have dV:(Instr.sliceAt t (.slice (J ⟨(m.f id).bu,o,ae⟩) n cap) lo' hi' mx').run P w=.ok (.slice (J ⟨(m.f id).bu,if q=l then o else o+l*es,ae⟩) (hh-l) (q-l)) w:=by
        simp[Instr.sliceAt,jA hu,Instr.slice,hr,eI,vt];split<;>rfl
       split at h
       ·cases h;rename_i hq;have e1:hh-l=0:=by omega
        rw[e1,hq]at dV;exact⟨_,dV,.mK _⟩
       ·cases h;refine⟨_,dV,.slice b9 (by omega) (by omega) (λhp=>?_) (by omega)⟩;rw[aB (by omega),k3 (by omega),jc]
      ·cases h
   ·cases h
  ·cases h
 ·split at h
  ·rename_i e he;have hu:=qu he;split at h
   ·rename_i dH ht;obtain⟨g,es,cG,z⟩:=dH;obtain⟨i,zv,_,_,_,_,_,_,eI⟩:=jN (w:=w) ht;split at h
    ·rename_i r hb;obtain⟨l,hh,mo⟩:=r;cases h;cases hx with
     |mK ad=>
      obtain⟨hr,BU,EL,lX⟩:=NA (P:=P) (w:=w) (m:=m) (b:=Z) hb (cB _) h1 h2 h3;have sk:mo.getD 0=0:=by cases mo<;>simp_all
      rw[sk]at hr EL;have e1:hh=0:=by omega
      have e2:l=0:=by omega
      subst e1;subst e2;exact⟨.slice ad 0 0,by simp[Instr.sliceAt,jA hu,Instr.slice,hr,eI],.mK _⟩
    ·cases h
   ·cases h
  ·cases h
 ·split at h
  ·rename_i ht;have hu:=VM ht;cases hx with
   |str s=>
    split at h
    ·rename_i l hh hb;cases h;obtain⟨hr,BU,EL,lX⟩:=NA (P:=P) (w:=w) (m:=m) (b:=aa) hb (cB _) h1 h2 h3
     have gY:mx'=ae:=by
      unfold oR at hb;split at hb
      ·rename_i e3;rcases Sp e3 h3 with⟨e,_⟩|⟨_,_,_,_,e⟩
       ·exact e
       ·cases e
      ·split at hb<;>simp at hb
      ·cases hb
     subst gY;simp only[a1c]at hr;refine⟨_,?_,.str _⟩;simp[Instr.sliceAt,jA hu,Instr.slice,hr]
    ·cases h
  ·cases h
 ·cases h
def X3{cs:List Value}{off:Nat}(h:OE P t cs off=J v)(hv:Vl m cs ys.toList):
 ∃y,(part t ys off).run P w=.ok y w/\V m v y:=by
 unfold OE at h;split at h
 ·rename_i sz dH ht;obtain⟨cG,z⟩:=dH;obtain⟨i,zv,_,_,_,_,_,ha,hs⟩:=jN (w:=w) ht;simp only[bP]at h;obtain⟨l,h1,rfl⟩:=h;obtain⟨rfl,h2⟩:=SV h1;refine⟨.agg (ys.extract off (off+sz)),by simp[part,ha,hs],?_⟩;have:=(hv.drop off).take sz;refine .agg ?_ ?_
  ·simpa[a5p]using this.1
  ·simpa[a5p]using this.2
 ·rename_i sz dH ht;obtain⟨cG,z⟩:=dH;obtain⟨i,zv,_,_,_,_,_,ha,hs⟩:=jN (w:=w) ht;have hg:cs[off]? =J v:=by simpa[List.head?_drop]using h
  obtain⟨y,hy,hV⟩:=hv.get hg;refine⟨y,?_,hV⟩;have iL:ys[off]? =J y:=by simpa using hy
  simp[part,ha,iL]
 ·cases h
def zu1(h:V m (.agg xs) y):∃ys,y=.agg ys/\Vl m xs.toList ys.toList:=by
 cases h with
 |agg hl k=>exact⟨_,rfl,hl,k⟩
def zup{f:Nat}(h:Qz P t f x=J v)(hx:V m x x'):∃y,(Instr.field t x' f).run P w=.ok y w/\V m v y:=by
 unfold Qz at h;split at h
 ·rename_i jX cs hu;obtain⟨ys,rfl,hv⟩:=zu1 hx;split at h
  ·rename_i fd hf;obtain⟨y,hy,hV⟩:=X3 (P:=P) (w:=w) h hv;exact⟨y,by simp[Instr.field,jA hu,hf,asAgg,hy],hV⟩
  ·cases h
 ·cases h
def zuq{i i':Value}(h:yK P t x i=J v)(hx:V m x x')(hi:V m i i'):∃y,(Instr.index t x' i').run P w=.ok y w/\V m v y:=by
 unfold yK at h;split at h
 ·rename_i s k n;cases hx;cases hi;split at h
  ·rename_i hc;obtain⟨ht,h0⟩:=hc;have hu:=VM ht;simp only[bP]at h;obtain⟨b,hb,rfl⟩:=h;exact⟨_,by simp[Instr.index,asIntOf,jA hu,h0,hb],.int _ _⟩
  ·cases h
 ·rename_i cs k n;obtain⟨ys,rfl,hv⟩:=zu1 hx;cases hi;split at h
  ·rename_i len e he;have hu:=SZ he;split at h
   ·rename_i hc;split at h
    ·rename_i g es dH ht;obtain⟨cG,z⟩:=dH;obtain⟨i,zv,_,_,_,_,_,ha,hs⟩:=jN (w:=w) ht;obtain⟨y,hy,hV⟩:=X3 (P:=P) (w:=w) h hv;exact⟨y,by simp[Instr.index,asIntOf,jA hu,hc,hs,hy],hV⟩
    ·cases h
   ·cases h
  ·cases h
 ·cases h
def zx3{ty:TypeId}(h:iX P t x=J v)(hx:V m x x'):(Builtin.len_ #[t] ty #[x']).run P w=.ok v w/\V m v v:=by
 unfold iX at h;split at h
 ·split at h
  ·rename_i e he;have hu:=qu he;cases h;cases hx<;>exact⟨by simp[Builtin.len_,jA hu,goInt],.int _ _⟩
  ·cases h
 ·split at h
  ·rename_i ht;have hu:=VM ht;cases h;cases hx;exact⟨by simp[Builtin.len_,jA hu,goInt],.int _ _⟩
  ·cases h
 ·cases h
def zze:∀(l:List Value) (k off:Nat) (ca:Array Value),off+k+l.length<=ca.size->
 (l.zipIdx k).foldl (λ(cs:Array Value) (p:Value×Nat)=>cs.setIfInBounds (off+p.2) p.1) ca=(ca.toList.take (off+k)++l++ca.toList.drop (off+k+l.length)).toArray:=by
 intro l;induction l with
 |nil=>intro k off ca h;simp
 |cons x l ih=>
  intro k off ca h;simp only[List.zipIdx_cons,Qc];rw[ih (k+1) off _ (by simp at h⊢;omega)];have e:=list_seg_step ca.toList (off+k) x l (by simp at h⊢;omega);congr 1;simpa[Array.toList_setIfInBounds,jc]using e
def U1{lz ZC:Nat->Option (Nat×Nat)}(dR:∀i p,lz i=J p->ZC i=J p):∀{js:List Nat}{vs ys:List Value}{cs fc:List Value}{ca:Array Value},jJ lz (js.zip vs) cs=J fc->Vl m vs ys->Vl m cs ca.toList->
 js.length=vs.length->∃v7,Instr.fill ZC ca (js.zip ys)=J v7/\Vl m fc v7.toList:=by
 intro js;induction js with
 |nil=>
  intro vs ys cs fc ca h hv hc _;simp only[List.zip_nil_left,jJ,aT]at h;subst h;exact⟨ca,by simp[Instr.fill],hc⟩
 |cons i js ih=>
  intro vs ys cs fc ca h hv hc hlen;cases vs with
  |nil=>simp at hlen
  |cons v vs=>
   obtain⟨y,qx,rfl,hV,kI⟩:=hv.cons_inv;simp only[a1d,jJ]at h;split at h
   ·rename_i off size hp;split at h
    ·rename_i zi;simp only[bK,xH]at zi;split at h
     ·rename_i cs1 dv;have hne:v≠.tuple #[]:=λe=>by subst e;simp[mH]at zi
      have D6:=hV.cells hne;have eI:y.cells.size=size:=by have:=D6.1;have y1:=xI (xs:=y.cells);omega
      have gX:=hc.1;have GX:v.cells.toList.length=y.cells.toList.length:=D6.1;have y1:=xI (xs:=y.cells);have y2:=xI (xs:=ca);rcases HU dv with⟨Ul,rfl⟩|⟨da,rfl⟩
      ·rw[Ul]at zi;simp at zi;omega
      ·have hfit:off+0+y.cells.toList.length<=ca.size:=by omega
       have hf:=zze y.cells.toList 0 off ca hfit
       have hv1:Vl m (cs.take off++v.cells.toList++cs.drop (off+v.cells.toList.length)) (ca.toList.take (off+0)++y.cells.toList++ca.toList.drop (off+0+y.cells.toList.length)):=by
        rw[rQ,<-GX];exact((hc.take off).append D6).append (hc.drop _)
       obtain⟨v7,h1,h2⟩:=ih (ca:=(ca.toList.take (off+0)++y.cells.toList++ca.toList.drop (off+0+y.cells.toList.length)).toArray) h kI (by simpa using hv1) (by simpa using hlen);refine⟨v7,?_,h2⟩;simp only[a1d,Instr.fill,dR _ _ hp];rw[aB (by simp;omega)];rw[<-hf]at h1;rw[<-h1];congr 1;rw[<-Array.foldl_toList];simp
     ·cases h
    ·cases h
   ·cases h
end
end Go.Am
