import Derived.Test.YtnojafnlicbhpaaGreatAmD
namespace Go.Am
set_option linter.defProp false
open Bool renaming false→aa,true→Z
open Option renaming none→ae,some→J
def bI:=@Bool.and_eq_true
def bR:=@Option.bind_eq_some_iff
def gA:=@Nat.mul_le_mul_right
def nS:=@Nat.add_mul
def v8:=@Option.getD_some
def v9:=@beq_iff_eq
def wa:=@Array.length_toList
def Gq:=@Option.isSome_iff_exists
def Or:=@List.foldl_cons
def Ua:=@Array.getElem?_toList
def Aal:=@Option.getD_none
def Aam:=@List.zip_cons_cons
def Ab8:=@List.extract_eq_take_drop
section
variable {m:Mu}{a:Act}{w:World}{P:Program}
variable{k:IntKind}{lo lo':Option Value}{t:TypeId}{v x x' y:Value}{xs ys:Array Value}
def zyZ{op:UnOp}(h:DU op x=J v)(hv:V m x y):∃z,(Op.unary op y).run P w=.ok z w/\V m v z:=by
 unfold DU at h;split at h
 ·cases hv;cases h;exact⟨_,rfl,.bool _⟩
 ·cases hv;cases h;exact⟨_,rfl,.int _ _⟩
 ·cases h
def jh{d:TypeDesc}(h:P.underlying t=J d):(underlying t).run P w=.ok d w:=by
 simp[underlying,h]
def T6(h:jG P t=J k):P.underlying t=J (.int k):=by
 unfold jG at h;split at h
 ·cases h;assumption
 ·cases h
def px{e:TypeId}(h:cS P t=J e):P.underlying t=J (.slice e):=by
 unfold cS at h;split at h
 ·cases h;assumption
 ·cases h
def PZ{e:TypeId}{n:Nat}(h:AF P t=J (n,e)):P.underlying t=J (.array n e):=by
 unfold AF at h;split at h
 ·cases h;assumption
 ·cases h
def QM(h:dU P t=Z):P.underlying t=J .string:=by
 unfold dU at h;split at h
 ·assumption
 ·cases h
def zrI(h:DF P t=Z):P.underlying t=J .bool:=by
 unfold DF at h;split at h
 ·assumption
 ·cases h
def zvI{s d:TypeId}(h:Ds P s d x=J v)(hv:V m x y):∃z,(convert s d y).run P w=.ok z w/\V m v z:=by
 unfold Ds at h;split at h
 ·rename_i sd k j n hs hk;cases hv;cases h;have hd:=T6 hk;refine⟨_,?_,.int _ _⟩;simp[convert,jh hs,jh hd,Conv.intToInt]
 ·cases h
def zte{op:BinOp}{x y:Int}(h:jW op k x y=J v):(binOp op t (.int k x) (.int k y)).run P w=.ok v w:=by
 cases op<;>simp only[jW]at h<;>
  first
   |(cases h;simp[binOp,Op.intArith,Op.intBits,Op.intCmp])
   | (split at h
      ·cases h
      ·cases h;rename_i hy;simp[binOp,Op.intDiv,hy])
   |cases h
def Zf(h:jG P t=J k){cs:Array Value}{o:Nat}(hv:cs.toList[o]? =J v):(part t cs o).run P w=.ok v w:=by
 have:=T6 h;rw[Ua]at hv;simp[part,isAgg,jh this,hv]
def zxK{uv ph:Array Value}(hx:Vl m xs.toList uv.toList)(hy:Vl m ys.toList ph.toList):∀{fs:List Field}{l:List Nat}{r:Bool},HH P fs=J l->tE xs.toList ys.toList l=J r->
 (Op.eqFields 9999 uv ph fs).run P w=.ok r w:=by
 intro fs;induction fs with
 |nil=>intro l r h1 h2;simp only[HH]at h1;cases h1;simp only[tE]at h2;cases h2;rfl
 |cons f fs ih=>
  intro l r h1 h2;simp only[HH]at h1;split at h1
  ·rename_i hf;obtain⟨k,hk⟩:=Gq.1 hf.2;simp only[bN]at h1;obtain⟨l',h3,rfl⟩:=h1;simp only[tE]at h2;split at h2
   ·rename_i j a j' b ha hb;split at h2<;>try cases h2
    rename_i e;subst e;simp only[bN]at h2;obtain⟨r',h4,rfl⟩:=h2;obtain⟨va,pa,qa⟩:=hx.get ha;obtain⟨vb,pb,qb⟩:=hy.get hb;cases qa;cases qb;have:=ih h3 h4;simp only[Op.eqFields,hf.1,ne_eq,not_false_eq_true,eP,Sem.run_bind,Zf hk pa,Zf hk pb,Result.andThen_ok,show(Op.equalIn 9999 f.type (.int j a) (.int j b)).run P w=.ok (a==b) w from run_equalIn_int w 9998 f.type j k a b (T6 hk)];cases a==b<;>simp[this]
   ·cases h2
  ·cases h1
def Xh{uv ph:Array Value}{r:Bool}(h:(CI P t).bind (tE xs.toList ys.toList)=J r)(hx:Vl m xs.toList uv.toList)(hy:Vl m ys.toList ph.toList):
 P.eqGuardType P.depth t=aa/\(Op.equalIn 10000 t (.agg uv) (.agg ph)).run P w=.ok r w:=by
 simp only[bR]at h;obtain⟨l,h1,h2⟩:=h;unfold CI at h1;split at h1
 ·rename_i fs jj;split at h1
  ·rename_i hc;have e:P.fieldsOf t=fs:=by simp[Program.fieldsOf,jj]
   refine⟨hc.2,?_⟩;rw[run_equalIn_struct w 9999 t uv ph (by rw[e];exact jj) hc.1,e];exact zxK hx hy h1 h2
  ·cases h1
 ·cases h1
def zxG{op:BinOp}{ox oy:Operand}{y':Value}(h:cW P op t x y=J v)(hx:V m x x')(hy:V m y y'):
 (do eqGuard op t ox oy x' y';binOp op t x' y').run P w=.ok v w/\V m v v:=by
 unfold cW at h;split at h
 ·rename_i xs ys;cases hx with
  |agg h1 h2=>
   cases hy with
   |agg h3 h4=>
    split at h
    ·simp only[bN]at h;obtain⟨r,h5,rfl⟩:=h;obtain⟨g1,g2⟩:=Xh (w:=w) h5 ⟨h1,h2⟩ ⟨h3,h4⟩;refine⟨?_,.bool _⟩;rw[Sem.run_bind,run_eqGuard_agg _ _ _ _ _ _ _ g1,Result.andThen_ok,run_eql_struct,g2,Result.andThen_ok]
    ·simp only[bN]at h;obtain⟨r,h5,rfl⟩:=h;obtain⟨g1,g2⟩:=Xh (w:=w) h5 ⟨h1,h2⟩ ⟨h3,h4⟩;refine⟨?_,.bool _⟩;rw[Sem.run_bind,run_eqGuard_agg _ _ _ _ _ _ _ g1,Result.andThen_ok,run_neq_struct,g2,Result.andThen_ok]
    ·cases h
 ·cases hx;cases hy;rename_i k a j b
  have hg:(eqGuard op t ox oy (.int k a) (.int j b)).run P w=.ok () w:=by
   unfold eqGuard;split<;>rfl
  simp only[Sem.run_bind,hg,Result.andThen_ok];split at h
  ·split at h
   ·cases h
   ·cases h;rename_i hb;exact⟨by simp[binOp,Op.shift,hb],.int _ _⟩
  ·split at h
   ·cases h
   ·cases h;rename_i hb;exact⟨by simp[binOp,Op.shift,hb],.int _ _⟩
  ·split at h
   ·rename_i e;subst e;refine⟨zte h,?_⟩;cases op<;>simp only[jW]at h<;>first|(cases h;first|exact .int _ _|exact .bool _)|(split at h<;>first|(cases h;first|exact .int _ _|exact .bool _)|cases h)|cases h
   ·cases h
 ·cases hx;cases hy;rename_i a b;split at h
  ·rename_i hb;have hu:=zrI hb
   have hg:(eqGuard op t ox oy (.bool a) (.bool b)).run P w=.ok () w:=by
    unfold eqGuard;split<;>rfl
   simp only[Sem.run_bind,hg,Result.andThen_ok];split at h
   ·cases h;exact⟨by simp[binOp,Op.equal,Op.maxDepth,run_equalIn_bool w 9999 t a b hu],.bool _⟩
   ·cases h;exact⟨by simp[binOp,Op.equal,Op.maxDepth,run_equalIn_bool w 9999 t a b hu,bne],.bool _⟩
   ·cases h
  ·cases h
 ·cases hx;cases hy;rename_i a b
  have hg:(eqGuard op t ox oy (.string a) (.string b)).run P w=.ok () w:=by
   unfold eqGuard;split<;>rfl
  simp only[Sem.run_bind,hg,Result.andThen_ok];split at h
  ·cases h;exact⟨by simp[binOp,Op.stringOp],.bool _⟩
  ·cases h;exact⟨by simp[binOp,Op.stringOp],.bool _⟩
  ·split at h
   ·cases h;rename_i hs;exact⟨by simp only[binOp];exact run_string_add_sum w a b hs,.str _⟩
   ·cases h
  ·cases h
 ·cases h
def VO(m:Mu):Option Value->Option Value->Prop
 |none,ae=>True
 |some x,J y=>V m x y
 |_,_=>False
def V9(h:VO m lo lo'){i:Int}(e:lo=J (.int k i)):lo'=J (.int k i):=by
 subst e;cases lo' with
 |none=>cases h
 |some y=>have h':V m _ y:=h;cases h';rfl
def Hz{d q:Nat}(hq:vq d lo=J q)(h:VO m lo lo'):(lo'=ae/\lo=ae/\q=d)\/∃k i,lo'=J (.int k i)/\0<=i/\q=i.toNat:=by
 unfold vq at hq;split at hq
 ·cases hq;cases lo' with
  |none=>exact .inl ⟨rfl,rfl,rfl⟩
  |some y=>cases h
 ·split at hq
  ·cases hq;rename_i hh;exact .inr ⟨_,_,V9 h rfl,hh,rfl⟩
  ·cases hq
 ·cases hq
def R8{q:Option Nat}(hq:xe lo=J q)(h:VO m lo lo'):(lo'=ae/\q=ae)\/∃k i,lo'=J (.int k i)/\0<=i/\q=J i.toNat:=by
 unfold xe at hq;split at hq
 ·cases hq;cases lo' with
  |none=>exact .inl ⟨rfl,rfl⟩
  |some y=>cases h
 ·split at hq
  ·cases hq;rename_i hh;exact .inr ⟨_,_,V9 h rfl,hh,rfl⟩
  ·cases hq
 ·cases hq
def D8{i:Int}{y:Nat}{c:BoundsCode}(h0:0<=i)(h:i<=(y:Int)):(Instr.sliceBound (.int k i) y c).run P w=.ok i.toNat w:=by
 simp[Instr.sliceBound,asIntOf,h0,h]
def NH{b:Bool}{hi mx hi' mx':Option Value}{n c cap l h:Nat}{mo:Option Nat}(hb:nW lo hi mx n c=J (l,h,mo))(hc:c<=cap)
(h1:VO m lo lo')(h2:VO m hi hi')(h3:VO m mx mx'):
 (Instr.sliceBounds b n cap lo' hi' mx').run P w=.ok (l,h,mo.getD cap) w/\l<=h/\h<=mo.getD cap/\(match mo with|none=>h<=c|some q=>q<=c):=by
 unfold nW at hb;split at hb
 ·rename_i l1 q1 e1 e2 e3;split at hb
  ·rename_i xQ;cases hb;rcases R8 e3 h3 with⟨rfl,_⟩|⟨k,i,rfl,_,e⟩
   ·rcases Hz e2 h2 with⟨rfl,_,rfl⟩|⟨k2,i2,rfl,RS,rfl⟩
    ·rcases Hz e1 h1 with⟨rfl,_,rfl⟩|⟨k1,i1,rfl,Js,rfl⟩
     ·exact⟨by simp[Instr.sliceBounds],by omega,by simp;omega,by simp;omega⟩
     ·exact⟨by simp[Instr.sliceBounds,D8 Js (show i1<=(h:Int)by omega)],by omega,by simp;omega,by simp;omega⟩
    ·have fL:∀c',(Instr.sliceBound (.int k2 i2) cap c').run P w=.ok i2.toNat w:=λc'=>D8 RS (by omega)
     rcases Hz e1 h1 with⟨rfl,_,rfl⟩|⟨k1,i1,rfl,Js,rfl⟩
     ·exact⟨by simp[Instr.sliceBounds,fL],by omega,by simp;omega,by simp;omega⟩
     ·exact⟨by simp[Instr.sliceBounds,fL,D8 Js (show i1<=(i2.toNat:Int)by omega)],by omega,by simp;omega,by simp;omega⟩
   ·cases e
  ·cases hb
 ·rename_i l1 q1 q3 e1 e2 e3;split at hb
  ·rename_i xQ;cases hb;rcases R8 e3 h3 with⟨_,e⟩|⟨k3,i3,rfl,h03,e⟩
   ·cases e
   ·cases e;rcases Hz e2 h2 with⟨_,rfl,_⟩|⟨k2,i2,rfl,RS,rfl⟩
    ·simp at xQ
    ·have Yq:∀c',(Instr.sliceBound (.int k3 i3) cap c').run P w=.ok i3.toNat w:=λc'=>D8 h03 (by omega)
     have fL:∀c',(Instr.sliceBound (.int k2 i2) i3.toNat c').run P w=.ok i2.toNat w:=λc'=>D8 RS (by omega)
     rcases Hz e1 h1 with⟨rfl,_,rfl⟩|⟨k1,i1,rfl,Js,rfl⟩
     ·exact⟨by simp[Instr.sliceBounds,Yq,fL],by omega,by simp;omega,by simp;omega⟩
     ·exact⟨by simp[Instr.sliceBounds,Yq,fL,D8 Js (show i1<=(i2.toNat:Int)by omega)],by omega,by simp;omega,by simp;omega⟩
  ·cases hb
 ·cases hb
def Ex{hi mx hi' mx':Option Value}(h:nK P t x lo hi mx=J v)(hx:V m x x')
(h1:VO m lo lo')(h2:VO m hi hi')(h3:VO m mx mx'):∃y,(Instr.sliceAt t x' lo' hi' mx').run P w=.ok y w/\V m v y:=by
 unfold nK at h;split at h
 ·rename_i id off bw n c;split at h
  ·rename_i e he;have hu:=px he;split at h
   ·rename_i g es dE ht;obtain⟨cz,z⟩:=dE;obtain⟨i,zv,_,_,_,_,_,_,eB⟩:=jo (w:=w) ht;split at h
    ·cases h
    ·rename_i hes;have hes:es=bw:=by simpa using hes
     subst hes;cases hx with
     |slice bY k1 k2 k3 k4=>
      rename_i o cap;have add:∀l,l<=cap->l*es+(cap-l)*es=cap*es:=λl hl=>by rw[<-nS];congr 1;omega
      split at h
      ·rename_i l hh hb;cases h;obtain⟨hr,zl,FA,l4⟩:=NH (P:=P) (w:=w) (m:=m) (b:=Z) hb k2 h1 h2 h3;simp only[Aal]at hr FA;simp only at l4;have:=add l (by omega);refine⟨.slice (J ⟨(m.f id).bq,if cap=l then o else o+l*es,ae⟩) (hh-l) (cap-l),?_,.slice bY (by omega) (by omega) (λhp=>?_) (by omega)⟩
       ·simp[Instr.sliceAt,jh hu,Instr.slice,hr,eB,uk];split<;>rfl
       ·rw[az (by omega),k3 (by omega),iN]
      ·rename_i l hh q hb;obtain⟨hr,zl,FA,l4⟩:=NH (P:=P) (w:=w) (m:=m) (b:=Z) hb k2 h1 h2 h3;simp only[v8]at hr FA;simp only at l4;have h5:=add l (by omega);have h6:(q-l)*es<=(cap-l)*es:=gA _ (by omega)
       have dR:(Instr.sliceAt t (.slice (J ⟨(m.f id).bq,o,ae⟩) n cap) lo' hi' mx').run P w=.ok (.slice (J ⟨(m.f id).bq,if q=l then o else o+l*es,ae⟩) (hh-l) (q-l)) w:=by
        simp[Instr.sliceAt,jh hu,Instr.slice,hr,eB,uk];split<;>rfl
       split at h
       ·cases h;rename_i hq;have e1:hh-l=0:=by omega
        rw[e1,hq]at dR;exact⟨_,dR,.mu _⟩
       ·cases h;refine⟨_,dR,.slice bY (by omega) (by omega) (λhp=>?_) (by omega)⟩;rw[az (by omega),k3 (by omega),iN]
      ·cases h
   ·cases h
  ·cases h
 ·split at h
  ·rename_i e he;have hu:=px he;split at h
   ·rename_i dE ht;obtain⟨g,es,cz,z⟩:=dE;obtain⟨i,zv,_,_,_,_,_,_,eB⟩:=jo (w:=w) ht;split at h
    ·rename_i r hb;obtain⟨l,hh,mo⟩:=r;cases h;cases hx with
     |mu ad=>
      obtain⟨hr,zl,FA,l4⟩:=NH (P:=P) (w:=w) (m:=m) (b:=Z) hb (cy _) h1 h2 h3;have si:mo.getD 0=0:=by cases mo<;>simp_all
      rw[si]at hr FA;have e1:hh=0:=by omega
      have e2:l=0:=by omega
      subst e1;subst e2;exact⟨.slice ad 0 0,by simp[Instr.sliceAt,jh hu,Instr.slice,hr,eB],.mu _⟩
    ·cases h
   ·cases h
  ·cases h
 ·split at h
  ·rename_i ht;have hu:=QM ht;cases hx with
   |str s=>
    split at h
    ·rename_i l hh hb;cases h;obtain⟨hr,zl,FA,l4⟩:=NH (P:=P) (w:=w) (m:=m) (b:=aa) hb (cy _) h1 h2 h3
     have gM:mx'=ae:=by
      unfold nW at hb;split at hb
      ·rename_i e3;rcases R8 e3 h3 with⟨e,_⟩|⟨_,_,_,_,e⟩
       ·exact e
       ·cases e
      ·split at hb<;>simp at hb
      ·cases hb
     subst gM;simp only[Aal]at hr;refine⟨_,?_,.str _⟩;simp[Instr.sliceAt,jh hu,Instr.slice,hr]
    ·cases h
  ·cases h
 ·cases h
def Yv{cs:List Value}{off:Nat}(h:LP P t cs off=J v)(hv:Vl m cs ys.toList):
 ∃y,(part t ys off).run P w=.ok y w/\V m v y:=by
 unfold LP at h;split at h
 ·rename_i sz dE ht;obtain⟨cz,z⟩:=dE;obtain⟨i,zv,_,_,_,_,_,ha,hs⟩:=jo (w:=w) ht;simp only[bN]at h;obtain⟨l,h1,rfl⟩:=h;obtain⟨rfl,h2⟩:=PN h1;refine⟨.agg (ys.extract off (off+sz)),by simp[part,ha,hs],?_⟩;have:=(hv.drop off).take sz;refine .agg ?_ ?_
  ·simpa[Ab8]using this.1
  ·simpa[Ab8]using this.2
 ·rename_i sz dE ht;obtain⟨cz,z⟩:=dE;obtain⟨i,zv,_,_,_,_,_,ha,hs⟩:=jo (w:=w) ht;have hg:cs[off]? =J v:=by simpa[List.head?_drop]using h
  obtain⟨y,hy,hV⟩:=hv.get hg;refine⟨y,?_,hV⟩;have im:ys[off]? =J y:=by simpa using hy
  simp[part,ha,im]
 ·cases h
def YT(h:V m (.agg xs) y):∃ys,y=.agg ys/\Vl m xs.toList ys.toList:=by
 cases h with
 |agg hl k=>exact⟨_,rfl,hl,k⟩
def zt7{f:Nat}(h:SM P t f x=J v)(hx:V m x x'):∃y,(Instr.field t x' f).run P w=.ok y w/\V m v y:=by
 unfold SM at h;split at h
 ·rename_i jO cs hu;obtain⟨ys,rfl,hv⟩:=YT hx;split at h
  ·rename_i fd hf;obtain⟨y,hy,hV⟩:=Yv (P:=P) (w:=w) h hv;exact⟨y,by simp[Instr.field,jh hu,hf,asAgg,hy],hV⟩
  ·cases h
 ·cases h
def zuM{i i':Value}(h:rI P t x i=J v)(hx:V m x x')(hi:V m i i'):∃y,(Instr.index t x' i').run P w=.ok y w/\V m v y:=by
 unfold rI at h;split at h
 ·rename_i s k n;cases hx;cases hi;split at h
  ·rename_i hc;obtain⟨ht,h0⟩:=hc;have hu:=QM ht;simp only[bN]at h;obtain⟨b,hb,rfl⟩:=h;exact⟨_,by simp[Instr.index,asIntOf,jh hu,h0,hb],.int _ _⟩
  ·cases h
 ·rename_i cs k n;obtain⟨ys,rfl,hv⟩:=YT hx;cases hi;split at h
  ·rename_i len e he;have hu:=PZ he;split at h
   ·rename_i hc;split at h
    ·rename_i g es dE ht;obtain⟨cz,z⟩:=dE;obtain⟨i,zv,_,_,_,_,_,ha,hs⟩:=jo (w:=w) ht;obtain⟨y,hy,hV⟩:=Yv (P:=P) (w:=w) h hv;exact⟨y,by simp[Instr.index,asIntOf,jh hu,hc,hs,hy],hV⟩
    ·cases h
   ·cases h
  ·cases h
 ·cases h
def zyz{ty:TypeId}(h:iH P t x=J v)(hx:V m x x'):(Builtin.len_ #[t] ty #[x']).run P w=.ok v w/\V m v v:=by
 unfold iH at h;split at h
 ·split at h
  ·rename_i e he;have hu:=px he;cases h;cases hx<;>exact⟨by simp[Builtin.len_,jh hu,goInt],.int _ _⟩
  ·cases h
 ·split at h
  ·rename_i ht;have hu:=QM ht;cases h;cases hx;exact⟨by simp[Builtin.len_,jh hu,goInt],.int _ _⟩
  ·cases h
 ·cases h
def zy4:∀(l:List Value) (k off:Nat) (ca:Array Value),off+k+l.length<=ca.size->
 (l.zipIdx k).foldl (λ(cs:Array Value) (p:Value×Nat)=>cs.setIfInBounds (off+p.2) p.1) ca=(ca.toList.take (off+k)++l++ca.toList.drop (off+k+l.length)).toArray:=by
 intro l;induction l with
 |nil=>intro k off ca h;simp
 |cons x l ih=>
  intro k off ca h;simp only[List.zipIdx_cons,Or];rw[ih (k+1) off _ (by simp at h⊢;omega)];have e:=list_seg_step ca.toList (off+k) x l (by simp at h⊢;omega);congr 1;simpa[Array.toList_setIfInBounds,iN]using e
def Pp{kL Wp:Nat->Option (Nat×Nat)}(dM:∀i p,kL i=J p->Wp i=J p):∀{js:List Nat}{vs ys:List Value}{cs eV:List Value}{ca:Array Value},jq kL (js.zip vs) cs=J eV->Vl m vs ys->Vl m cs ca.toList->
 js.length=vs.length->∃ur,Instr.fill Wp ca (js.zip ys)=J ur/\Vl m eV ur.toList:=by
 intro js;induction js with
 |nil=>
  intro vs ys cs eV ca h hv hc _;simp only[List.zip_nil_left,jq,aT]at h;subst h;exact⟨ca,by simp[Instr.fill],hc⟩
 |cons i js ih=>
  intro vs ys cs eV ca h hv hc hlen;cases vs with
  |nil=>simp at hlen
  |cons v vs=>
   obtain⟨y,ph,rfl,hV,ka⟩:=hv.cons_inv;simp only[Aam,jq]at h;split at h
   ·rename_i off size hp;split at h
    ·rename_i xQ;simp only[bI,v9]at xQ;split at h
     ·rename_i cs1 dq;have hne:v≠.tuple #[]:=λe=>by subst e;simp[mA]at xQ
      have CT:=hV.cells hne;have eB:y.cells.size=size:=by have:=CT.1;have y1:=wa (xs:=y.cells);omega
      have gP:=hc.1;have Gh:v.cells.toList.length=y.cells.toList.length:=CT.1;have y1:=wa (xs:=y.cells);have y2:=wa (xs:=ca);rcases Hn dq with⟨PD,rfl⟩|⟨cU,rfl⟩
      ·rw[PD]at xQ;simp at xQ;omega
      ·have hfit:off+0+y.cells.toList.length<=ca.size:=by omega
       have hf:=zy4 y.cells.toList 0 off ca hfit
       have hv1:Vl m (cs.take off++v.cells.toList++cs.drop (off+v.cells.toList.length)) (ca.toList.take (off+0)++y.cells.toList++ca.toList.drop (off+0+y.cells.toList.length)):=by
        rw[rb,<-Gh];exact((hc.take off).append CT).append (hc.drop _)
       obtain⟨ur,h1,h2⟩:=ih (ca:=(ca.toList.take (off+0)++y.cells.toList++ca.toList.drop (off+0+y.cells.toList.length)).toArray) h ka (by simpa using hv1) (by simpa using hlen);refine⟨ur,?_,h2⟩;simp only[Aam,Instr.fill,dM _ _ hp];rw[az (by simp;omega)];rw[<-hf]at h1;rw[<-h1];congr 1;rw[<-Array.foldl_toList];simp
     ·cases h
    ·cases h
   ·cases h
end
end Go.Am
