import Derived.Test.YtnojafnlicbhpaaGreatAmD
open Bool renaming false→aa,true→Z
open Option renaming none→ae,some→J
set_option linter.defProp false
namespace Go.Am
def bI:=@Bool.and_eq_true
def bR:=@Option.bind_eq_some_iff
def gA:=@Nat.mul_le_mul_right
def nT:=@Nat.add_mul
def v9:=@Option.getD_some
def wa:=@beq_iff_eq
def wb:=@Array.length_toList
def Gt:=@Option.isSome_iff_exists
def Oy:=@List.foldl_cons
def Ue:=@Array.getElem?_toList
def a0n:=@Option.getD_none
def a0o:=@List.zip_cons_cons
def a2a:=@List.extract_eq_take_drop
section
variable {m:Mu}{a:Act}{w:World}{P:Program}
variable{k:IntKind}{lo lo':Option Value}{t:TypeId}{v x x' y:Value}{xs ys:Array Value}
def zy7{op:UnOp}(h:Dn op x=J v)(hv:V m x y):∃z,(Op.unary op y).run P w=.ok z w/\V m v z:=by
 unfold Dn at h;split at h
 ·cases hv;cases h;exact⟨_,rfl,.bool _⟩
 ·cases hv;cases h;exact⟨_,rfl,.int _ _⟩
 ·cases h
def jC{d:TypeDesc}(h:P.underlying t=J d):(underlying t).run P w=.ok d w:=by
 simp[underlying,h]
def RK(h:jW P t=J k):P.underlying t=J (.int k):=by
 unfold jW at h;split at h
 ·cases h;assumption
 ·cases h
def pu{e:TypeId}(h:cS P t=J e):P.underlying t=J (.slice e):=by
 unfold cS at h;split at h
 ·cases h;assumption
 ·cases h
def TB{e:TypeId}{n:Nat}(h:AL P t=J (n,e)):P.underlying t=J (.array n e):=by
 unfold AL at h;split at h
 ·cases h;assumption
 ·cases h
def PB(h:dU P t=Z):P.underlying t=J .string:=by
 unfold dU at h;split at h
 ·assumption
 ·cases h
def zrC(h:Fi P t=Z):P.underlying t=J .bool:=by
 unfold Fi at h;split at h
 ·assumption
 ·cases h
def zwG{s d:TypeId}(h:Dq P s d x=J v)(hv:V m x y):∃z,(convert s d y).run P w=.ok z w/\V m v z:=by
 unfold Dq at h;split at h
 ·rename_i sd k j n hs hk;cases hv;cases h;have hd:=RK hk;refine⟨_,?_,.int _ _⟩;simp[convert,jC hs,jC hd,Conv.intToInt]
 ·cases h
def ztZ{op:BinOp}{x y:Int}(h:jK op k x y=J v):(binOp op t (.int k x) (.int k y)).run P w=.ok v w:=by
 cases op<;>simp only[jK]at h<;>
  first
   |(cases h;simp[binOp,Op.intArith,Op.intBits,Op.intCmp])
   | (split at h
      ·cases h
      ·cases h;rename_i hy;simp[binOp,Op.intDiv,hy])
   |cases h
def zsD(h:jW P t=J k){cs:Array Value}{o:Nat}(hv:cs.toList[o]? =J v):(part t cs o).run P w=.ok v w:=by
 have:=RK h;rw[Ue]at hv;simp[part,isAgg,jC this,hv]
def zxC{vi pR:Array Value}(hx:Vl m xs.toList vi.toList)(hy:Vl m ys.toList pR.toList):∀{fs:List Field}{l:List Nat}{r:Bool},Jr P fs=J l->tx xs.toList ys.toList l=J r->
 (Op.eqFields 9999 vi pR fs).run P w=.ok r w:=by
 intro fs;induction fs with
 |nil=>intro l r h1 h2;simp only[Jr]at h1;cases h1;simp only[tx]at h2;cases h2;rfl
 |cons f fs ih=>
  intro l r h1 h2;simp only[Jr]at h1;split at h1
  ·rename_i hf;obtain⟨k,hk⟩:=Gt.1 hf.2;simp only[bN]at h1;obtain⟨l',h3,rfl⟩:=h1;simp only[tx]at h2;split at h2
   ·rename_i j a j' b ha hb;split at h2<;>try cases h2
    rename_i e;subst e;simp only[bN]at h2;obtain⟨r',h4,rfl⟩:=h2;obtain⟨va,pa,qa⟩:=hx.get ha;obtain⟨vb,pb,qb⟩:=hy.get hb;cases qa;cases qb;have:=ih h3 h4;simp only[Op.eqFields,hf.1,ne_eq,not_false_eq_true,eP,Sem.run_bind,zsD hk pa,zsD hk pb,Result.andThen_ok,show(Op.equalIn 9999 f.type (.int j a) (.int j b)).run P w=.ok (a==b) w from run_equalIn_int w 9998 f.type j k a b (RK hk)];cases a==b<;>simp[this]
   ·cases h2
  ·cases h1
def UT{vi pR:Array Value}{r:Bool}(h:(Bi P t).bind (tx xs.toList ys.toList)=J r)(hx:Vl m xs.toList vi.toList)(hy:Vl m ys.toList pR.toList):
 P.eqGuardType P.depth t=aa/\(Op.equalIn 10000 t (.agg vi) (.agg pR)).run P w=.ok r w:=by
 simp only[bR]at h;obtain⟨l,h1,h2⟩:=h;unfold Bi at h1;split at h1
 ·rename_i fs jy;split at h1
  ·rename_i hc;have e:P.fieldsOf t=fs:=by simp[Program.fieldsOf,jy]
   refine⟨hc.2,?_⟩;rw[run_equalIn_struct w 9999 t vi pR (by rw[e];exact jy) hc.1,e];exact zxC hx hy h1 h2
  ·cases h1
 ·cases h1
def zxI{op:BinOp}{ox oy:Operand}{y':Value}(h:cW P op t x y=J v)(hx:V m x x')(hy:V m y y'):
 (do eqGuard op t ox oy x' y';binOp op t x' y').run P w=.ok v w/\V m v v:=by
 unfold cW at h;split at h
 ·rename_i xs ys;cases hx with
  |agg h1 h2=>
   cases hy with
   |agg h3 h4=>
    split at h
    ·simp only[bN]at h;obtain⟨r,h5,rfl⟩:=h;obtain⟨g1,g2⟩:=UT (w:=w) h5 ⟨h1,h2⟩ ⟨h3,h4⟩;refine⟨?_,.bool _⟩;rw[Sem.run_bind,run_eqGuard_agg _ _ _ _ _ _ _ g1,Result.andThen_ok,run_eql_struct,g2,Result.andThen_ok]
    ·simp only[bN]at h;obtain⟨r,h5,rfl⟩:=h;obtain⟨g1,g2⟩:=UT (w:=w) h5 ⟨h1,h2⟩ ⟨h3,h4⟩;refine⟨?_,.bool _⟩;rw[Sem.run_bind,run_eqGuard_agg _ _ _ _ _ _ _ g1,Result.andThen_ok,run_neq_struct,g2,Result.andThen_ok]
    ·cases h
 ·cases hx;cases hy;rename_i k a j b
  have hg:(eqGuard op t ox oy (.int k a) (.int j b)).run P w=.ok () w:=by
   unfold eqGuard;split<;>rfl
  simp only[Sem.run_bind,hg,Result.andThen_ok];split at h
  ·split at h
   ·cases h
   ·cases h;rename_i hb;exact⟨by simp[binOp,Op.shift,hb],.int _ _⟩
  ·split at h
   ·cases h
   ·cases h;rename_i hb;exact⟨by simp[binOp,Op.shift,hb],.int _ _⟩
  ·split at h
   ·rename_i e;subst e;refine⟨ztZ h,?_⟩;cases op<;>simp only[jK]at h<;>first|(cases h;first|exact .int _ _|exact .bool _)|(split at h<;>first|(cases h;first|exact .int _ _|exact .bool _)|cases h)|cases h
   ·cases h
 ·cases hx;cases hy;rename_i a b;split at h
  ·rename_i hb;have hu:=zrC hb
   have hg:(eqGuard op t ox oy (.bool a) (.bool b)).run P w=.ok () w:=by
    unfold eqGuard;split<;>rfl
   simp only[Sem.run_bind,hg,Result.andThen_ok];split at h
   ·cases h;exact⟨by simp[binOp,Op.equal,Op.maxDepth,run_equalIn_bool w 9999 t a b hu],.bool _⟩
   ·cases h;exact⟨by simp[binOp,Op.equal,Op.maxDepth,run_equalIn_bool w 9999 t a b hu,bne],.bool _⟩
   ·cases h
  ·cases h
 ·cases hx;cases hy;rename_i a b
  have hg:(eqGuard op t ox oy (.string a) (.string b)).run P w=.ok () w:=by
   unfold eqGuard;split<;>rfl
  simp only[Sem.run_bind,hg,Result.andThen_ok];split at h
  ·cases h;exact⟨by simp[binOp,Op.stringOp],.bool _⟩
  ·cases h;exact⟨by simp[binOp,Op.stringOp],.bool _⟩
  ·split at h
   ·cases h;rename_i hs;exact⟨by simp only[binOp];exact run_string_add_sum w a b hs,.str _⟩
   ·cases h
  ·cases h
 ·cases h
def VO(m:Mu):Option Value->Option Value->Prop
 |none,ae=>True
 |some x,J y=>V m x y
 |_,_=>False
def zu8(h:VO m lo lo'){i:Int}(e:lo=J (.int k i)):lo'=J (.int k i):=by
 subst e;cases lo' with
 |none=>cases h
 |some y=>have h':V m _ y:=h;cases h';rfl
def Hr{d q:Nat}(hq:uS d lo=J q)(h:VO m lo lo'):(lo'=ae/\lo=ae/\q=d)\/∃k i,lo'=J (.int k i)/\0<=i/\q=i.toNat:=by
 unfold uS at hq;split at hq
 ·cases hq;cases lo' with
  |none=>exact .inl ⟨rfl,rfl,rfl⟩
  |some y=>cases h
 ·split at hq
  ·cases hq;rename_i hh;exact .inr ⟨_,_,zu8 h rfl,hh,rfl⟩
  ·cases hq
 ·cases hq
def RH{q:Option Nat}(hq:xG lo=J q)(h:VO m lo lo'):(lo'=ae/\q=ae)\/∃k i,lo'=J (.int k i)/\0<=i/\q=J i.toNat:=by
 unfold xG at hq;split at hq
 ·cases hq;cases lo' with
  |none=>exact .inl ⟨rfl,rfl⟩
  |some y=>cases h
 ·split at hq
  ·cases hq;rename_i hh;exact .inr ⟨_,_,zu8 h rfl,hh,rfl⟩
  ·cases hq
 ·cases hq
def FX{i:Int}{y:Nat}{c:BoundsCode}(h0:0<=i)(h:i<=(y:Int)):(Instr.sliceBound (.int k i) y c).run P w=.ok i.toNat w:=by
 simp[Instr.sliceBound,asIntOf,h0,h]
def K4{b:Bool}{hi mx hi' mx':Option Value}{n c cap l h:Nat}{mo:Option Nat}(hb:oA lo hi mx n c=J (l,h,mo))(hc:c<=cap)
(h1:VO m lo lo')(h2:VO m hi hi')(h3:VO m mx mx'):
 (Instr.sliceBounds b n cap lo' hi' mx').run P w=.ok (l,h,mo.getD cap) w/\l<=h/\h<=mo.getD cap/\(match mo with|none=>h<=c|some q=>q<=c):=by
 unfold oA at hb;split at hb
 ·rename_i l1 q1 e1 e2 e3;split at hb
  ·rename_i xO;cases hb;rcases RH e3 h3 with⟨rfl,_⟩|⟨k,i,rfl,_,e⟩
   ·rcases Hr e2 h2 with⟨rfl,_,rfl⟩|⟨k2,i2,rfl,RR,rfl⟩
    ·rcases Hr e1 h1 with⟨rfl,_,rfl⟩|⟨k1,i1,rfl,Ja,rfl⟩
     ·exact⟨by simp[Instr.sliceBounds],by omega,by simp;omega,by simp;omega⟩
     ·exact⟨by simp[Instr.sliceBounds,FX Ja (show i1<=(h:Int)by omega)],by omega,by simp;omega,by simp;omega⟩
    ·have fQ:∀c',(Instr.sliceBound (.int k2 i2) cap c').run P w=.ok i2.toNat w:=λc'=>FX RR (by omega)
     rcases Hr e1 h1 with⟨rfl,_,rfl⟩|⟨k1,i1,rfl,Ja,rfl⟩
     ·exact⟨by simp[Instr.sliceBounds,fQ],by omega,by simp;omega,by simp;omega⟩
     ·exact⟨by simp[Instr.sliceBounds,fQ,FX Ja (show i1<=(i2.toNat:Int)by omega)],by omega,by simp;omega,by simp;omega⟩
   ·cases e
  ·cases hb
 ·rename_i l1 q1 q3 e1 e2 e3;split at hb
  ·rename_i xO;cases hb;rcases RH e3 h3 with⟨_,e⟩|⟨k3,i3,rfl,h03,e⟩
   ·cases e
   ·cases e;rcases Hr e2 h2 with⟨_,rfl,_⟩|⟨k2,i2,rfl,RR,rfl⟩
    ·simp at xO
    ·have Ve:∀c',(Instr.sliceBound (.int k3 i3) cap c').run P w=.ok i3.toNat w:=λc'=>FX h03 (by omega)
     have fQ:∀c',(Instr.sliceBound (.int k2 i2) i3.toNat c').run P w=.ok i2.toNat w:=λc'=>FX RR (by omega)
     rcases Hr e1 h1 with⟨rfl,_,rfl⟩|⟨k1,i1,rfl,Ja,rfl⟩
     ·exact⟨by simp[Instr.sliceBounds,Ve,fQ],by omega,by simp;omega,by simp;omega⟩
     ·exact⟨by simp[Instr.sliceBounds,Ve,fQ,FX Ja (show i1<=(i2.toNat:Int)by omega)],by omega,by simp;omega,by simp;omega⟩
  ·cases hb
 ·cases hb
def FL{hi mx hi' mx':Option Value}(h:nL P t x lo hi mx=J v)(hx:V m x x')
(h1:VO m lo lo')(h2:VO m hi hi')(h3:VO m mx mx'):∃y,(Instr.sliceAt t x' lo' hi' mx').run P w=.ok y w/\V m v y:=by
 unfold nL at h;split at h
 ·rename_i id off bw n c;split at h
  ·rename_i e he;have hu:=pu he;split at h
   ·rename_i g es dF ht;obtain⟨cB,z⟩:=dF;obtain⟨i,zv,_,_,_,_,_,_,ey⟩:=ju (w:=w) ht;split at h
    ·cases h
    ·rename_i hes;have hes:es=bw:=by simpa using hes
     subst hes;cases hx with
     |slice bY k1 k2 k3 k4=>
      rename_i o cap;have add:∀l,l<=cap->l*es+(cap-l)*es=cap*es:=λl hl=>by rw[<-nT];congr 1;omega
      split at h
      ·rename_i l hh hb;cases h;obtain⟨hr,AW,EF,lL⟩:=K4 (P:=P) (w:=w) (m:=m) (b:=Z) hb k2 h1 h2 h3;simp only[a0n]at hr EF;simp only at lL;have:=add l (by omega);refine⟨.slice (J ⟨(m.f id).bq,if cap=l then o else o+l*es,ae⟩) (hh-l) (cap-l),?_,.slice bY (by omega) (by omega) (λhp=>?_) (by omega)⟩
       ·simp[Instr.sliceAt,jC hu,Instr.slice,hr,ey,ur];split<;>rfl
       ·rw[az (by omega),k3 (by omega),iN]
      ·rename_i l hh q hb;obtain⟨hr,AW,EF,lL⟩:=K4 (P:=P) (w:=w) (m:=m) (b:=Z) hb k2 h1 h2 h3;simp only[v9]at hr EF;simp only at lL;have h5:=add l (by omega);have h6:(q-l)*es<=(cap-l)*es:=gA _ (by omega)
       have dL:(Instr.sliceAt t (.slice (J ⟨(m.f id).bq,o,ae⟩) n cap) lo' hi' mx').run P w=.ok (.slice (J ⟨(m.f id).bq,if q=l then o else o+l*es,ae⟩) (hh-l) (q-l)) w:=by
        simp[Instr.sliceAt,jC hu,Instr.slice,hr,ey,ur];split<;>rfl
       split at h
       ·cases h;rename_i hq;have e1:hh-l=0:=by omega
        rw[e1,hq]at dL;exact⟨_,dL,.mf _⟩
       ·cases h;refine⟨_,dL,.slice bY (by omega) (by omega) (λhp=>?_) (by omega)⟩;rw[az (by omega),k3 (by omega),iN]
      ·cases h
   ·cases h
  ·cases h
 ·split at h
  ·rename_i e he;have hu:=pu he;split at h
   ·rename_i dF ht;obtain⟨g,es,cB,z⟩:=dF;obtain⟨i,zv,_,_,_,_,_,_,ey⟩:=ju (w:=w) ht;split at h
    ·rename_i r hb;obtain⟨l,hh,mo⟩:=r;cases h;cases hx with
     |mf ad=>
      obtain⟨hr,AW,EF,lL⟩:=K4 (P:=P) (w:=w) (m:=m) (b:=Z) hb (cy _) h1 h2 h3;have rN:mo.getD 0=0:=by cases mo<;>simp_all
      rw[rN]at hr EF;have e1:hh=0:=by omega
      have e2:l=0:=by omega
      subst e1;subst e2;exact⟨.slice ad 0 0,by simp[Instr.sliceAt,jC hu,Instr.slice,hr,ey],.mf _⟩
    ·cases h
   ·cases h
  ·cases h
 ·split at h
  ·rename_i ht;have hu:=PB ht;cases hx with
   |str s=>
    split at h
    ·rename_i l hh hb;cases h;obtain⟨hr,AW,EF,lL⟩:=K4 (P:=P) (w:=w) (m:=m) (b:=aa) hb (cy _) h1 h2 h3
     have gE:mx'=ae:=by
      unfold oA at hb;split at hb
      ·rename_i e3;rcases RH e3 h3 with⟨e,_⟩|⟨_,_,_,_,e⟩
       ·exact e
       ·cases e
      ·split at hb<;>simp at hb
      ·cases hb
     subst gE;simp only[a0n]at hr;refine⟨_,?_,.str _⟩;simp[Instr.sliceAt,jC hu,Instr.slice,hr]
    ·cases h
  ·cases h
 ·cases h
def ZR{cs:List Value}{off:Nat}(h:Ou P t cs off=J v)(hv:Vl m cs ys.toList):
 ∃y,(part t ys off).run P w=.ok y w/\V m v y:=by
 unfold Ou at h;split at h
 ·rename_i sz dF ht;obtain⟨cB,z⟩:=dF;obtain⟨i,zv,_,_,_,_,_,ha,hs⟩:=ju (w:=w) ht;simp only[bN]at h;obtain⟨l,h1,rfl⟩:=h;obtain⟨rfl,h2⟩:=Qr h1;refine⟨.agg (ys.extract off (off+sz)),by simp[part,ha,hs],?_⟩;have:=(hv.drop off).take sz;refine .agg ?_ ?_
  ·simpa[a2a]using this.1
  ·simpa[a2a]using this.2
 ·rename_i sz dF ht;obtain⟨cB,z⟩:=dF;obtain⟨i,zv,_,_,_,_,_,ha,hs⟩:=ju (w:=w) ht;have hg:cs[off]? =J v:=by simpa[List.head?_drop]using h
  obtain⟨y,hy,hV⟩:=hv.get hg;refine⟨y,?_,hV⟩;have ie:ys[off]? =J y:=by simpa using hy
  simp[part,ha,ie]
 ·cases h
def U7(h:V m (.agg xs) y):∃ys,y=.agg ys/\Vl m xs.toList ys.toList:=by
 cases h with
 |agg hl k=>exact⟨_,rfl,hl,k⟩
def zuB{f:Nat}(h:RE P t f x=J v)(hx:V m x x'):∃y,(Instr.field t x' f).run P w=.ok y w/\V m v y:=by
 unfold RE at h;split at h
 ·rename_i jX cs hu;obtain⟨ys,rfl,hv⟩:=U7 hx;split at h
  ·rename_i fd hf;obtain⟨y,hy,hV⟩:=ZR (P:=P) (w:=w) h hv;exact⟨y,by simp[Instr.field,jC hu,hf,asAgg,hy],hV⟩
  ·cases h
 ·cases h
def zuN{i i':Value}(h:rP P t x i=J v)(hx:V m x x')(hi:V m i i'):∃y,(Instr.index t x' i').run P w=.ok y w/\V m v y:=by
 unfold rP at h;split at h
 ·rename_i s k n;cases hx;cases hi;split at h
  ·rename_i hc;obtain⟨ht,h0⟩:=hc;have hu:=PB ht;simp only[bN]at h;obtain⟨b,hb,rfl⟩:=h;exact⟨_,by simp[Instr.index,asIntOf,jC hu,h0,hb],.int _ _⟩
  ·cases h
 ·rename_i cs k n;obtain⟨ys,rfl,hv⟩:=U7 hx;cases hi;split at h
  ·rename_i len e he;have hu:=TB he;split at h
   ·rename_i hc;split at h
    ·rename_i g es dF ht;obtain⟨cB,z⟩:=dF;obtain⟨i,zv,_,_,_,_,_,ha,hs⟩:=ju (w:=w) ht;obtain⟨y,hy,hV⟩:=ZR (P:=P) (w:=w) h hv;exact⟨y,by simp[Instr.index,asIntOf,jC hu,hc,hs,hy],hV⟩
    ·cases h
   ·cases h
  ·cases h
 ·cases h
def zyu{ty:TypeId}(h:iM P t x=J v)(hx:V m x x'):(Builtin.len_ #[t] ty #[x']).run P w=.ok v w/\V m v v:=by
 unfold iM at h;split at h
 ·split at h
  ·rename_i e he;have hu:=pu he;cases h;cases hx<;>exact⟨by simp[Builtin.len_,jC hu,goInt],.int _ _⟩
  ·cases h
 ·split at h
  ·rename_i ht;have hu:=PB ht;cases h;cases hx;exact⟨by simp[Builtin.len_,jC hu,goInt],.int _ _⟩
  ·cases h
 ·cases h
def zy1:∀(l:List Value) (k off:Nat) (ca:Array Value),off+k+l.length<=ca.size->
 (l.zipIdx k).foldl (λ(cs:Array Value) (p:Value×Nat)=>cs.setIfInBounds (off+p.2) p.1) ca=(ca.toList.take (off+k)++l++ca.toList.drop (off+k+l.length)).toArray:=by
 intro l;induction l with
 |nil=>intro k off ca h;simp
 |cons x l ih=>
  intro k off ca h;simp only[List.zipIdx_cons,Oy];rw[ih (k+1) off _ (by simp at h⊢;omega)];have e:=list_seg_step ca.toList (off+k) x l (by simp at h⊢;omega);congr 1;simpa[Array.toList_setIfInBounds,iN]using e
def PC{kR XZ:Nat->Option (Nat×Nat)}(dN:∀i p,kR i=J p->XZ i=J p):∀{js:List Nat}{vs ys:List Value}{cs eQ:List Value}{ca:Array Value},jw kR (js.zip vs) cs=J eQ->Vl m vs ys->Vl m cs ca.toList->
 js.length=vs.length->∃uA,Instr.fill XZ ca (js.zip ys)=J uA/\Vl m eQ uA.toList:=by
 intro js;induction js with
 |nil=>
  intro vs ys cs eQ ca h hv hc _;simp only[List.zip_nil_left,jw,aT]at h;subst h;exact⟨ca,by simp[Instr.fill],hc⟩
 |cons i js ih=>
  intro vs ys cs eQ ca h hv hc hlen;cases vs with
  |nil=>simp at hlen
  |cons v vs=>
   obtain⟨y,pR,rfl,hV,j3⟩:=hv.cons_inv;simp only[a0o,jw]at h;split at h
   ·rename_i off size hp;split at h
    ·rename_i xO;simp only[bI,wa]at xO;split at h
     ·rename_i cs1 dn;have hne:v≠.tuple #[]:=λe=>by subst e;simp[mD]at xO
      have CQ:=hV.cells hne;have ey:y.cells.size=size:=by have:=CQ.1;have y1:=wb (xs:=y.cells);omega
      have gQ:=hc.1;have DS:v.cells.toList.length=y.cells.toList.length:=CQ.1;have y1:=wb (xs:=y.cells);have y2:=wb (xs:=ca);rcases IU dn with⟨Tj,rfl⟩|⟨cV,rfl⟩
      ·rw[Tj]at xO;simp at xO;omega
      ·have hfit:off+0+y.cells.toList.length<=ca.size:=by omega
       have hf:=zy1 y.cells.toList 0 off ca hfit
       have hv1:Vl m (cs.take off++v.cells.toList++cs.drop (off+v.cells.toList.length)) (ca.toList.take (off+0)++y.cells.toList++ca.toList.drop (off+0+y.cells.toList.length)):=by
        rw[rc,<-DS];exact((hc.take off).append CQ).append (hc.drop _)
       obtain⟨uA,h1,h2⟩:=ih (ca:=(ca.toList.take (off+0)++y.cells.toList++ca.toList.drop (off+0+y.cells.toList.length)).toArray) h j3 (by simpa using hv1) (by simpa using hlen);refine⟨uA,?_,h2⟩;simp only[a0o,Instr.fill,dN _ _ hp];rw[az (by simp;omega)];rw[<-hf]at h1;rw[<-h1];congr 1;rw[<-Array.foldl_toList];simp
     ·cases h
    ·cases h
   ·cases h
end
end Go.Am
