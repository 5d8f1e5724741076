import Derived.Test.YtjnidpmkglobfaaGreatAmD
open Bool renaming false→Z,true→O
open Option renaming none→aa,some→J
set_option linter.defProp false
namespace Go.Am
def bC:=@Bool.and_eq_true
def bT:=@Option.bind_eq_some_iff
def gN:=@Nat.mul_le_mul_right
def oF:=@Nat.add_mul
def xH:=@Option.getD_some
def xI:=@Array.length_toList
def zo:=@beq_iff_eq
def HI:=@Option.isSome_iff_exists
def Qt:=@List.foldl_cons
def Wd:=@Array.getElem?_toList
def a1s:=@Option.getD_none
def a1t:=@List.zip_cons_cons
def a5H:=@List.extract_eq_take_drop
section
variable {m:Mu}{a:Act}{w:World}{P:Program}
variable{k:IntKind}{X lo':Option Value}{t:TypeId}{v x W y:Value}{xs Y:Array Value}
def zyo{c:UnOp}(h:GJ c x=J v)(b:V m x y):∃z,(Op.unary c y).run P w=.ok z w/\V m v z:=by
 unfold GJ at h;split at h
 ·cases b;cases h;exact⟨_,rfl,.bool _⟩
 ·cases b;cases h;exact⟨_,rfl,.int _ _⟩
 ·cases h
def jN{d:TypeDesc}(h:P.underlying t=J d):(underlying t).run P w=.ok d w:=by
 simp[underlying,h]
def Rd(h:kv P t=J k):P.underlying t=J (.int k):=by
 unfold kv at h;split at h
 ·cases h;assumption
 ·cases h
def p8{e:TypeId}(h:df P t=J e):P.underlying t=J (.slice e):=by
 unfold df at h;split at h
 ·cases h;assumption
 ·cases h
def S8{e:TypeId}{n:Nat}(h:AA P t=J (n,e)):P.underlying t=J (.array n e):=by
 unfold AA at h;split at h
 ·cases h;assumption
 ·cases h
def UC(h:eS P t=O):P.underlying t=J .string:=by
 unfold eS at h;split at h
 ·assumption
 ·cases h
def zrd(h:GD P t=O):P.underlying t=J .bool:=by
 unfold GD at h;split at h
 ·assumption
 ·cases h
def zvK{s d:TypeId}(h:F7 P s d x=J v)(e:V m x y):∃z,(convert s d y).run P w=.ok z w/\V m v z:=by
 unfold F7 at h;split at h
 ·rename_i f k j n c b;cases e;cases h;have hd:=Rd b;refine⟨_,?_,.int _ _⟩;simp[convert,jN c,jN hd,Conv.intToInt]
 ·cases h
def ztm{b:BinOp}{x y:Int}(h:kX b k x y=J v):(binOp b t (.int k x) (.int k y)).run P w=.ok v w:=by
 cases b<;>simp only[kX]at h<;>
  first
   |(cases h;simp[binOp,Op.intArith,Op.intBits,Op.intCmp])
   | (split at h
      ·cases h
      ·cases h;rename_i c;simp[binOp,Op.intDiv,c])
   |cases h
def zsD(h:kv P t=J k){cs:Array Value}{o:Nat}(b:cs.toList[o]? =J v):(part t cs o).run P w=.ok v w:=by
 have:=Rd h;rw[Wd]at b;simp[part,isAgg,jN this,b]
def zw0{o n:Array Value}(z:Vl m xs.toList o.toList)(A:Vl m Y.toList n.toList):∀{g:List Field}{l:List Nat}{r:Bool},Ly P g=J l->uL xs.toList Y.toList l=J r->
 (Op.eqFields 9999 o n g).run P w=.ok r w:=by
 intro g;induction g with
 |nil=>intro l r d c;simp only[Ly]at d;cases d;simp only[uL]at c;cases c;rfl
 |cons f g ih=>
  intro l r d c;simp only[Ly]at d;split at d
  ·rename_i i;obtain⟨k,h⟩:=HI.1 i.2;simp only[bL]at d;obtain⟨F,p,rfl⟩:=d;simp only[uL]at c;split at c
   ·rename_i j a E b s u;split at c<;>try cases c
    rename_i e;subst e;simp only[bL]at c;obtain⟨G,q,rfl⟩:=c;obtain⟨H,pa,C⟩:=z.get s;obtain⟨I,B,D⟩:=A.get u;cases C;cases D;have:=ih p q;simp only[Op.eqFields,i.1,ne_eq,not_false_eq_true,e7,Sem.run_bind,zsD h pa,zsD h B,Result.andThen_ok,show(Op.equalIn 9999 f.type (.int j a) (.int j b)).run P w=.ok (a==b) w from run_equalIn_int w 9998 f.type j k a b (Rd h)];cases a==b<;>simp[this]
   ·cases c
  ·cases d
def zsx{d c:Array Value}{r:Bool}(h:(Cg P t).bind (uL xs.toList Y.toList)=J r)(n:Vl m xs.toList d.toList)(o:Vl m Y.toList c.toList):
 P.eqGuardType P.depth t=Z/\(Op.equalIn 10000 t (.agg d) (.agg c)).run P w=.ok r w:=by
 simp only[bT]at h;obtain⟨l,b,j⟩:=h;unfold Cg at b;split at b
 ·rename_i i g;split at b
  ·rename_i f;have e:P.fieldsOf t=i:=by simp[Program.fieldsOf,g]
   refine⟨f.2,?_⟩;rw[run_equalIn_struct w 9999 t d c (by rw[e];exact g) f.1,e];exact zw0 n o b j
  ·cases b
 ·cases b
def zxi{c:BinOp}{ox oy:Operand}{p:Value}(h:dx P c t x y=J v)(g:V m x W)(i:V m y p):
 (do eqGuard c t ox oy W p;binOp c t W p).run P w=.ok v w/\V m v v:=by
 unfold dx at h;split at h
 ·rename_i xs Y;cases g with
  |agg q s=>
   cases i with
   |agg u z=>
    split at h
    ·simp only[bL]at h;obtain⟨r,o,rfl⟩:=h;obtain⟨l,n⟩:=zsx (w:=w) o ⟨q,s⟩ ⟨u,z⟩;refine⟨?_,.bool _⟩;rw[Sem.run_bind,run_eqGuard_agg _ _ _ _ _ _ _ l,Result.andThen_ok,run_eql_struct,n,Result.andThen_ok]
    ·simp only[bL]at h;obtain⟨r,o,rfl⟩:=h;obtain⟨l,n⟩:=zsx (w:=w) o ⟨q,s⟩ ⟨u,z⟩;refine⟨?_,.bool _⟩;rw[Sem.run_bind,run_eqGuard_agg _ _ _ _ _ _ _ l,Result.andThen_ok,run_neq_struct,n,Result.andThen_ok]
    ·cases h
 ·cases g;cases i;rename_i k a j b
  have f:(eqGuard c t ox oy (.int k a) (.int j b)).run P w=.ok () w:=by
   unfold eqGuard;split<;>rfl
  simp only[Sem.run_bind,f,Result.andThen_ok];split at h
  ·split at h
   ·cases h
   ·cases h;rename_i d;exact⟨by simp[binOp,Op.shift,d],.int _ _⟩
  ·split at h
   ·cases h
   ·cases h;rename_i d;exact⟨by simp[binOp,Op.shift,d],.int _ _⟩
  ·split at h
   ·rename_i e;subst e;refine⟨ztm h,?_⟩;cases c<;>simp only[kX]at h<;>first|(cases h;first|exact .int _ _|exact .bool _)|(split at h<;>first|(cases h;first|exact .int _ _|exact .bool _)|cases h)|cases h
   ·cases h
 ·cases g;cases i;rename_i a b;split at h
  ·rename_i d;have A:=zrd d
   have f:(eqGuard c t ox oy (.bool a) (.bool b)).run P w=.ok () w:=by
    unfold eqGuard;split<;>rfl
   simp only[Sem.run_bind,f,Result.andThen_ok];split at h
   ·cases h;exact⟨by simp[binOp,Op.equal,Op.maxDepth,run_equalIn_bool w 9999 t a b A],.bool _⟩
   ·cases h;exact⟨by simp[binOp,Op.equal,Op.maxDepth,run_equalIn_bool w 9999 t a b A,bne],.bool _⟩
   ·cases h
  ·cases h
 ·cases g;cases i;rename_i a b
  have f:(eqGuard c t ox oy (.string a) (.string b)).run P w=.ok () w:=by
   unfold eqGuard;split<;>rfl
  simp only[Sem.run_bind,f,Result.andThen_ok];split at h
  ·cases h;exact⟨by simp[binOp,Op.stringOp],.bool _⟩
  ·cases h;exact⟨by simp[binOp,Op.stringOp],.bool _⟩
  ·split at h
   ·cases h;rename_i B;exact⟨by simp only[binOp];exact run_string_add_sum w a b B,.str _⟩
   ·cases h
  ·cases h
 ·cases h
def VO(m:Mu):Option Value->Option Value->Prop
 |none,aa=>True
 |some x,J y=>V m x y
 |_,_=>False
def XX(h:VO m X lo'){i:Int}(e:X=J (.int k i)):lo'=J (.int k i):=by
 subst e;cases lo' with
 |none=>cases h
 |some y=>have b:V m _ y:=h;cases b;rfl
def KM{d q:Nat}(b:BD d X=J q)(h:VO m X lo'):(lo'=aa/\X=aa/\q=d)\/∃k i,lo'=J (.int k i)/\0<=i/\q=i.toNat:=by
 unfold BD at b;split at b
 ·cases b;cases lo' with
  |none=>exact .inl ⟨rfl,rfl,rfl⟩
  |some y=>cases h
 ·split at b
  ·cases b;rename_i c;exact .inr ⟨_,_,XX h rfl,c,rfl⟩
  ·cases b
 ·cases b
def UY{q:Option Nat}(b:Dv X=J q)(h:VO m X lo'):(lo'=aa/\q=aa)\/∃k i,lo'=J (.int k i)/\0<=i/\q=J i.toNat:=by
 unfold Dv at b;split at b
 ·cases b;cases lo' with
  |none=>exact .inl ⟨rfl,rfl⟩
  |some y=>cases h
 ·split at b
  ·cases b;rename_i c;exact .inr ⟨_,_,XX h rfl,c,rfl⟩
  ·cases b
 ·cases b
def G0{i:Int}{y:Nat}{c:BoundsCode}(b:0<=i)(h:i<=(y:Int)):(Instr.sliceBound (.int k i) y c).run P w=.ok i.toNat w:=by
 simp[Instr.sliceBound,asIntOf,b,h]
def Nt{b:Bool}{H K I L:Option Value}{n c j l h:Nat}{u:Option Nat}(d:rm X H K n c=J (l,h,u))(R:c<=j)
(C:VO m X lo')(F:VO m H I)(G:VO m K L):
 (Instr.sliceBounds b n j lo' I L).run P w=.ok (l,h,u.getD j) w/\l<=h/\h<=u.getD j/\(match u with|none=>h<=c|some q=>q<=c):=by
 unfold rm at d;split at d
 ·rename_i Q q1 s A B;split at d
  ·rename_i M;cases d;rcases UY B G with⟨rfl,_⟩|⟨k,i,rfl,_,e⟩
   ·rcases KM A F with⟨rfl,_,rfl⟩|⟨k2,g,rfl,z,rfl⟩
    ·rcases KM s C with⟨rfl,_,rfl⟩|⟨k1,r,rfl,o,rfl⟩
     ·exact⟨by simp[Instr.sliceBounds],by omega,by simp;omega,by simp;omega⟩
     ·exact⟨by simp[Instr.sliceBounds,G0 o (show r<=(h:Int)by omega)],by omega,by simp;omega,by simp;omega⟩
    ·have p:∀f,(Instr.sliceBound (.int k2 g) j f).run P w=.ok g.toNat w:=λf=>G0 z (by omega)
     rcases KM s C with⟨rfl,_,rfl⟩|⟨k1,r,rfl,o,rfl⟩
     ·exact⟨by simp[Instr.sliceBounds,p],by omega,by simp;omega,by simp;omega⟩
     ·exact⟨by simp[Instr.sliceBounds,p,G0 o (show r<=(g.toNat:Int)by omega)],by omega,by simp;omega,by simp;omega⟩
   ·cases e
  ·cases d
 ·rename_i Q q1 q3 s A B;split at d
  ·rename_i M;cases d;rcases UY B G with⟨_,e⟩|⟨k3,D,rfl,N,e⟩
   ·cases e
   ·cases e;rcases KM A F with⟨_,rfl,_⟩|⟨k2,g,rfl,z,rfl⟩
    ·simp at M
    ·have E:∀f,(Instr.sliceBound (.int k3 D) j f).run P w=.ok D.toNat w:=λf=>G0 N (by omega)
     have p:∀f,(Instr.sliceBound (.int k2 g) D.toNat f).run P w=.ok g.toNat w:=λf=>G0 z (by omega)
     rcases KM s C with⟨rfl,_,rfl⟩|⟨k1,r,rfl,o,rfl⟩
     ·exact⟨by simp[Instr.sliceBounds,E,p],by omega,by simp;omega,by simp;omega⟩
     ·exact⟨by simp[Instr.sliceBounds,E,p,G0 o (show r<=(g.toNat:Int)by omega)],by omega,by simp;omega,by simp;omega⟩
  ·cases d
 ·cases d
def GE{M Q hi' mx':Option Value}(h:qI P t x X M Q=J v)(I:V m x W)
(A:VO m X lo')(B:VO m M hi')(p:VO m Q mx'):∃y,(Instr.sliceAt t W lo' hi' mx').run P w=.ok y w/\V m v y:=by
 unfold qI at h;split at h
 ·rename_i id off S nx cx1;split at h
  ·rename_i e G;have n:=p8 G;split at h
   ·rename_i gx1 f D r;obtain⟨T,zx1⟩:=D;obtain⟨ix1,zv,_,_,_,_,_,_,z⟩:=jx (w:=w) r;split at h
    ·cases h
    ·rename_i H;have H:f=S:=by simpa using H
     subst H;cases I with
     |slice L k1 k2 k3 k4=>
      rename_i o g;have K:∀l,l<=g->l*f+(g-l)*f=g*f:=λl hl=>by rw[<-oF];congr 1;omega
      split at h
      ·rename_i l i c;cases h;obtain⟨d,C,j,u⟩:=Nt (P:=P) (w:=w) (m:=m) (b:=O) c k2 A B p;simp only[a1s]at d j;simp only at u;have:=K l (by omega);refine⟨.slice (J ⟨(m.f id).bn,if g=l then o else o+l*f,aa⟩) (i-l) (g-l),?_,.slice L (by omega) (by omega) (λhp=>?_) (by omega)⟩
       ·simp[Instr.sliceAt,jN n,Instr.slice,d,z,xh];split<;>rfl
       ·rw[aA (by omega),k3 (by omega),i9]
      ·rename_i l i q c;obtain⟨d,C,j,u⟩:=Nt (P:=P) (w:=w) (m:=m) (b:=O) c k2 A B p;simp only[xH]at d j;simp only at u;have h5:=K l (by omega);have h6:(q-l)*f<=(g-l)*f:=gN _ (by omega)
       have E:(Instr.sliceAt t (.slice (J ⟨(m.f id).bn,o,aa⟩) nx g) lo' hi' mx').run P w=.ok (.slice (J ⟨(m.f id).bn,if q=l then o else o+l*f,aa⟩) (i-l) (q-l)) w:=by
        simp[Instr.sliceAt,jN n,Instr.slice,d,z,xh];split<;>rfl
       split at h
       ·cases h;rename_i hq;have F:i-l=0:=by omega
        rw[F,hq]at E;exact⟨_,E,.mV _⟩
       ·cases h;refine⟨_,E,.slice L (by omega) (by omega) (λhp=>?_) (by omega)⟩;rw[aA (by omega),k3 (by omega),i9]
      ·cases h
   ·cases h
  ·cases h
 ·split at h
  ·rename_i e G;have n:=p8 G;split at h
   ·rename_i D r;obtain⟨gx1,f,T,zx1⟩:=D;obtain⟨ix1,zv,_,_,_,_,_,_,z⟩:=jx (w:=w) r;split at h
    ·rename_i rx1 c;obtain⟨l,i,N⟩:=rx1;cases h;cases I with
     |mV R=>
      obtain⟨d,C,j,u⟩:=Nt (P:=P) (w:=w) (m:=m) (b:=O) c (cq _) A B p;have sV:N.getD 0=0:=by cases N<;>simp_all
      rw[sV]at d j;have F:i=0:=by omega
      have U:l=0:=by omega
      subst F;subst U;exact⟨.slice R 0 0,by simp[Instr.sliceAt,jN n,Instr.slice,d,z],.mV _⟩
    ·cases h
   ·cases h
  ·cases h
 ·split at h
  ·rename_i r;have n:=UC r;cases I with
   |str s=>
    split at h
    ·rename_i l i c;cases h;obtain⟨d,C,j,u⟩:=Nt (P:=P) (w:=w) (m:=m) (b:=Z) c (cq _) A B p
     have gZ:mx'=aa:=by
      unfold rm at c;split at c
      ·rename_i e3;rcases UY e3 p with⟨e,_⟩|⟨_,_,_,_,e⟩
       ·exact e
       ·cases e
      ·split at c<;>simp at c
      ·cases c
     subst gZ;simp only[a1s]at d;refine⟨_,?_,.str _⟩;simp[Instr.sliceAt,jN n,Instr.slice,d]
    ·cases h
  ·cases h
 ·cases h
def Yj{cs:List Value}{off:Nat}(h:Qg P t cs off=J v)(g:Vl m cs Y.toList):
 ∃y,(part t Y off).run P w=.ok y w/\V m v y:=by
 unfold Qg at h;split at h
 ·rename_i e b d;obtain⟨j,z⟩:=b;obtain⟨i,s,_,_,_,_,_,c,f⟩:=jx (w:=w) d;simp only[bL]at h;obtain⟨l,n,rfl⟩:=h;obtain⟨rfl,u⟩:=Sj n;refine⟨.agg (Y.extract off (off+e)),by simp[part,c,f],?_⟩;have:=(g.drop off).take e;refine .agg ?_ ?_
  ·simpa[a5H]using this.1
  ·simpa[a5H]using this.2
 ·rename_i e b d;obtain⟨j,z⟩:=b;obtain⟨i,s,_,_,_,_,_,c,f⟩:=jx (w:=w) d;have p:cs[off]? =J v:=by simpa[List.head?_drop]using h
  obtain⟨y,q,o⟩:=g.get p;refine⟨y,?_,o⟩;have r:Y[off]? =J y:=by simpa using q
  simp[part,c,r]
 ·cases h
def zuk(h:V m (.agg xs) y):∃Y,y=.agg Y/\Vl m xs.toList Y.toList:=by
 cases h with
 |agg b k=>exact⟨_,rfl,b,k⟩
def ztW{f:Nat}(h:Sp P t f x=J v)(g:V m x W):∃y,(Instr.field t W f).run P w=.ok y w/\V m v y:=by
 unfold Sp at h;split at h
 ·rename_i l cs d;obtain⟨Y,rfl,e⟩:=zuk g;split at h
  ·rename_i j c;obtain⟨y,i,b⟩:=Yj (P:=P) (w:=w) h e;exact⟨y,by simp[Instr.field,jN d,c,asAgg,i],b⟩
  ·cases h
 ·cases h
def ztY{i o:Value}(h:yg P t x i=J v)(l:V m x W)(j:V m i o):∃y,(Instr.index t W o).run P w=.ok y w/\V m v y:=by
 unfold yg at h;split at h
 ·rename_i s k n;cases l;cases j;split at h
  ·rename_i c;obtain⟨d,q⟩:=c;have f:=UC d;simp only[bL]at h;obtain⟨b,u,rfl⟩:=h;exact⟨_,by simp[Instr.index,asIntOf,jN f,q,u],.int _ _⟩
  ·cases h
 ·rename_i cs k n;obtain⟨Y,rfl,C⟩:=zuk l;cases j;split at h
  ·rename_i H e A;have f:=S8 A;split at h
   ·rename_i c;split at h
    ·rename_i g F p d;obtain⟨E,z⟩:=p;obtain⟨i,I,_,_,_,_,_,G,B⟩:=jx (w:=w) d;obtain⟨y,D,r⟩:=Yj (P:=P) (w:=w) h C;exact⟨y,by simp[Instr.index,asIntOf,jN f,c,B,D],r⟩
    ·cases h
   ·cases h
  ·cases h
 ·cases h
def zx0{ty:TypeId}(h:jH P t x=J v)(c:V m x W):(Builtin.len_ #[t] ty #[W]).run P w=.ok v w/\V m v v:=by
 unfold jH at h;split at h
 ·split at h
  ·rename_i e d;have b:=p8 d;cases h;cases c<;>exact⟨by simp[Builtin.len_,jN b,goInt],.int _ _⟩
  ·cases h
 ·split at h
  ·rename_i f;have b:=UC f;cases h;cases c;exact⟨by simp[Builtin.len_,jN b,goInt],.int _ _⟩
  ·cases h
 ·cases h
def zyB:∀(l:List Value) (k off:Nat) (b:Array Value),off+k+l.length<=b.size->
 (l.zipIdx k).foldl (λ(cs:Array Value) (p:Value×Nat)=>cs.setIfInBounds (off+p.2) p.1) b=(b.toList.take (off+k)++l++b.toList.drop (off+k+l.length)).toArray:=by
 intro l;induction l with
 |nil=>intro k off b h;simp
 |cons x l ih=>
  intro k off b h;simp only[List.zipIdx_cons,Qt];rw[ih (k+1) off _ (by simp at h⊢;omega)];have e:=list_seg_step b.toList (off+k) x l (by simp at h⊢;omega);congr 1;simpa[Array.toList_setIfInBounds,i9]using e
def VR{s n:Nat->Option (Nat×Nat)}(B:∀i p,s i=J p->n i=J p):∀{c:List Nat}{b Y:List Value}{cs f:List Value}{ca:Array Value},jI s (c.zip b) cs=J f->Vl m b Y->Vl m cs ca.toList->
 c.length=b.length->∃g,Instr.fill n ca (c.zip Y)=J g/\Vl m f g.toList:=by
 intro c;induction c with
 |nil=>
  intro b Y cs f ca h r d _;simp only[List.zip_nil_left,jI,aS]at h;subst h;exact⟨ca,by simp[Instr.fill],d⟩
 |cons i c ih=>
  intro b Y cs f ca h r d q;cases b with
  |nil=>simp at q
  |cons v b=>
   obtain⟨y,T,rfl,D,K⟩:=r.cons_inv;simp only[a1t,jI]at h;split at h
   ·rename_i off L H;split at h
    ·rename_i j;simp only[bC,zo]at j;split at h
     ·rename_i N A;have G:v≠.tuple #[]:=λe=>by subst e;simp[m8]at j
      have l:=D.cells G;have R:y.cells.size=L:=by have:=l.1;have M:=xI (xs:=y.cells);omega
      have S:=d.1;have u:v.cells.toList.length=y.cells.toList.length:=l.1;have M:=xI (xs:=y.cells);have U:=xI (xs:=ca);rcases LU A with⟨z,rfl⟩|⟨Q,rfl⟩
      ·rw[z]at j;simp at j;omega
      ·have F:off+0+y.cells.toList.length<=ca.size:=by omega
       have E:=zyB y.cells.toList 0 off ca F
       have I:Vl m (cs.take off++v.cells.toList++cs.drop (off+v.cells.toList.length)) (ca.toList.take (off+0)++y.cells.toList++ca.toList.drop (off+0+y.cells.toList.length)):=by
        rw[sk,<-u];exact((d.take off).append l).append (d.drop _)
       obtain⟨g,o,C⟩:=ih (ca:=(ca.toList.take (off+0)++y.cells.toList++ca.toList.drop (off+0+y.cells.toList.length)).toArray) h K (by simpa using I) (by simpa using q);refine⟨g,?_,C⟩;simp only[a1t,Instr.fill,B _ _ H];rw[aA (by simp;omega)];rw[<-E]at o;rw[<-o];congr 1;rw[<-Array.foldl_toList];simp
     ·cases h
    ·cases h
   ·cases h
end
end Go.Am
