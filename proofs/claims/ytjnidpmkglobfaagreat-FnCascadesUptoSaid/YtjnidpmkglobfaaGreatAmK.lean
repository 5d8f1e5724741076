import Derived.Test.YtjnidpmkglobfaaGreatAmJ
import Derived.Tactics
import Derived.Laws.BytesString
import Derived.Lib.AppendZerosOnto
open Option renaming none→aa,some→J
open Bool renaming true→O
set_option linter.defProp false
namespace Go.Am
def cY:=@List.getElem?_eq_some_iff
def dT:=@Int.toNat_natCast
def fF:=@Int.eq_ofNat_of_zero_le
def nb:=@List.nil_append
def xJ:=@Nat.mul_comm
def Ev:=@Int.natCast_mul
def Ew:=@Array.getElem?_eq_getElem
def Ex:=@List.getElem?_map
def HL:=@List.length_map
def Mh:=@Nat.mul_one
def Wi:=@Nat.eq_zero_or_pos
def a1w:=@Nat.le_of_eq
def a1x:=@List.getElem_map
section
variable {c:rV}{m:Mu}{Y:FR}{H:AH}{a:Act}{w:World}{P:Program}{K:FR->AH->Prop}{next:Act->World->Prop}
variable{Q:Exit->Act->World->Prop}{o:Oper}{X:Array Oper}
def zpI{x:Operand}(b:o.op=.move x\/o.op=.assign x)
(h:match bO Y x with
 |some (.lp s off)=>bu c.nt K o.dst (.lp s off) Y H
 |_=>dK P c.nt o K Y H)(r:aT c m Y H a w)
(g:∀n f d e i,K f d->aT c n f d e i->next e i):o.wp P a w next Q:=by
 split at h
 ·rename_i s off l;have k:=tE r l;have j:(execOp a.eval o).run P w=.ok (.value (a.eval x)) w:=by rcases b with b|b<;>simp[execOp,b]
  unfold Oper.wp;rw[j];exact ZR h r k g
 ·exact Ou h r g
def zvS{args:Array Operand}{p:Array TypeId}(ho:o.op=.call ⟨.builtin .copy,args,p⟩)
(h:match args.toList,p.toList with
 |[x,y],[t,_]=>match df P t,aZ Y x,iF P t Y H y with
  |some e,J (.slice (J ⟨id,off,J v⟩) n z),J (cs,l)=>match cE P e,H.b id with
   |some (_,d,_,_),J k=>if n<=z/\d=v/\k.rw=O/\d≠0/\0<min l n/\(cs.take (min l n*d)).all l8=O then
    match gk k.cells off (cs.take (min l n*d))with
    |some C=>bu c.nt K o.dst (.v (.int .i64 (min l n:Nat))) Y (H.set id (J ⟨O,C⟩))
    |none=>False
    else False
   |_,_=>False
  |_,_,_=>False
 |_,_=>False)(r:aT c m Y H a w)
(hn:∀m' u q s G,K u q->aT c m' u q s G->next s G):o.wp P a w next Q:=by
 split at h
 ·rename_i x y t t' hargs htys;split at h
  ·rename_i e id off v n z cs l D hx je;split at h
   ·rename_i gx1 d cH zx1 k E hk;split at h
    ·rename_i lU;obtain⟨c2,L,M,N,R,S⟩:=lU;subst L;split at h
     ·rename_i C U;obtain⟨ix1,zv,hi,hz,jw,eN,nR,_,hs⟩:=jx (w:=w) E;have hu:=p8 D;have F:=gz r hx;have ea:args= #[x,y]:=by apply tG;simpa using hargs
      have et:p= #[t,t']:=by apply tG;simpa using htys
      obtain⟨hlen,ad,T,hzy,hc⟩:=FH r D E je;obtain⟨b,o',f,hb,q1,q2⟩:=hc (by omega);subst hb;have hq:min l n*d<=cs.length:=by rw[hlen];exact gN _ (Nat.min_le_left _ _)
      have B:Vl m (cs.take (min l n*d)) (f.take (min l n*d)):=q1.take _;have I:(f.take (min l n*d)).length=min l n*d:=by rw[tH];have:=q1.1;omega
      have hne:cs.take (min l n*d)≠[]:=λe0=>by
       have e1:(cs.take (min l n*d)).length=0:=by rw[e0];rfl
       have:=Wh R (Qv N);rw[tH,Nat.min_eq_left hq]at e1;omega
      obtain⟨i,e',g1,g2,g3⟩:=r.LW hk M U B hne;generalize zY:a.eval x=ux1 at F;cases F with
      |slice b7 k1 k2 k3 k4=>
       rename_i o'' a6y;have ho':=k3 (by omega);subst ho';have A:=run_storeCells_at P (m.f id).bn ((m.f id).base+off) e' (f.take (min l n*d)) 0 i w g1 (by simpa[i9]using g2) (Gr B S);simp only[sk]at A
       have hfc:=run_firstCells_some (P:=P) w d (min l n) ⟨b,o',aa⟩ l T (f.take (min l n*d)) I λj vx1 g=>q2 j vx1 (by
        rw[my]at g;split at g
        ·exact g
        ·cases g)
       have W:(execOp a.eval o).run P w=.ok (.value (goInt ((min l n:Nat):Int))) (w.setRow (m.f id).bn (i.toList.take ((m.f id).base+off)++f.take (min l n*d)++i.toList.drop ((m.f id).base+off+(f.take (min l n*d)).length)).toArray):=by
        simp[execOp,ho,resolve,ea,et,invoke,builtin,Builtin.copy_,jN hu,zY,hzy,Builtin.lenOf,sizeOf,typeInfo,hi,eN,hfc,A]
       unfold Oper.wp;rw[W];exact oC h g3 (.int _ _) hn
     ·cases h
    ·cases h
   ·cases h
  ·cases h
 ·cases h
def nj(P:Program)(d:Nat)(pre:List (Option Tmp))(o:Oper)(K:FR->AH->Prop)(Y:FR)(H:AH):Prop:=
 match o.guard with
 |none=>aN P d o K Y H
 |some (j,b)=>match pz Y pre j with
  |some y=>if y=J b then aN P d o K Y H else bu d K o.dst .skip Y H
  |none=>False
def zJ(P:Program)(d:Nat)(pre:List (Option Tmp))(o:Oper)(K:FR->AH->Prop)(Y:FR)(H:AH):Prop:=
 match o.guard with
 |none=>aN P d o K Y H\/fY P d o K Y H
 |some (j,b)=>match pz Y pre j with
  |some y=>if y=J b then aN P d o K Y H\/fY P d o K Y H else bu d K o.dst .skip Y H
  |none=>False
theorem zqP(pre:List (Option Tmp))(o:Oper)(l:List Oper)(b:Nat):pP P b pre (o::l) K Y H=zJ P b pre o (pP P b pre l K) Y H:=rfl
def zt1{c:rV}{m:Mu}{Y:FR}{H:AH}{a:Act}{w:World}{P:Program}{K:FR->AH->Prop}{next:Act->World->Prop}{args:Array Operand}{I:Array TypeId}(u:o.op=.call ⟨.builtin .append,args,I⟩){s x:Operand}{t h e:TypeId}(hargs:args.toList=[s,x])(htys:I.toList=[t,h]){n:Int}
(he:df P t=J e)(g:aZ Y x=J (.int .i64 n)){gx1:Bool}{d C:Nat}{z:List Value}(ht:cE P e=J (gx1,d,C,z))(h2:(kv P h).isSome=O)(c1:0<n)(c2:C*n<=140737488355328)(c3:n<=4611686018427387904)(T:d≠0)(S:z.length=d)(c7:z.all cD=O)
{sv vx1:Value}{j:AH}(hs:aZ Y s=J sv)(W:th P t sv (List.replicate n.toNat z).flatten n.toNat H=J (vx1,j))(hK:bu c.nt K o.dst (.v vx1) Y j)(r:aT c m Y H a w)
(hn:∀m' R j N w',K R j->aT c m' R j N w'->next N w'):o.wp P a w next Q:=by
 obtain⟨kn,q⟩:=HI.1 h2
 have L:P.underlying h=J (.int kn):=by
  unfold kv at q;split at q
  ·rename_i v;cases q;exact v
  ·cases q
 obtain⟨i,y,hi,hz,jw,D,nR,_,mC⟩:=jx (w:=w) ht;have v:=p8 he;have e1:=Ad (gz r g);have hv:=gz r hs;have ea:args= #[s,x]:=by apply tG;simpa using hargs
 have et:I= #[t,h]:=by apply tG;simpa using htys
 obtain⟨k,rfl⟩:=fF (show 0<=n by omega);rw[dT]at W;have xj:y.cells=z.toArray:=by rw[<-jw]
 have LL:k*i.bytes<=140737488355328:=by
  rw[nR,xJ];have:((C*k:Nat):Int)<=140737488355328:=by rw[Ev];exact c2
  omega
 have NX:(Builtin.zeroCells y.cells k).toList=(List.replicate k z).flatten:=by
  unfold Builtin.zeroCells;rw[xj];have:=IP z k;simpa using this
 have M:Builtin.zeroCells y.cells k=((List.replicate k z).flatten).toArray:=by rw[<-NX]
 have qp:∀x,x∈(List.replicate k z).flatten->x∈z:=λx g=>by
  rw[Mg]at g;obtain⟨l',C2,iy⟩:=g
  rwa [(nS.1 C2).2]at iy
 have ey:Vl m ((List.replicate k z).flatten) ((List.replicate k z).flatten):=CF (bc.2 λx g=>bc.1 c7 x (qp x g));have hlen:(List.replicate k z).flatten.length=k*d:=by rw[Wf];simp[S]
 have hkw:IntKind.i64.wrap (k:Int)=k:=by rw[IntKind.wrap_i64];omega
 refine zt2 he ht jw (by omega) hlen ey hv W hK r ?_ ?_ hn
 ·intro s0 p eQ F E hol holds ko hg Hb hb;have gY:(p+k)*i.bytes<=140737488355328:=by rw[nR];exact hb
  have G:=growslice_fits hg gY
  have A:=Lib.run_append_grow_zeros (P:=P) w t h o.type e i y .i64 kn v L hi hz s0 p eQ F (by
   cases s0 with
   |none=>
    obtain⟨rfl,rfl⟩:=ko rfl;have u:F=[]:=na (by simpa using hol);subst u;simp[run_firstCells_none]
   |some b=>exact run_firstCells_some (P:=P) w.drew i.size p b p eQ F (by rw[D];exact hol) (holds b rfl)) k (by omega) (by omega) hg (by omega) (by omega) G
  simp only[execOp,u,resolve,ea,et,Sem.run_bind,Sem.run_pure,Result.andThen_ok,invoke,builtin,Wg,jO,qP,E,e1,A,M]
 ·intro l off f U B e' E hw oz G yj;have eB:=run_storeCells_at P l (off+f*d) e' ((List.replicate k z).flatten) 0 B w hw (by simpa using G) (bc.1 yj);simp only[sk]at eB;have a31:¬((k:Int)<0):=by omega
  have hns:¬(k*i.size=0):=Nat.mul_ne_zero (by omega) (by rw[D];exact T);have a2A:k*d≠0:=Nat.mul_ne_zero (by omega) T;have a6i:off+f*d+k*z.length=off+f*d+(List.replicate k z).flatten.length:=by rw[hlen,S]
  have a2S:¬(281474976710656<(k:Int)*(i.bytes:Int)):=by
   rw[<-Ev];omega
  have A:(Builtin.append_ #[t,h] o.type #[.slice (J ⟨l,off,aa⟩) f U,.int .i64 k]).run P w=.ok (.slice (J ⟨l,off,aa⟩) (f+k) U) (w.setRow l (B.toList.take (off+f*d)++(List.replicate k z).flatten++B.toList.drop (off+f*d+(List.replicate k z).flatten.length)).toArray):=by
   simp[Builtin.append_,run_underlying v,run_underlying L,sizeOf,typeInfo,zeroValue,hi,hz,asInt,asIntOf,hkw,a31,a2A,a2S,oz,M,xh,D,eB]
  simp only[execOp,u,resolve,ea,et,Sem.run_bind,Sem.run_pure,Result.andThen_ok,invoke,builtin,Wg,jO,qP,E,e1,A]
def zvz:∀(b:List Int) (r:List UInt8),b.foldl (λ(r:ByteArray) n=>r.push (UInt8.ofNat n.toNat)) ⟨r.toArray⟩=⟨(r++b.map λn=>UInt8.ofNat n.toNat).toArray⟩:=by
 intro b;induction b with
 |nil=>intro r;simp
 |cons n b ih=>
  intro r;rw[Qt];have:(ByteArray.mk r.toArray).push (UInt8.ofNat n.toNat)=⟨(r++[UInt8.ofNat n.toNat]).toArray⟩:=by simp[ByteArray.push]
  rw[this,ih];simp
def zv4{t:TypeId}(h:uu P t=O):∃e,P.underlying t=J (.slice e)/\P.underlying e=J (.int .u8):=by
 unfold uu at h;split at h
 ·rename_i e d;split at h
  ·rename_i b _;refine⟨e,p8 d,?_⟩;unfold kv at b;split at b
   ·rename_i f;cases b;exact f
   ·cases b
  ·cases h
 ·cases h
def RX(h:fY P c.nt o K Y H)(r:aT c m Y H a w)
(M:∀m' aj H' a' w',K aj H'->aT c m' aj H' a' w'->next a' w'):o.wp P a w next Q:=by
 have key:∀{cells:List Value}{cs:Array Value}(e:TypeId) (d:Nat),d<c.nt->Vl m cells cs.toList->
  aT c (m.push ⟨w.heap.size,0,cs.size⟩) (Y.put d (.v (.pointer (J ⟨H.n,0,aa⟩)))) (H.push ⟨O,cells⟩) {a with tmps:=a.tmps.setIfInBounds d (.pointer (J ⟨w.heap.size,0,aa⟩))} (w.alloc (.cells cs e)):=by
  intro cells cs e d hd u;have hl:cells.length=cs.size:=by simpa using u.1
  have r':=r.fresh (size:=cs.size) e (cq _) (a1w hl) λj vx1 hj=>by
   obtain⟨y,hy,hV⟩:=u.get hj;exact⟨y,by simpa using hy,hV⟩
  refine r'.A7 hd ?_;have hf:=m.zQ ⟨w.heap.size,0,cs.size⟩;have:=V.ptr (m:=m.push ⟨w.heap.size,0,cs.size⟩) (id:=m.n) (off:=0) (by simp[Mu.push]);rw[hf,r.h.n]at this;exact this
 unfold fY at h;split at h
 ·rename_i e d B hd;split at h
  ·rename_i gx1 sz cH z L;obtain⟨v,f,D⟩:=h;obtain⟨i,zv,N,F,jw,_,_,_,_⟩:=jx (w:=w) L
   have C:(execOp a.eval o).run P w=.ok (.value (.pointer (J ⟨w.heap.size,0,aa⟩))) (w.alloc (.cells zv.cells e)):=by
    simp[execOp,B,Instr.alloc,zeroValue,typeInfo,N,F,newVar,newRow]
   unfold Oper.wp;rw[C,Oper.upon_value,hd];exact M _ _ _ _ _ D (key e d v (by rw[jw];exact CF f))
  ·cases h
 ·rename_i e x d B hd;split at h
  ·rename_i q vx1 L g;obtain⟨v,f,D⟩:=h;have u:=gz r g;have hne:vx1≠.tuple #[]:=λe=>by rw[e]at f;simp[m8]at f
   have C:(execOp a.eval o).run P w=.ok (.value (.pointer (J ⟨w.heap.size,0,aa⟩))) (w.alloc (.cells (a.eval x).cells e)):=by
    simp[execOp,B,Instr.box,newVar,newRow]
   unfold Oper.wp;rw[C,Oper.upon_value,hd];exact M _ _ _ _ _ D (key e d v (u.cells hne))
  ·cases h
 ·rename_i op t x y ux1 d B hd;obtain⟨⟨v,f,D⟩,p⟩:=h;obtain⟨e,A⟩:=HI.1 D
  have hy:y=.const (.slice aa 0 0):=by
   unfold wc at f;split at f
   ·rfl
   ·cases f
  have run:∀(q:Bool) (s:Option Addr) (k l:Nat),Lz op=J q->a.eval x=.slice s k l->(execOp a.eval o).run P w=.ok (.value (.bool (if q=O then s.isNone else !s.isNone))) w:=by
   intro q s k l I g
   have E:P.underlying t=J (.slice e):=by
    unfold df at A;split at A
    ·rename_i E;cases A;exact E
    ·cases A
   have yL:∀d',(Op.equalIn (d'+1) t (.slice s k l) (.slice aa 0 0)).run P w=.ok s.isNone w:=by
    intro d';cases s<;>simp[Op.equalIn,underlying,E]
   have db:(Op.equalIn 10000 t (.slice s k l) (.slice aa 0 0)).run P w=.ok s.isNone w:=yL 9999;have hc:a.eval (.const (.slice aa 0 0))=.slice aa 0 0:=rfl;cases op<;>simp only[Lz,aS]at I<;>first|(cases I;done)|skip
   all_goals subst I
   all_goals simp[execOp,B,hy,g,hc,eqGuard,binOp,Op.equal,Op.maxDepth,db]
  have XM:∀b,K (Y.put d (.v (.bool b))) H->(execOp a.eval o).run P w=.ok (.value (.bool b)) w->o.wp P a w next Q:=by
   intro b hK C;unfold Oper.wp;rw[C,Oper.upon_value,hd];exact M _ _ _ _ _ hK (r.A7 v (.bool b))
  split at p
  ·rename_i q I g;have u:=gz r g;generalize F:a.eval x=z at u;cases u with
   |mV s=>exact XM _ (p _) (run _ _ _ _ I F)
  ·rename_i q s' n' c' I g;have u:=gz r g;generalize F:a.eval x=z at u;cases u with
   |slice b7 a1 a2 a3 a4=>
    have:=run _ _ _ _ I F;refine XM _ p ?_;rw[this];cases q<;>rfl
  ·cases p
 ·rename_i args ip d B hd;split at h
  ·rename_i x t hargs htys;obtain⟨v,f,D,p⟩:=h;obtain⟨e,A⟩:=HI.1 f;have E:=p8 A;have u:=gz r D;have S:args= #[x]:=by apply tG;simpa using hargs
   have et:ip= #[t]:=by apply tG;simpa using htys
   generalize F:a.eval x=z at u;cases u with
   |mV s0=>
    have C:(execOp a.eval o).run P w=.ok (.value (.int .i64 0)) w:=by
     simp[execOp,B,resolve,S,et,invoke,builtin,Builtin.cap_,jN E,goInt,F]
    unfold Oper.wp;rw[C,Oper.upon_value,hd];exact M _ _ _ _ _ p (r.A7 v (.int _ _))
  ·cases h
 ·rename_i args ip d B hd;split at h
  ·rename_i s x t t' hargs htys;split at h
   ·rename_i e n A g;split at h
    ·rename_i gx1 es cH z L;rcases h with h|⟨⟨v,f,c1,c2,c3,W,c6,c7⟩,sv,vx1,Rl,fK,dh,p⟩
     rotate_left
     ·refine zt1 (K:=K) B hargs htys A g L f c1 c2 c3 c6 W c7 fK dh ?_ r M;rw[hd];simp only[bu];rw[aE v];exact p
     obtain⟨⟨v,f,D,c1,c2,c3,W,c6,c7⟩,p⟩:=h;obtain⟨kn,hk⟩:=HI.1 f
     have BF:P.underlying t'=J (.int kn):=by
      unfold kv at hk;split at hk
      ·rename_i E;cases hk;exact E
      ·cases hk
     obtain⟨i,zv,N,F,jw,eN,nR,_,hs⟩:=jx (w:=w) L;have E:=p8 A;have e1:=Ad (gz r g);have u:=gz r D;have S:args= #[s,x]:=by apply tG;simpa using hargs
     have et:ip= #[t,t']:=by apply tG;simpa using htys
     obtain⟨k,rfl⟩:=fF (show 0<=n by omega);have xj:zv.cells=z.toArray:=by rw[<-jw]
     have LL:k*i.bytes<=140737488355328:=by
      rw[nR,xJ];have:((cH*k:Nat):Int)<=140737488355328:=by rw[Ev];exact c2
      omega
     generalize zY:a.eval s=y at u;cases u with
     |mV s0=>
      have hfit:=growslice_fits (old:=0) (need:=0+k) (by omega) (by rw[gD];exact LL)
      have EK:=Lib.run_append_grow_zeros (P:=P) w t t' o.type e i zv .i64 kn E BF N F s0 0 0 [] (by
       cases s0 with
       |none=>simp[run_firstCells_none]
       |some b=>exact run_firstCells_some (P:=P) w.drew i.size 0 b 0 0 [] (by simp) (by simp)) k (by omega) (by omega) (by omega) (by omega) (by omega) hfit
      rw[gD]at EK
      have C:(execOp a.eval o).run P w=.ok (.value (.slice (J ⟨w.heap.size,0,aa⟩) k (grownCap w k 0 e))) (w.drew.alloc (.cells (([]:List Value).toArray++Builtin.zeroCells zv.cells k++Builtin.zeroCells zv.cells (grownCap w k 0 e-k)) e)):=by
       simp only[execOp,B,resolve,S,et,Sem.run_bind,Sem.run_pure,Result.andThen_ok,invoke,builtin,Wg,jO,qP,zY,e1,EK]
      have rP:=grownCap_ge w k 0 e
      have Dt:Vl m ((List.replicate k z).flatten) (Builtin.zeroCells zv.cells k).toList:=by
       have:(Builtin.zeroCells zv.cells k).toList=(List.replicate k z).flatten:=by
        unfold Builtin.zeroCells;rw[xj];have:=IP z k;simpa using this
       rw[this]
       exact CF (bc.2 λx g=>by
        rw[Mg]at g;obtain⟨l',C2,iy⟩:=g;rw[(nS.1 C2).2]at iy
        exact bc.1 c7 x iy)
      obtain⟨g1,g2,g3⟩:=QN (es:=es) (k:=grownCap w k 0 e) (need:=k) (zv:=zv) (Vl.nil _) Dt (by simp[W]) (by rw[xj];simpa using W) rP;unfold Oper.wp;rw[C,Oper.upon_value,hd];simp only[nb,Array.toArray_toList]at g1 g2 g3;have r2:=r.drew.fresh (size:=grownCap w k 0 e*es) e g1 g2 g3;exact M _ _ _ _ _ p (r2.A7 v (MM r.h.n (cq _) _ (cq _) rP))
    ·cases h
   ·cases h
  ·cases h
 ·rename_i args ip B hd;split at h
  ·rename_i x t hargs htys;split at h
   ·rename_i e id off br n cc A g;split at h
    ·rename_i gx1 es cH z k L hk;obtain⟨⟨c1,c2,c3,c4,W,c6,c7,c8⟩,cs,dA,p⟩:=h;subst c3;obtain⟨i,zv,N,F,jw,eN,nR,_,hs⟩:=jx (w:=w) L;have E:=p8 A;have u:=gz r g;have S:args= #[x]:=by apply tG;simpa using hargs
     have et:ip= #[t]:=by apply tG;simpa using htys
     have xj:zv.cells=z.toArray:=by rw[<-jw]
     have NX:(Builtin.zeroCells zv.cells n).toList=(List.replicate n z).flatten:=by
      unfold Builtin.zeroCells;rw[xj];have:=IP z n;simpa using this
     have qp:∀x,x∈(List.replicate n z).flatten->x∈z:=λx g=>by
      rw[Mg]at g;obtain⟨l',C2,iy⟩:=g
      rwa [(nS.1 C2).2]at iy
     have ey:Vl m ((List.replicate n z).flatten) ((List.replicate n z).flatten):=CF (bc.2 λx g=>bc.1 c7 x (qp x g));have T:(List.replicate n z).flatten.length=n*es:=by rw[Wf];simp[W]
     have hne:(List.replicate n z).flatten≠[]:=λe0=>by
      rw[e0]at T;have:=Wh (Qv c1) (Qv c6);simp at T;omega
     obtain⟨bD,e',g1,g2,g3⟩:=r.LW hk c4 dA ey hne;generalize zY:a.eval x=y at u;cases u with
     |slice b7 k1 k2 k3 k4=>
      rename_i o' cap;have ho':=k3 (by omega);subst ho';have eB:=run_storeCells_at P (m.f id).bn ((m.f id).base+off) e' ((List.replicate n z).flatten) 0 bD w g1 (by simpa[i9]using g2) (Gr ey (bc.2 λx g=>bc.1 c8 x (qp x g)));simp only[sk]at eB
      have C:(execOp a.eval o).run P w=.ok (.value (.tuple #[])) (w.setRow (m.f id).bn (bD.toList.take ((m.f id).base+off)++(List.replicate n z).flatten++bD.toList.drop ((m.f id).base+off+(List.replicate n z).flatten.length)).toArray):=by
       cases n with
       |zero=>exact absurd rfl c1
       |succ n=>
        simp[execOp,B,resolve,S,et,invoke,builtin,Builtin.clear_,jN E,zY,zeroValue,typeInfo,N,F,NX,eB]
      unfold Oper.wp;rw[C,Oper.upon_value,hd];exact M m Y _ a _ p (by simpa[i9]using g3)
    ·cases h
   ·cases h
  ·cases h
 ·obtain⟨ts,aj,H',v,f⟩:=h;obtain⟨m',r'⟩:=zvF r v;exact Ou f r' M
 ·rename_i q d B hd;obtain⟨s,cells,⟨v,f,D,p⟩,h5⟩:=h;obtain⟨m',_,r1,hV⟩:=zuA r p;have hf:=r.f q;unfold RF at hf;rw[D]at hf;obtain⟨b,e1,e2⟩:=hf cells p;rw[e1,<-e2]at hV;have I:q<a.tmps.size:=by rw[r.sz];exact f
  have r2:=r1.A7 f hV
  have S:a.tmps.setIfInBounds q (a.tmps.getD q undef)=a.tmps:=by
   apply Array.ext_getElem?;intro i;rw[a1r];split
   ·rename_i e;subst e;try simp only[Array.getD,dif_pos I,aE I]
    first|exact(Ew I).symm|simp[I]
   ·rfl
  rw[S]at r2;have r3:=r2.A7 v hV;have C:(execOp a.eval o).run P w=.ok (.value (a.eval (.tmp q))) w:=by simp[execOp,B]
  unfold Oper.wp;rw[C,Oper.upon_value,hd];exact M m' _ _ _ _ h5 r3
 ·rename_i s t x d B hd;obtain⟨⟨v,f,D⟩,p⟩:=h;obtain⟨e,E,Ar⟩:=zv4 f
  have Nr:P.underlying t=J .string:=by
   unfold eS at D;split at D
   ·rename_i E;exact E
   ·cases D
  have conv:∀(b:Option Addr) (n cc:Nat) (G:List Int),a.eval x=.slice b n cc->(∀R,b=J R->(loadCells R n).run P w=.ok (G.map (Value.int .u8)).toArray w)->(b=aa->G=[])->
   (execOp a.eval o).run P w=.ok (.value (.string (xV G))) w:=by
   intro b n cc G F hl h0
   have:(Conv.bytesToString (.slice b n cc)).run P w=.ok (.string (xV G)) w:=by
    cases b with
    |none=>rw[h0 rfl];rfl
    |some R=>
     rw[run_bytesToString w R n cc G (hl R rfl)];have:=zvz G [];simp only[nb]at this;rw[show ByteArray.empty=⟨([]:List UInt8).toArray⟩from rfl,this];rfl
   simp[execOp,B,F,run_convert_bytes_string w s t e b n cc E Ar Nr,this]
  split at p
  ·rename_i cs n je;obtain⟨G,rfl,hK⟩:=p
   obtain⟨e0,gx1,es,cH,z,A,L⟩:∃e0 gx1 es cH z,df P s=J e0/\cE P e0=J (gx1,es,cH,z):=by
    unfold iF at je;split at je
    ·cases je
    ·rename_i e0 A;split at je
     ·cases je
     ·rename_i L;exact⟨_,_,_,_,_,A,L⟩
   have V1:es=1:=by
    unfold uu at f;rw[A]at f;simp only[L]at f;split at f
    ·rename_i hh;cases hh;rfl
    ·cases f
   obtain⟨T,R,cap,F,hc⟩:=FH r A L je;subst V1;simp only[HL,Mh]at T
   have C:=conv R n cap G F (λJb Jx=>by
    rcases Wi n with tj|qY
    ·subst tj;have:G=[]:=na T;subst this;simp[loadCells,loadCellsFrom]
    ·obtain⟨b,o',U,hb,q1,q2⟩:=hc qY;rw[Jx]at hb;cases hb
     have AL:U=G.map (Value.int .u8):=by
      apply List.ext_getElem?;intro i;cases N:U[i]? with
      |none=>
       have:U.length<=i:=List.getElem?_eq_none_iff.1 N;have h9:=q1.1;rw[BT (by omega)]
      |some y=>
       have fa:i<U.length:=(cY.1 N).1;have h9:=q1.1;have:(G.map (Value.int .u8))[i]? =J ((G.map (Value.int .u8))[i]'(by omega)):=cI (by omega);have LJ:=q1.2 i _ y this N;rw[this];simp only[a1x]at LJ⊢;rw[Ad LJ]
     have hL:=run_loadCells_list (P:=P) w ⟨b,o',aa⟩ U q2;have a15:U.length=n:=by rw[AL];simpa using T
     rw[a15,AL]at hL;exact hL) (λJx=>by
    rcases Wi n with tj|qY
    ·subst tj;exact na T
    ·obtain⟨b,o',U,hb,_,_⟩:=hc qY
     rw[Jx]at hb;cases hb)
   unfold Oper.wp;rw[C,Oper.upon_value,hd];exact M _ _ _ _ _ hK (r.A7 v (.str _))
  ·cases p
 ·cases h
def MJ(h:aN P c.nt o K Y H)(r:aT c m Y H a w)
(b:∀L E z A M,K E z->aT c L E z A M->next A M):o.wp P a w next Q:=by
 unfold aN at h;split at h
 ·exact zwL ‹_› h r b
 ·exact Om h r b
 ·exact Om h r b
 ·rename_i tx1 x i v;rcases h with h|⟨u,l,p,cs,k,j,e,gx1,zx1,rfl,B,C,S,T,D,U⟩
  ·exact Om h r b
  ·obtain⟨L,_,r',_⟩:=YL r B;refine Om ?_ r' b
   have hi:aZ (Y.put u (.v (.slice (J ⟨H.n,0,J p⟩) l l))) i=J (.int k j):=by
    rw[<-C];cases i with
    |tmp t2=>
     by_cases I:t2=u
     ·subst I;simp[aZ,B]at C
     ·simp[aZ,FR.put,I]
    |_=>rfl
   rw[v];simp only[iO,bO,hi,S,T];have q:(Y.put u (.v (.slice (J ⟨H.n,0,J p⟩) l l))) u=.v (.slice (J ⟨H.n,0,J p⟩) l l):=by simp[FR.put]
   rw[q];simp only;rw[aE ⟨trivial,D.1,D.2⟩,gD];exact U
 ·exact zt3 ‹_› h r b
 ·exact zxp ‹_› h r b
 ·exact zox ‹_› h r b
 ·exact ztG ‹_› h r b
 ·exact zvw ‹_› h r b
 ·exact zpO ‹_› h r b
 ·exact zs2 ‹_› h r b
 ·exact zvS ‹_› h r b
 ·exact zvk ‹_› h r b
 ·exact zpI (.inl ‹_›) h r b
 ·exact zpI (.inr ‹_›) h r b
 ·rename_i s tx1 x v;rcases h with h|⟨⟨F,W,G⟩,l,y,f,n⟩
  ·exact Ou h r b
  ·cases hd:o.dst with
   |none=>rw[hd]at G;cases G
   |some d=>
    refine RX ?_ r b;have g:=F;unfold uu at g;cases t:df P s with
    |none=>rw[t]at g;cases g
    |some e=>
     rw[t]at g;simp only at g
     have q:d<c.nt/\K (Y.put d (.v (.string (xV y)))) H:=by
      rw[hd]at n;simp only[bu]at n;split at n
      ·rename_i N;exact⟨N,n⟩
      ·cases n
     simp only[fY,v,hd];refine⟨⟨q.1,F,W⟩,?_⟩
     have hs:iF P s Y H x=J (y.map (Value.int .u8),l):=by
      unfold GQ at f;split at f
      ·split at f
       ·rename_i u _ len p cells hf;split at f
        ·rename_i R;cases f;unfold iF;rw[t];simp only;split at g
         ·rename_i ht;rw[ht];simp only[hf];rw[aE R]
         ·cases g
        ·cases f
       ·cases f
      ·cases f
     rw[hs];exact⟨y,rfl,q.2⟩
 ·exact Ou h r b
def Xv(r:aT c m Y H a w){j:Nat}{y:Option Bool}(h:pz Y (X.toList.map (·.dst)) j=J y):yielded X a.tmps j=y:=by
 unfold pz at h;split at h
 ·rename_i d hd
  have k:(X[j]?).bind (·.dst)=J d:=by
   rw[Ex]at hd;cases i:X[j]? with
   | none => have:X.toList[j]? =aa:=by simpa using i
             rw[this]at hd;cases hd
   | some o => have:X.toList[j]? =J o:=by simpa using i
               rw[this]at hd;simpa using hd
  have e:=r.f d;unfold RF at e;unfold yielded;rw[k];split at h
  ·rename_i b g;cases h;rw[g]at e;have:=KV e;simp only[xG]at this;cases f:a.tmps[d]? with
   |none=>rw[f]at this;cases this
   |some v=>rw[f]at this;simp at this;subst this;simp[f]
  ·rename_i g;cases h;rw[g]at e;simp only[xG]at e;cases f:a.tmps[d]? with
   |none=>simp[f]
   |some v=>rw[f]at e;simp at e;subst e;simp[f,undef]
  ·cases h
 ·cases h
def zw3(h:nj P c.nt (X.toList.map (·.dst)) o K Y H)(r:aT c m Y H a w)
(f:∀q k g i n,K k g->aT c q k g i n->next i n):
 if Region.wanted o (yielded X a.tmps)=O then o.wp P a w next Q else next (a.put o.dst undef) w:=by
 unfold nj at h;split at h
 ·rename_i d;rw[aE (by simp[Region.wanted,d])];exact MJ h r f
 ·rename_i j b d;split at h
  ·rename_i y p;have l:=Xv r p;split at h
   ·rename_i e;rw[aE (by simp[Region.wanted,d,l,e])];exact MJ h r f
   ·rename_i e;rw[aA (by simp[Region.wanted,d,l,e])];exact MG h r f
  ·cases h
def zvr(h:zJ P c.nt (X.toList.map (·.dst)) o K Y H)(r:aT c m Y H a w)
(f:∀q k g i n,K k g->aT c q k g i n->next i n):
 if Region.wanted o (yielded X a.tmps)=O then o.wp P a w next Q else next (a.put o.dst undef) w:=by
 unfold zJ at h;split at h
 ·rename_i d;rcases h with h|h
  ·rw[aE (by simp[Region.wanted,d])];exact MJ h r f
  ·rw[aE (by simp[Region.wanted,d])];exact RX h r f
 ·rename_i j b d;split at h
  ·rename_i y p;have l:=Xv r p;split at h
   ·rename_i e;rw[aE (by simp[Region.wanted,d,l,e])];exact h.elim (λh=>MJ h r f) λh=>RX h r f
   ·rename_i e;rw[aA (by simp[Region.wanted,d,l,e])];exact MG h r f
  ·cases h
def zv1 :∀(l:List Oper) {m:Mu}{Y:FR}{H:AH}{a:Act}{w:World},pP P c.nt (X.toList.map (·.dst)) l K Y H->aT c m Y H a w->
 (∀i e b d g,K e b->aT c i e b d g->Q .normal d g)->wpList P X Q l a w:=by
 intro l;induction l with
 |nil=>intro m Y H a w h r f;exact f m Y H a w h r
 |cons o l ih=>
  intro m Y H a w h r f;rw[zqP]at h;refine wpList_step λp k=>?_
  exact zvr h r λi e b d g j n=>k _ _ (ih j n f)
end
end Go.Am
