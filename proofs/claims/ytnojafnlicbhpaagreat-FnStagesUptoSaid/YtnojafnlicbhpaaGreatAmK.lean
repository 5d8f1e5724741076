import Derived.Test.YtnojafnlicbhpaaGreatAmJ
import Derived.Tactics
import Derived.Laws.BytesString
import Derived.Lib.AppendZerosOnto
open Option renaming none→ae,some→J
open Bool renaming true→Z
set_option linter.defProp false
namespace Go.Am
def cT:=@List.getElem?_eq_some_iff
def dG:=@Int.toNat_natCast
def fJ:=@Int.eq_ofNat_of_zero_le
def mM:=@List.nil_append
def wc:=@Nat.mul_comm
def C9:=@Int.natCast_mul
def Da:=@Array.getElem?_eq_getElem
def Db:=@List.getElem?_map
def Gx:=@List.length_map
def Ky:=@Nat.mul_one
def Uj:=@Nat.eq_zero_or_pos
def a0q:=@Nat.le_of_eq
section
variable {c:q9}{m:Mu}{fr:FR}{H:AH}{a:Act}{w:World}{P:Program}{K:FR->AH->Prop}{next:Act->World->Prop}
variable{Q:Exit->Act->World->Prop}{o:Oper}{ops:Array Oper}
def Zo{x:Operand}(ho:o.op=.move x\/o.op=.assign x)
(h:match bM fr x with
 |some (.lp s off)=>bB c.nt K o.dst (.lp s off) fr H
 |_=>dA P c.nt o K fr H)(r:aX c m fr H a w)
(hn:∀m' ai H' a' w',K ai H'->aX c m' ai H' a' w'->next a' w'):o.wp P a w next Q:=by
 split at h
 ·rename_i s off hx;have hv:=si r hx;have dL:(execOp a.eval o).run P w=.ok (.value (a.eval x)) w:=by rcases ho with ho|ho<;>simp[execOp,ho]
  unfold Oper.wp;rw[dL];exact zu2 h r hv hn
 ·exact M0 h r hn
def zv6{args:Array Operand}{hY:Array TypeId}(ho:o.op=.call ⟨.builtin .copy,args,hY⟩)
(h:match args.toList,hY.toList with
 |[x,y],[t,_]=>match cS P t,be fr x,iq P t fr H y with
  |some e,J (.slice (J ⟨id,off,J bw⟩) n cc),J (cs,l)=>match cA P e,H.b id with
   |some (_,es,_,_),J k=>if n<=cc/\es=bw/\k.rw=Z/\es≠0/\0<min l n/\(cs.take (min l n*es)).all lQ=Z then
    match fY k.cells off (cs.take (min l n*es))with
    |some eQ=>bB c.nt K o.dst (.v (.int .i64 (min l n:Nat))) fr (H.set id (J ⟨Z,eQ⟩))
    |none=>False
    else False
   |_,_=>False
  |_,_,_=>False
 |_,_=>False)(r:aX c m fr H a w)
(hn:∀m' ai H' a' w',K ai H'->aX c m' ai H' a' w'->next a' w'):o.wp P a w next Q:=by
 split at h
 ·rename_i x y t t' hargs htys;split at h
  ·rename_i e id off bw n cc cs l he hx iY;split at h
   ·rename_i g es cB z k ht hk;split at h
    ·rename_i lh;obtain⟨c2,c3,c4,c5,c6,c7⟩:=lh;subst c3;split at h
     ·rename_i eQ dn;obtain⟨i,zv,hi,hz,jo,ey,nh,_,hs⟩:=ju (w:=w) ht;have hu:=pu he;have hv:=f8 r hx;have ea:args= #[x,y]:=by apply sF;simpa using hargs
      have et:hY= #[t,t']:=by apply sF;simpa using htys
      obtain⟨hlen,ad,cap,hzy,hc⟩:=Ei r he ht iY;obtain⟨b,o',ys,hb,q1,q2⟩:=hc (by omega);subst hb;have hq:min l n*es<=cs.length:=by rw[hlen];exact gA _ (Nat.min_le_left _ _)
      have ej:Vl m (cs.take (min l n*es)) (ys.take (min l n*es)):=q1.take _;have BP:(ys.take (min l n*es)).length=min l n*es:=by rw[nv];have:=q1.1;omega
      have hne:cs.take (min l n*es)≠[]:=λe0=>by
       have e1:(cs.take (min l n*es)).length=0:=by rw[e0];rfl
       have:=Ui c6 (OB c5);rw[nv,Nat.min_eq_left hq]at e1;omega
      obtain⟨bF,e',g1,g2,g3⟩:=r.HC hk c4 dn ej hne;generalize tX:a.eval x=u at hv;cases hv with
      |slice bY k1 k2 k3 k4=>
       rename_i o'' a2G;have ho':=k3 (by omega);subst ho';have dH:=run_storeCells_at P (m.f id).bq ((m.f id).base+off) e' (ys.take (min l n*es)) 0 bF w g1 (by simpa[iN]using g2) (Gc ej c7);simp only[rc]at dH
       have hfc:=run_firstCells_some (P:=P) w es (min l n) ⟨b,o',ae⟩ l cap (ys.take (min l n*es)) BP λj v hj=>q2 j v (by
        rw[l6]at hj;split at hj
        ·exact hj
        ·cases hj)
       have dL:(execOp a.eval o).run P w=.ok (.value (goInt ((min l n:Nat):Int))) (w.setRow (m.f id).bq (bF.toList.take ((m.f id).base+off)++ys.take (min l n*es)++bF.toList.drop ((m.f id).base+off+(ys.take (min l n*es)).length)).toArray):=by
        simp[execOp,ho,resolve,ea,et,invoke,builtin,Builtin.copy_,jC hu,tX,hzy,Builtin.lenOf,sizeOf,typeInfo,hi,ey,hfc,dH]
       unfold Oper.wp;rw[dL];exact nC h g3 (.int _ _) hn
     ·cases h
    ·cases h
   ·cases h
  ·cases h
 ·cases h
def na(P:Program)(nt:Nat)(pre:List (Option Tmp))(o:Oper)(K:FR->AH->Prop)(fr:FR)(H:AH):Prop:=
 match o.guard with
 |none=>aM P nt o K fr H
 |some (j,b)=>match ou fr pre j with
  |some y=>if y=J b then aM P nt o K fr H else bB nt K o.dst .skip fr H
  |none=>False
def zk(P:Program)(nt:Nat)(pre:List (Option Tmp))(o:Oper)(K:FR->AH->Prop)(fr:FR)(H:AH):Prop:=
 match o.guard with
 |none=>aM P nt o K fr H\/fo P nt o K fr H
 |some (j,b)=>match ou fr pre j with
  |some y=>if y=J b then aM P nt o K fr H\/fo P nt o K fr H else bB nt K o.dst .skip fr H
  |none=>False
theorem Vu(pre:List (Option Tmp))(o:Oper)(l:List Oper)(nt:Nat):nk P nt pre (o::l) K fr H=zk P nt pre o (nk P nt pre l K) fr H:=rfl
def zud{c:q9}{m:Mu}{fr:FR}{H:AH}{a:Act}{w:World}{P:Program}{K:FR->AH->Prop}{next:Act->World->Prop}{args:Array Operand}{hY:Array TypeId}(ho:o.op=.call ⟨.builtin .append,args,hY⟩){s x:Operand}{t t' e:TypeId}(hargs:args.toList=[s,x])(htys:hY.toList=[t,t']){n:Int}
(he:cS P t=J e)(hx:be fr x=J (.int .i64 n)){g:Bool}{es cB:Nat}{z:List Value}(ht:cA P e=J (g,es,cB,z))(h2:(jW P t').isSome=Z)(c1:0<n)(c2:cB*n<=140737488355328)(c3:n<=4611686018427387904)(c6:es≠0)(c5:z.length=es)(c7:z.all ct=Z)
{sv v:Value}{H':AH}(hs:be fr s=J sv)(cU:su P t sv (List.replicate n.toNat z).flatten n.toNat H=J (v,H'))(hK:bB c.nt K o.dst (.v v) fr H')(r:aX c m fr H a w)
(hn:∀m' ai H' a' w',K ai H'->aX c m' ai H' a' w'->next a' w'):o.wp P a w next Q:=by
 obtain⟨kn,hk⟩:=Gt.1 h2
 have Ah:P.underlying t'=J (.int kn):=by
  unfold jW at hk;split at hk
  ·rename_i hu;cases hk;exact hu
  ·cases hk
 obtain⟨i,zv,hi,hz,jo,ey,nh,_,mu⟩:=ju (w:=w) ht;have hu:=pu he;have e1:=Ap (f8 r hx);have hv:=f8 r hs;have ea:args= #[s,x]:=by apply sF;simpa using hargs
 have et:hY= #[t,t']:=by apply sF;simpa using htys
 obtain⟨k,rfl⟩:=fJ (show 0<=n by omega);rw[dG]at cU;have uW:zv.cells=z.toArray:=by rw[<-jo]
 have GR:k*i.bytes<=140737488355328:=by
  rw[nh,wc];have:((cB*k:Nat):Int)<=140737488355328:=by rw[C9];exact c2
  omega
 have NS:(Builtin.zeroCells zv.cells k).toList=(List.replicate k z).flatten:=by
  unfold Builtin.zeroCells;rw[uW];have:=IA z k;simpa using this
 have ZE:Builtin.zeroCells zv.cells k=((List.replicate k z).flatten).toArray:=by rw[<-NS]
 have ph:∀x,x∈(List.replicate k z).flatten->x∈z:=λx hx=>by
  rw[Kx]at hx;obtain⟨l',CF,g9⟩:=hx
  rwa [(nu.1 CF).2]at g9
 have ej:Vl m ((List.replicate k z).flatten) ((List.replicate k z).flatten):=B0 (bm.2 λx hx=>bm.1 c7 x (ph x hx));have hlen:(List.replicate k z).flatten.length=k*es:=by rw[Ug];simp[c5]
 have hkw:IntKind.i64.wrap (k:Int)=k:=by rw[IntKind.wrap_i64];omega
 refine zuF he ht jo (by omega) hlen ej hv cU hK r ?_ ?_ hn
 ·intro s0 cg eA ga dW hol holds lD hg EG hb;have gD:(cg+k)*i.bytes<=140737488355328:=by rw[nh];exact hb
  have hfit:=growslice_fits hg gD
  have Fb:=Lib.run_append_grow_zeros (P:=P) w t t' o.type e i zv .i64 kn hu Ah hi hz s0 cg eA ga (by
   cases s0 with
   |none=>
    obtain⟨rfl,rfl⟩:=lD rfl;have ho:ga=[]:=mL (by simpa using hol);subst ho;simp[run_firstCells_none]
   |some b=>exact run_firstCells_some (P:=P) w.drew i.size cg b cg eA ga (by rw[ey];exact hol) (holds b rfl)) k (by omega) (by omega) hg (by omega) (by omega) hfit
  simp only[execOp,ho,resolve,ea,et,Sem.run_bind,Sem.run_pure,Result.andThen_ok,invoke,builtin,Uh,jD,p9,dW,e1,Fb,ZE]
 ·intro bq off sl cap bF e' dW hw nH hfit xV;have dH:=run_storeCells_at P bq (off+sl*es) e' ((List.replicate k z).flatten) 0 bF w hw (by simpa using hfit) (bm.1 xV);simp only[rc]at dH;have a1d:¬((k:Int)<0):=by omega
  have hns:¬(k*i.size=0):=Nat.mul_ne_zero (by omega) (by rw[ey];exact c6);have a1o:k*es≠0:=Nat.mul_ne_zero (by omega) c6;have a2B:off+sl*es+k*z.length=off+sl*es+(List.replicate k z).flatten.length:=by rw[hlen,c5]
  have a15:¬(281474976710656<(k:Int)*(i.bytes:Int)):=by
   rw[<-C9];omega
  have Fb:(Builtin.append_ #[t,t'] o.type #[.slice (J ⟨bq,off,ae⟩) sl cap,.int .i64 k]).run P w=.ok (.slice (J ⟨bq,off,ae⟩) (sl+k) cap) (w.setRow bq (bF.toList.take (off+sl*es)++(List.replicate k z).flatten++bF.toList.drop (off+sl*es+(List.replicate k z).flatten.length)).toArray):=by
   simp[Builtin.append_,run_underlying hu,run_underlying Ah,sizeOf,typeInfo,zeroValue,hi,hz,asInt,asIntOf,hkw,a1d,a1o,a15,nH,ZE,ur,ey,dH]
  simp only[execOp,ho,resolve,ea,et,Sem.run_bind,Sem.run_pure,Result.andThen_ok,invoke,builtin,Uh,jD,p9,dW,e1,Fb]
def zvI:∀(ns:List Int) (r:List UInt8),ns.foldl (λ(r:ByteArray) n=>r.push (UInt8.ofNat n.toNat)) ⟨r.toArray⟩=⟨(r++ns.map λn=>UInt8.ofNat n.toNat).toArray⟩:=by
 intro ns;induction ns with
 |nil=>intro r;simp
 |cons n ns ih=>
  intro r;rw[Oy];have:(ByteArray.mk r.toArray).push (UInt8.ofNat n.toNat)=⟨(r++[UInt8.ofNat n.toNat]).toArray⟩:=by simp[ByteArray.push]
  rw[this,ih];simp
def zwH{t:TypeId}(h:tO P t=Z):∃e,P.underlying t=J (.slice e)/\P.underlying e=J (.int .u8):=by
 unfold tO at h;split at h
 ·rename_i e he;split at h
  ·rename_i hi _;refine⟨e,pu he,?_⟩;unfold jW at hi;split at hi
   ·rename_i hu;cases hi;exact hu
   ·cases hi
  ·cases h
 ·cases h
def R6(h:fo P c.nt o K fr H)(r:aX c m fr H a w)
(hn:∀m' ai H' a' w',K ai H'->aX c m' ai H' a' w'->next a' w'):o.wp P a w next Q:=by
 have key:∀{cells:List Value}{cs:Array Value}(e:TypeId) (d:Nat),d<c.nt->Vl m cells cs.toList->
  aX c (m.push ⟨w.heap.size,0,cs.size⟩) (fr.put d (.v (.pointer (J ⟨H.n,0,ae⟩)))) (H.push ⟨Z,cells⟩) {a with tmps:=a.tmps.setIfInBounds d (.pointer (J ⟨w.heap.size,0,ae⟩))} (w.alloc (.cells cs e)):=by
  intro cells cs e d hd hv;have hl:cells.length=cs.size:=by simpa using hv.1
  have r':=r.fresh (size:=cs.size) e (cy _) (a0q hl) λj v hj=>by
   obtain⟨y,hy,hV⟩:=hv.get hj;exact⟨y,by simpa using hy,hV⟩
  refine r'.Ao hd ?_;have hf:=m.yE ⟨w.heap.size,0,cs.size⟩;have:=V.ptr (m:=m.push ⟨w.heap.size,0,cs.size⟩) (id:=m.n) (off:=0) (by simp[Mu.push]);rw[hf,r.h.n]at this;exact this
 unfold fo at h;split at h
 ·rename_i e d ho hd;split at h
  ·rename_i g sz cB z ht;obtain⟨h1,h2,h3⟩:=h;obtain⟨i,zv,hi,hz,jo,_,_,_,_⟩:=ju (w:=w) ht
   have dL:(execOp a.eval o).run P w=.ok (.value (.pointer (J ⟨w.heap.size,0,ae⟩))) (w.alloc (.cells zv.cells e)):=by
    simp[execOp,ho,Instr.alloc,zeroValue,typeInfo,hi,hz,newVar,newRow]
   unfold Oper.wp;rw[dL,Oper.upon_value,hd];exact hn _ _ _ _ _ h3 (key e d h1 (by rw[jo];exact B0 h2))
  ·cases h
 ·rename_i e x d ho hd;split at h
  ·rename_i q v ht hx;obtain⟨h1,h2,h3⟩:=h;have hv:=f8 r hx;have hne:v≠.tuple #[]:=λe=>by rw[e]at h2;simp[mD]at h2
   have dL:(execOp a.eval o).run P w=.ok (.value (.pointer (J ⟨w.heap.size,0,ae⟩))) (w.alloc (.cells (a.eval x).cells e)):=by
    simp[execOp,ho,Instr.box,newVar,newRow]
   unfold Oper.wp;rw[dL,Oper.upon_value,hd];exact hn _ _ _ _ _ h3 (key e d h1 (hv.cells hne))
  ·cases h
 ·rename_i op t x y u d ho hd;obtain⟨⟨h1,h2,h3⟩,h4⟩:=h;obtain⟨e,he⟩:=Gt.1 h3
  have hy:y=.const (.slice ae 0 0):=by
   unfold ua at h2;split at h2
   ·rfl
   ·cases h2
  have run:∀(q:Bool) (s:Option Addr) (k l:Nat),Hl op=J q->a.eval x=.slice s k l->(execOp a.eval o).run P w=.ok (.value (.bool (if q=Z then s.isNone else !s.isNone))) w:=by
   intro q s k l hq hx
   have hu:P.underlying t=J (.slice e):=by
    unfold cS at he;split at he
    ·rename_i hu;cases he;exact hu
    ·cases he
   have xA:∀d',(Op.equalIn (d'+1) t (.slice s k l) (.slice ae 0 0)).run P w=.ok s.isNone w:=by
    intro d';cases s<;>simp[Op.equalIn,underlying,hu]
   have xD:(Op.equalIn 10000 t (.slice s k l) (.slice ae 0 0)).run P w=.ok s.isNone w:=xA 9999;have hc:a.eval (.const (.slice ae 0 0))=.slice ae 0 0:=rfl;cases op<;>simp only[Hl,aT]at hq<;>first|(cases hq;done)|skip
   all_goals subst hq
   all_goals simp[execOp,ho,hy,hx,hc,eqGuard,binOp,Op.equal,Op.maxDepth,xD]
  have WJ:∀b,K (fr.put d (.v (.bool b))) H->(execOp a.eval o).run P w=.ok (.value (.bool b)) w->o.wp P a w next Q:=by
   intro b hK dL;unfold Oper.wp;rw[dL,Oper.upon_value,hd];exact hn _ _ _ _ _ hK (r.Ao h1 (.bool b))
  split at h4
  ·rename_i q hq hx;have hv:=f8 r hx;generalize hz:a.eval x=z at hv;cases hv with
   |mf s=>exact WJ _ (h4 _) (run _ _ _ _ hq hz)
  ·rename_i q s' n' c' hq hx;have hv:=f8 r hx;generalize hz:a.eval x=z at hv;cases hv with
   |slice bY a1 a2 a3 a4=>
    have:=run _ _ _ _ hq hz;refine WJ _ h4 ?_;rw[this];cases q<;>rfl
  ·cases h4
 ·rename_i args hY d ho hd;split at h
  ·rename_i x t hargs htys;obtain⟨h1,h2,h3,h4⟩:=h;obtain⟨e,he⟩:=Gt.1 h2;have hu:=pu he;have hv:=f8 r h3;have ea:args= #[x]:=by apply sF;simpa using hargs
   have et:hY= #[t]:=by apply sF;simpa using htys
   generalize hz:a.eval x=z at hv;cases hv with
   |mf s0=>
    have dL:(execOp a.eval o).run P w=.ok (.value (.int .i64 0)) w:=by
     simp[execOp,ho,resolve,ea,et,invoke,builtin,Builtin.cap_,jC hu,goInt,hz]
    unfold Oper.wp;rw[dL,Oper.upon_value,hd];exact hn _ _ _ _ _ h4 (r.Ao h1 (.int _ _))
  ·cases h
 ·rename_i args hY d ho hd;split at h
  ·rename_i s x t t' hargs htys;split at h
   ·rename_i e n he hx;split at h
    ·rename_i g es cB z ht;rcases h with h|⟨⟨h1,h2,c1,c2,c3,c5,c6,c7⟩,sv,v,Sg,fQ,cU,h4⟩
     rotate_left
     ·refine zud (K:=K) ho hargs htys he hx ht h2 c1 c2 c3 c6 c5 c7 fQ cU ?_ r hn;rw[hd];simp only[bB];rw[aB h1];exact h4
     obtain⟨⟨h1,h2,h3,c1,c2,c3,c5,c6,c7⟩,h4⟩:=h;obtain⟨kn,hk⟩:=Gt.1 h2
     have Ah:P.underlying t'=J (.int kn):=by
      unfold jW at hk;split at hk
      ·rename_i hu;cases hk;exact hu
      ·cases hk
     obtain⟨i,zv,hi,hz,jo,ey,nh,_,hs⟩:=ju (w:=w) ht;have hu:=pu he;have e1:=Ap (f8 r hx);have hv:=f8 r h3;have ea:args= #[s,x]:=by apply sF;simpa using hargs
     have et:hY= #[t,t']:=by apply sF;simpa using htys
     obtain⟨k,rfl⟩:=fJ (show 0<=n by omega);have uW:zv.cells=z.toArray:=by rw[<-jo]
     have GR:k*i.bytes<=140737488355328:=by
      rw[nh,wc];have:((cB*k:Nat):Int)<=140737488355328:=by rw[C9];exact c2
      omega
     generalize tX:a.eval s=y at hv;cases hv with
     |mf s0=>
      have hfit:=growslice_fits (old:=0) (need:=0+k) (by omega) (by rw[gk];exact GR)
      have Fb:=Lib.run_append_grow_zeros (P:=P) w t t' o.type e i zv .i64 kn hu Ah hi hz s0 0 0 [] (by
       cases s0 with
       |none=>simp[run_firstCells_none]
       |some b=>exact run_firstCells_some (P:=P) w.drew i.size 0 b 0 0 [] (by simp) (by simp)) k (by omega) (by omega) (by omega) (by omega) (by omega) hfit
      rw[gk]at Fb
      have dL:(execOp a.eval o).run P w=.ok (.value (.slice (J ⟨w.heap.size,0,ae⟩) k (grownCap w k 0 e))) (w.drew.alloc (.cells (([]:List Value).toArray++Builtin.zeroCells zv.cells k++Builtin.zeroCells zv.cells (grownCap w k 0 e-k)) e)):=by
       simp only[execOp,ho,resolve,ea,et,Sem.run_bind,Sem.run_pure,Result.andThen_ok,invoke,builtin,Uh,jD,p9,tX,e1,Fb]
      have qG:=grownCap_ge w k 0 e
      have BL:Vl m ((List.replicate k z).flatten) (Builtin.zeroCells zv.cells k).toList:=by
       have:(Builtin.zeroCells zv.cells k).toList=(List.replicate k z).flatten:=by
        unfold Builtin.zeroCells;rw[uW];have:=IA z k;simpa using this
       rw[this]
       exact B0 (bm.2 λx hx=>by
        rw[Kx]at hx;obtain⟨l',CF,g9⟩:=hx;rw[(nu.1 CF).2]at g9
        exact bm.1 c7 x g9)
      obtain⟨g1,g2,g3⟩:=RN (es:=es) (k:=grownCap w k 0 e) (need:=k) (zv:=zv) (Vl.nil _) BL (by simp[c5]) (by rw[uW];simpa using c5) qG;unfold Oper.wp;rw[dL,Oper.upon_value,hd];simp only[mM,Array.toArray_toList]at g1 g2 g3;have r2:=r.drew.fresh (size:=grownCap w k 0 e*es) e g1 g2 g3;exact hn _ _ _ _ _ h4 (r2.Ao h1 (Lj r.h.n (cy _) _ (cy _) qG))
    ·cases h
   ·cases h
  ·cases h
 ·rename_i args hY ho hd;split at h
  ·rename_i x t hargs htys;split at h
   ·rename_i e id off bw n cc he hx;split at h
    ·rename_i g es cB z k ht hk;obtain⟨⟨c1,c2,c3,c4,c5,c6,c7,c8⟩,cs,dn,h4⟩:=h;subst c3;obtain⟨i,zv,hi,hz,jo,ey,nh,_,hs⟩:=ju (w:=w) ht;have hu:=pu he;have hv:=f8 r hx;have ea:args= #[x]:=by apply sF;simpa using hargs
     have et:hY= #[t]:=by apply sF;simpa using htys
     have uW:zv.cells=z.toArray:=by rw[<-jo]
     have NS:(Builtin.zeroCells zv.cells n).toList=(List.replicate n z).flatten:=by
      unfold Builtin.zeroCells;rw[uW];have:=IA z n;simpa using this
     have ph:∀x,x∈(List.replicate n z).flatten->x∈z:=λx hx=>by
      rw[Kx]at hx;obtain⟨l',CF,g9⟩:=hx
      rwa [(nu.1 CF).2]at g9
     have ej:Vl m ((List.replicate n z).flatten) ((List.replicate n z).flatten):=B0 (bm.2 λx hx=>bm.1 c7 x (ph x hx));have hlen:(List.replicate n z).flatten.length=n*es:=by rw[Ug];simp[c5]
     have hne:(List.replicate n z).flatten≠[]:=λe0=>by
      rw[e0]at hlen;have:=Ui (OB c1) (OB c6);simp at hlen;omega
     obtain⟨bF,e',g1,g2,g3⟩:=r.HC hk c4 dn ej hne;generalize tX:a.eval x=y at hv;cases hv with
     |slice bY k1 k2 k3 k4=>
      rename_i o' cap;have ho':=k3 (by omega);subst ho';have dH:=run_storeCells_at P (m.f id).bq ((m.f id).base+off) e' ((List.replicate n z).flatten) 0 bF w g1 (by simpa[iN]using g2) (Gc ej (bm.2 λx hx=>bm.1 c8 x (ph x hx)));simp only[rc]at dH
      have dL:(execOp a.eval o).run P w=.ok (.value (.tuple #[])) (w.setRow (m.f id).bq (bF.toList.take ((m.f id).base+off)++(List.replicate n z).flatten++bF.toList.drop ((m.f id).base+off+(List.replicate n z).flatten.length)).toArray):=by
       cases n with
       |zero=>exact absurd rfl c1
       |succ n=>
        simp[execOp,ho,resolve,ea,et,invoke,builtin,Builtin.clear_,jC hu,tX,zeroValue,typeInfo,hi,hz,NS,dH]
      unfold Oper.wp;rw[dL,Oper.upon_value,hd];exact hn m fr _ a _ h4 (by simpa[iN]using g3)
    ·cases h
   ·cases h
  ·cases h
 ·obtain⟨ts,ai,H',h1,h2⟩:=h;obtain⟨m',r'⟩:=zwy r h1;exact M0 h2 r' hn
 ·rename_i q d ho hd;obtain⟨s,cells,⟨h1,h2,h3,h4⟩,h5⟩:=h;obtain⟨m',_,r1,hV⟩:=ZJ r h4;have hf:=r.f q;unfold RF at hf;rw[h3]at hf;obtain⟨b,e1,e2⟩:=hf cells h4;rw[e1,<-e2]at hV;have hq:q<a.tmps.size:=by rw[r.sz];exact h2
  have r2:=r1.Ao h2 hV
  have ea:a.tmps.setIfInBounds q (a.tmps.getD q undef)=a.tmps:=by
   apply Array.ext_getElem?;intro i;rw[a0m];split
   ·rename_i e;subst e;try simp only[Array.getD,dif_pos hq,aB hq]
    first|exact(Da hq).symm|simp[hq]
   ·rfl
  rw[ea]at r2;have r3:=r2.Ao h1 hV;have dL:(execOp a.eval o).run P w=.ok (.value (a.eval (.tmp q))) w:=by simp[execOp,ho]
  unfold Oper.wp;rw[dL,Oper.upon_value,hd];exact hn m' _ _ _ _ h5 r3
 ·rename_i s t x d ho hd;obtain⟨⟨h1,h2,h3⟩,h4⟩:=h;obtain⟨e,hu,AM⟩:=zwH h2
  have Mp:P.underlying t=J .string:=by
   unfold dU at h3;split at h3
   ·rename_i hu;exact hu
   ·cases h3
  have conv:∀(b:Option Addr) (n cc:Nat) (ns:List Int),a.eval x=.slice b n cc->(∀ad,b=J ad->(loadCells ad n).run P w=.ok (ns.map (Value.int .u8)).toArray w)->(b=ae->ns=[])->
   (execOp a.eval o).run P w=.ok (.value (.string (xQ ns))) w:=by
   intro b n cc ns hz hl h0
   have:(Conv.bytesToString (.slice b n cc)).run P w=.ok (.string (xQ ns)) w:=by
    cases b with
    |none=>rw[h0 rfl];rfl
    |some ad=>
     rw[run_bytesToString w ad n cc ns (hl ad rfl)];have:=zvI ns [];simp only[mM]at this;rw[show ByteArray.empty=⟨([]:List UInt8).toArray⟩from rfl,this];rfl
   simp[execOp,ho,hz,run_convert_bytes_string w s t e b n cc hu AM Mp,this]
  split at h4
  ·rename_i cs n iY;obtain⟨ns,rfl,hK⟩:=h4
   obtain⟨e0,g,es,cB,z,he,ht⟩:∃e0 g es cB z,cS P s=J e0/\cA P e0=J (g,es,cB,z):=by
    unfold iq at iY;split at iY
    ·cases iY
    ·rename_i e0 he;split at iY
     ·cases iY
     ·rename_i ht;exact⟨_,_,_,_,_,he,ht⟩
   have Sj:es=1:=by
    unfold tO at h2;rw[he]at h2;simp only[ht]at h2;split at h2
    ·rename_i hh;cases hh;rfl
    ·cases h2
   obtain⟨hlen,ad,cap,hz,hc⟩:=Ei r he ht iY;subst Sj;simp only[Gx,Ky]at hlen
   have dL:=conv ad n cap ns hz (λKj Kd=>by
    rcases Uj n with sy|qD
    ·subst sy;have:ns=[]:=mL hlen;subst this;simp[loadCells,loadCellsFrom]
    ·obtain⟨b,o',ys,hb,q1,q2⟩:=hc qD;rw[Kd]at hb;cases hb
     have zI:ys=ns.map (Value.int .u8):=by
      apply List.ext_getElem?;intro i;cases hi:ys[i]? with
      |none=>
       have:ys.length<=i:=List.getElem?_eq_none_iff.1 hi;have h9:=q1.1;rw[AZ (by omega)]
      |some y=>
       have cF:i<ys.length:=(cT.1 hi).1;have h9:=q1.1;have:(ns.map (Value.int .u8))[i]? =J ((ns.map (Value.int .u8))[i]'(by omega)):=cE (by omega);have JW:=q1.2 i _ y this hi;rw[this];simp only[List.getElem_map]at JW⊢;rw[Ap JW]
     have hL:=run_loadCells_list (P:=P) w ⟨b,o',ae⟩ ys q2;have a1V:ys.length=n:=by rw[zI];simpa using hlen
     rw[a1V,zI]at hL;exact hL) (λKd=>by
    rcases Uj n with sy|qD
    ·subst sy;exact mL hlen
    ·obtain⟨b,o',ys,hb,_,_⟩:=hc qD
     rw[Kd]at hb;cases hb)
   unfold Oper.wp;rw[dL,Oper.upon_value,hd];exact hn _ _ _ _ _ hK (r.Ao h1 (.str _))
  ·cases h4
 ·cases h
def MZ(h:aM P c.nt o K fr H)(r:aX c m fr H a w)
(hn:∀m' ai H' a' w',K ai H'->aX c m' ai H' a' w'->next a' w'):o.wp P a w next Q:=by
 unfold aM at h;split at h
 ·exact zwF ‹_› h r hn
 ·exact NB h r hn
 ·exact NB h r hn
 ·rename_i t x i ho;rcases h with h|⟨u,l,es,cs,k,j,e,g,z,rfl,a2,a3,a4,a5,a6,a7⟩
  ·exact NB h r hn
  ·obtain⟨m',_,r',_⟩:=Vh r a2;refine NB ?_ r' hn
   have hi:be (fr.put u (.v (.slice (J ⟨H.n,0,J es⟩) l l))) i=J (.int k j):=by
    rw[<-a3];cases i with
    |tmp t2=>
     by_cases hh:t2=u
     ·subst hh;simp[be,a2]at a3
     ·simp[be,FR.put,hh]
    |_=>rfl
   rw[ho];simp only[ib,bM,hi,a4,a5];have hp:(fr.put u (.v (.slice (J ⟨H.n,0,J es⟩) l l))) u=.v (.slice (J ⟨H.n,0,J es⟩) l l):=by simp[FR.put]
   rw[hp];simp only;rw[aB ⟨trivial,a6.1,a6.2⟩,gk];exact a7
 ·exact zub ‹_› h r hn
 ·exact zyv ‹_› h r hn
 ·exact zpl ‹_› h r hn
 ·exact zun ‹_› h r hn
 ·exact zv1 ‹_› h r hn
 ·exact zqf ‹_› h r hn
 ·exact zs7 ‹_› h r hn
 ·exact zv6 ‹_› h r hn
 ·exact zwi ‹_› h r hn
 ·exact Zo (.inl ‹_›) h r hn
 ·exact Zo (.inr ‹_›) h r hn
 ·rename_i s t x ho;rcases h with h|⟨⟨h1,h2,h3⟩,l,ns,h4,h5⟩
  ·exact M0 h r hn
  ·cases hd:o.dst with
   |none=>rw[hd]at h3;cases h3
   |some d=>
    refine R6 ?_ r hn;have hb:=h1;unfold tO at hb;cases he:cS P s with
    |none=>rw[he]at hb;cases hb
    |some e=>
     rw[he]at hb;simp only at hb
     have hp:d<c.nt/\K (fr.put d (.v (.string (xQ ns)))) H:=by
      rw[hd]at h5;simp only[bB]at h5;split at h5
      ·rename_i SL;exact⟨SL,h5⟩
      ·cases h5
     simp only[fo,ho,hd];refine⟨⟨hp.1,h1,h2⟩,?_⟩
     have hs:iq P s fr H x=J (ns.map (Value.int .u8),l):=by
      unfold FB at h4;split at h4
      ·split at h4
       ·rename_i u _ len es cells hf;split at h4
        ·rename_i Sj;cases h4;unfold iq;rw[he];simp only;split at hb
         ·rename_i ht;rw[ht];simp only[hf];rw[aB Sj]
         ·cases hb
        ·cases h4
       ·cases h4
      ·cases h4
     rw[hs];exact⟨ns,rfl,hp.2⟩
 ·exact M0 h r hn
def Wt(r:aX c m fr H a w){j:Nat}{y:Option Bool}(h:ou fr (ops.toList.map (·.dst)) j=J y):yielded ops a.tmps j=y:=by
 unfold ou at h;split at h
 ·rename_i d hd
  have hZ:(ops[j]?).bind (·.dst)=J d:=by
   rw[Db]at hd;cases hj:ops[j]? with
   | none => have:ops.toList[j]? =ae:=by simpa using hj
             rw[this]at hd;cases hd
   | some o => have:ops.toList[j]? =J o:=by simpa using hj
               rw[this]at hd;simpa using hd
  have hf:=r.f d;unfold RF at hf;unfold yielded;rw[hZ];split at h
  ·rename_i b hb;cases h;rw[hb]at hf;have:=G4 hf;simp only[v8]at this;cases hq:a.tmps[d]? with
   |none=>rw[hq]at this;cases this
   |some v=>rw[hq]at this;simp at this;subst this;simp[hq]
  ·rename_i hb;cases h;rw[hb]at hf;simp only[v8]at hf;cases hq:a.tmps[d]? with
   |none=>simp[hq]
   |some v=>rw[hq]at hf;simp at hf;subst hf;simp[hq,undef]
  ·cases h
 ·cases h
def zxv(h:na P c.nt (ops.toList.map (·.dst)) o K fr H)(r:aX c m fr H a w)
(hn:∀m' ai H' a' w',K ai H'->aX c m' ai H' a' w'->next a' w'):
 if Region.wanted o (yielded ops a.tmps)=Z then o.wp P a w next Q else next (a.put o.dst undef) w:=by
 unfold na at h;split at h
 ·rename_i hg;rw[aB (by simp[Region.wanted,hg])];exact MZ h r hn
 ·rename_i j b hg;split at h
  ·rename_i y hy;have ie:=Wt r hy;split at h
   ·rename_i e;rw[aB (by simp[Region.wanted,hg,ie,e])];exact MZ h r hn
   ·rename_i e;rw[az (by simp[Region.wanted,hg,ie,e])];exact L9 h r hn
  ·cases h
def zwX(h:zk P c.nt (ops.toList.map (·.dst)) o K fr H)(r:aX c m fr H a w)
(hn:∀m' ai H' a' w',K ai H'->aX c m' ai H' a' w'->next a' w'):
 if Region.wanted o (yielded ops a.tmps)=Z then o.wp P a w next Q else next (a.put o.dst undef) w:=by
 unfold zk at h;split at h
 ·rename_i hg;rcases h with h|h
  ·rw[aB (by simp[Region.wanted,hg])];exact MZ h r hn
  ·rw[aB (by simp[Region.wanted,hg])];exact R6 h r hn
 ·rename_i j b hg;split at h
  ·rename_i y hy;have ie:=Wt r hy;split at h
   ·rename_i e;rw[aB (by simp[Region.wanted,hg,ie,e])];exact h.elim (λh=>MZ h r hn) λh=>R6 h r hn
   ·rename_i e;rw[az (by simp[Region.wanted,hg,ie,e])];exact L9 h r hn
  ·cases h
def zwT :∀(l:List Oper) {m:Mu}{fr:FR}{H:AH}{a:Act}{w:World},nk P c.nt (ops.toList.map (·.dst)) l K fr H->aX c m fr H a w->
 (∀m' ai H' a' w',K ai H'->aX c m' ai H' a' w'->Q .normal a' w')->wpList P ops Q l a w:=by
 intro l;induction l with
 |nil=>intro m fr H a w h r hn;exact hn m fr H a w h r
 |cons o l ih=>
  intro m fr H a w h r hn;rw[Vu]at h;refine wpList_step λKK hKK=>?_
  exact zwX h r λm' ai H' a' w' h' r'=>hKK _ _ (ih h' r' hn)
end
end Go.Am
