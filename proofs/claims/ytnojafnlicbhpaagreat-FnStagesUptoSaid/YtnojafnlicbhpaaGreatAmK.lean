import Derived.Test.YtnojafnlicbhpaaGreatAmJ
import Derived.Tactics
import Derived.Laws.BytesString
import Derived.Lib.AppendZerosOnto
open Option renaming none→ae,some→J
open Bool renaming true→Z
set_option linter.defProp false
namespace Go.Am
def cY:=@List.getElem?_eq_some_iff
def dL:=@Int.toNat_natCast
def fZ:=@Int.eq_ofNat_of_zero_le
def na:=@List.nil_append
def xJ:=@Nat.mul_comm
def Eu:=@Int.natCast_mul
def Ev:=@Array.getElem?_eq_getElem
def Ew:=@List.getElem?_map
def HJ:=@List.length_map
def L0:=@Nat.mul_one
def V0:=@Nat.eq_zero_or_pos
def a1f:=@Nat.le_of_eq
section
variable {c:rA}{m:Mu}{fr:FR}{H:AH}{a:Act}{w:World}{P:Program}{K:FR->AH->Prop}{next:Act->World->Prop}
variable{Q:Exit->Act->World->Prop}{o:Oper}{ops:Array Oper}
def zpz{x:Operand}(ho:o.op=.move x\/o.op=.assign x)
(h:match bO fr x with
 |some (.lp s off)=>bC c.nt K o.dst (.lp s off) fr H
 |_=>dE P c.nt o K fr H)(r:aX c m fr H a w)
(hn:∀m' ak H' a' w',K ak H'->aX c m' ak H' a' w'->next a' w'):o.wp P a w next Q:=by
 split at h
 ·rename_i s off hx;have hv:=sP r hx;have dV:(execOp a.eval o).run P w=.ok (.value (a.eval x)) w:=by rcases ho with ho|ho<;>simp[execOp,ho]
  unfold Oper.wp;rw[dV];exact X6 h r hv hn
 ·exact O3 h r hn
def zvF{args:Array Operand}{il:Array TypeId}(ho:o.op=.call ⟨.builtin .copy,args,il⟩)
(h:match args.toList,il.toList with
 |[x,y],[t,_]=>match cW P t,be fr x,iD P t fr H y with
  |some e,J (.slice (J ⟨id,off,J bA⟩) n cc),J (cs,l)=>match cF P e,H.b id with
   |some (_,es,_,_),J k=>if n<=cc/\es=bA/\k.rw=Z/\es≠0/\0<min l n/\(cs.take (min l n*es)).all l8=Z then
    match gq k.cells off (cs.take (min l n*es))with
    |some fc=>bC c.nt K o.dst (.v (.int .i64 (min l n:Nat))) fr (H.set id (J ⟨Z,fc⟩))
    |none=>False
    else False
   |_,_=>False
  |_,_,_=>False
 |_,_=>False)(r:aX c m fr H a w)
(hn:∀m' ak H' a' w',K ak H'->aX c m' ak H' a' w'->next a' w'):o.wp P a w next Q:=by
 split at h
 ·rename_i x y t t' hargs htys;split at h
  ·rename_i e id off bA n cc cs l he hx je;split at h
   ·rename_i g es cG z k ht hk;split at h
    ·rename_i lZ;obtain⟨c2,c3,c4,c5,c6,c7⟩:=lZ;subst c3;split at h
     ·rename_i fc dv;obtain⟨i,zv,hi,hz,jC,eI,nJ,_,hs⟩:=jN (w:=w) ht;have hu:=qu he;have hv:=gx r hx;have ea:args= #[x,y]:=by apply te;simpa using hargs
      have et:il= #[t,t']:=by apply te;simpa using htys
      obtain⟨hlen,ad,cap,hzy,hc⟩:=HA r he ht je;obtain⟨b,o',ys,hb,q1,q2⟩:=hc (by omega);subst hb;have hq:min l n*es<=cs.length:=by rw[hlen];exact gO _ (Nat.min_le_left _ _)
      have en:Vl m (cs.take (min l n*es)) (ys.take (min l n*es)):=q1.take _;have Ed:(ys.take (min l n*es)).length=min l n*es:=by rw[nO];have:=q1.1;omega
      have hne:cs.take (min l n*es)≠[]:=λe0=>by
       have e1:(cs.take (min l n*es)).length=0:=by rw[e0];rfl
       have:=VZ c6 (Qf c5);rw[nO,Nat.min_eq_left hq]at e1;omega
      obtain⟨bI,e',g1,g2,g3⟩:=r.K8 hk c4 dv en hne;generalize uv:a.eval x=u at hv;cases hv with
      |slice b9 k1 k2 k3 k4=>
       rename_i o'' a55;have ho':=k3 (by omega);subst ho';have dO:=run_storeCells_at P (m.f id).bu ((m.f id).base+off) e' (ys.take (min l n*es)) 0 bI w g1 (by simpa[jc]using g2) (EC en c7);simp only[rQ]at dO
       have hfc:=run_firstCells_some (P:=P) w es (min l n) ⟨b,o',ae⟩ l cap (ys.take (min l n*es)) Ed λj v hj=>q2 j v (by
        rw[mu]at hj;split at hj
        ·exact hj
        ·cases hj)
       have dV:(execOp a.eval o).run P w=.ok (.value (goInt ((min l n:Nat):Int))) (w.setRow (m.f id).bu (bI.toList.take ((m.f id).base+off)++ys.take (min l n*es)++bI.toList.drop ((m.f id).base+off+(ys.take (min l n*es)).length)).toArray):=by
        simp[execOp,ho,resolve,ea,et,invoke,builtin,Builtin.copy_,jA hu,uv,hzy,Builtin.lenOf,sizeOf,typeInfo,hi,eI,hfc,dO]
       unfold Oper.wp;rw[dV];exact od h g3 (.int _ _) hn
     ·cases h
    ·cases h
   ·cases h
  ·cases h
 ·cases h
def nm(P:Program)(nt:Nat)(pre:List (Option Tmp))(o:Oper)(K:FR->AH->Prop)(fr:FR)(H:AH):Prop:=
 match o.guard with
 |none=>aP P nt o K fr H
 |some (j,b)=>match py fr pre j with
  |some y=>if y=J b then aP P nt o K fr H else bC nt K o.dst .skip fr H
  |none=>False
def BI(P:Program)(nt:Nat)(pre:List (Option Tmp))(o:Oper)(K:FR->AH->Prop)(fr:FR)(H:AH):Prop:=
 match o.guard with
 |none=>aP P nt o K fr H\/fC P nt o K fr H
 |some (j,b)=>match py fr pre j with
  |some y=>if y=J b then aP P nt o K fr H\/fC P nt o K fr H else bC nt K o.dst .skip fr H
  |none=>False
theorem zrl(pre:List (Option Tmp))(o:Oper)(l:List Oper)(nt:Nat):nr P nt pre (o::l) K fr H=BI P nt pre o (nr P nt pre l K) fr H:=rfl
def zuM{c:rA}{m:Mu}{fr:FR}{H:AH}{a:Act}{w:World}{P:Program}{K:FR->AH->Prop}{next:Act->World->Prop}{args:Array Operand}{il:Array TypeId}(ho:o.op=.call ⟨.builtin .append,args,il⟩){s x:Operand}{t t' e:TypeId}(hargs:args.toList=[s,x])(htys:il.toList=[t,t']){n:Int}
(he:cW P t=J e)(hx:be fr x=J (.int .i64 n)){g:Bool}{es cG:Nat}{z:List Value}(ht:cF P e=J (g,es,cG,z))(h2:(j9 P t').isSome=Z)(c1:0<n)(c2:cG*n<=140737488355328)(c3:n<=4611686018427387904)(c6:es≠0)(c5:z.length=es)(c7:z.all cz=Z)
{sv v:Value}{H':AH}(hs:be fr s=J sv)(db:s9 P t sv (List.replicate n.toNat z).flatten n.toNat H=J (v,H'))(hK:bC c.nt K o.dst (.v v) fr H')(r:aX c m fr H a w)
(hn:∀m' ak H' a' w',K ak H'->aX c m' ak H' a' w'->next a' w'):o.wp P a w next Q:=by
 obtain⟨kn,hk⟩:=HG.1 h2
 have Aw:P.underlying t'=J (.int kn):=by
  unfold j9 at hk;split at hk
  ·rename_i hu;cases hk;exact hu
  ·cases hk
 obtain⟨i,zv,hi,hz,jC,eI,nJ,_,mW⟩:=jN (w:=w) ht;have hu:=qu he;have e1:=A8 (gx r hx);have hv:=gx r hs;have ea:args= #[s,x]:=by apply te;simpa using hargs
 have et:il= #[t,t']:=by apply te;simpa using htys
 obtain⟨k,rfl⟩:=fZ (show 0<=n by omega);rw[dL]at db;have vi:zv.cells=z.toArray:=by rw[<-jC]
 have Lw:k*i.bytes<=140737488355328:=by
  rw[nJ,xJ];have:((cG*k:Nat):Int)<=140737488355328:=by rw[Eu];exact c2
  omega
 have Pa:(Builtin.zeroCells zv.cells k).toList=(List.replicate k z).flatten:=by
  unfold Builtin.zeroCells;rw[vi];have:=Kk z k;simpa using this
 have W9:Builtin.zeroCells zv.cells k=((List.replicate k z).flatten).toArray:=by rw[<-Pa]
 have qp:∀x,x∈(List.replicate k z).flatten->x∈z:=λx hx=>by
  rw[LZ]at hx;obtain⟨l',Do,iv⟩:=hx
  rwa [(nN.1 Do).2]at iv
 have en:Vl m ((List.replicate k z).flatten) ((List.replicate k z).flatten):=CN (bm.2 λx hx=>bm.1 c7 x (qp x hx));have hlen:(List.replicate k z).flatten.length=k*es:=by rw[VX];simp[c5]
 have hkw:IntKind.i64.wrap (k:Int)=k:=by rw[IntKind.wrap_i64];omega
 refine zuI he ht jC (by omega) hlen en hv db hK r ?_ ?_ hn
 ·intro s0 cj eM gz dY hol holds mc hg EQ hb;have hY:(cj+k)*i.bytes<=140737488355328:=by rw[nJ];exact hb
  have hfit:=growslice_fits hg hY
  have FP:=Lib.run_append_grow_zeros (P:=P) w t t' o.type e i zv .i64 kn hu Aw hi hz s0 cj eM gz (by
   cases s0 with
   |none=>
    obtain⟨rfl,rfl⟩:=mc rfl;have ho:gz=[]:=m9 (by simpa using hol);subst ho;simp[run_firstCells_none]
   |some b=>exact run_firstCells_some (P:=P) w.drew i.size cj b cj eM gz (by rw[eI];exact hol) (holds b rfl)) k (by omega) (by omega) hg (by omega) (by omega) hfit
  simp only[execOp,ho,resolve,ea,et,Sem.run_bind,Sem.run_pure,Result.andThen_ok,invoke,builtin,VY,jT,qI,dY,e1,FP,W9]
 ·intro bu off sl cap bI e' dY hw nV hfit yx;have dO:=run_storeCells_at P bu (off+sl*es) e' ((List.replicate k z).flatten) 0 bI w hw (by simpa using hfit) (bm.1 yx);simp only[rQ]at dO;have a17:¬((k:Int)<0):=by omega
  have hns:¬(k*i.size=0):=Nat.mul_ne_zero (by omega) (by rw[eI];exact c6);have a1P:k*es≠0:=Nat.mul_ne_zero (by omega) c6;have a6a:off+sl*es+k*z.length=off+sl*es+(List.replicate k z).flatten.length:=by rw[hlen,c5]
  have a2g:¬(281474976710656<(k:Int)*(i.bytes:Int)):=by
   rw[<-Eu];omega
  have FP:(Builtin.append_ #[t,t'] o.type #[.slice (J ⟨bu,off,ae⟩) sl cap,.int .i64 k]).run P w=.ok (.slice (J ⟨bu,off,ae⟩) (sl+k) cap) (w.setRow bu (bI.toList.take (off+sl*es)++(List.replicate k z).flatten++bI.toList.drop (off+sl*es+(List.replicate k z).flatten.length)).toArray):=by
   simp[Builtin.append_,run_underlying hu,run_underlying Aw,sizeOf,typeInfo,zeroValue,hi,hz,asInt,asIntOf,hkw,a17,a1P,a2g,nV,W9,vt,eI,dO]
  simp only[execOp,ho,resolve,ea,et,Sem.run_bind,Sem.run_pure,Result.andThen_ok,invoke,builtin,VY,jT,qI,dY,e1,FP]
def zwt:∀(ns:List Int) (r:List UInt8),ns.foldl (λ(r:ByteArray) n=>r.push (UInt8.ofNat n.toNat)) ⟨r.toArray⟩=⟨(r++ns.map λn=>UInt8.ofNat n.toNat).toArray⟩:=by
 intro ns;induction ns with
 |nil=>intro r;simp
 |cons n ns ih=>
  intro r;rw[Qc];have:(ByteArray.mk r.toArray).push (UInt8.ofNat n.toNat)=⟨(r++[UInt8.ofNat n.toNat]).toArray⟩:=by simp[ByteArray.push]
  rw[this,ih];simp
def zvU{t:TypeId}(h:uH P t=Z):∃e,P.underlying t=J (.slice e)/\P.underlying e=J (.int .u8):=by
 unfold uH at h;split at h
 ·rename_i e he;split at h
  ·rename_i hi _;refine⟨e,qu he,?_⟩;unfold j9 at hi;split at hi
   ·rename_i hu;cases hi;exact hu
   ·cases hi
  ·cases h
 ·cases h
def TE(h:fC P c.nt o K fr H)(r:aX c m fr H a w)
(hn:∀m' ak H' a' w',K ak H'->aX c m' ak H' a' w'->next a' w'):o.wp P a w next Q:=by
 have key:∀{cells:List Value}{cs:Array Value}(e:TypeId) (d:Nat),d<c.nt->Vl m cells cs.toList->
  aX c (m.push ⟨w.heap.size,0,cs.size⟩) (fr.put d (.v (.pointer (J ⟨H.n,0,ae⟩)))) (H.push ⟨Z,cells⟩) {a with tmps:=a.tmps.setIfInBounds d (.pointer (J ⟨w.heap.size,0,ae⟩))} (w.alloc (.cells cs e)):=by
  intro cells cs e d hd hv;have hl:cells.length=cs.size:=by simpa using hv.1
  have r':=r.fresh (size:=cs.size) e (cB _) (a1f hl) λj v hj=>by
   obtain⟨y,hy,hV⟩:=hv.get hj;exact⟨y,by simpa using hy,hV⟩
  refine r'.BF hd ?_;have hf:=m.BB ⟨w.heap.size,0,cs.size⟩;have:=V.ptr (m:=m.push ⟨w.heap.size,0,cs.size⟩) (id:=m.n) (off:=0) (by simp[Mu.push]);rw[hf,r.h.n]at this;exact this
 unfold fC at h;split at h
 ·rename_i e d ho hd;split at h
  ·rename_i g sz cG z ht;obtain⟨h1,h2,h3⟩:=h;obtain⟨i,zv,hi,hz,jC,_,_,_,_⟩:=jN (w:=w) ht
   have dV:(execOp a.eval o).run P w=.ok (.value (.pointer (J ⟨w.heap.size,0,ae⟩))) (w.alloc (.cells zv.cells e)):=by
    simp[execOp,ho,Instr.alloc,zeroValue,typeInfo,hi,hz,newVar,newRow]
   unfold Oper.wp;rw[dV,Oper.upon_value,hd];exact hn _ _ _ _ _ h3 (key e d h1 (by rw[jC];exact CN h2))
  ·cases h
 ·rename_i e x d ho hd;split at h
  ·rename_i q v ht hx;obtain⟨h1,h2,h3⟩:=h;have hv:=gx r hx;have hne:v≠.tuple #[]:=λe=>by rw[e]at h2;simp[mH]at h2
   have dV:(execOp a.eval o).run P w=.ok (.value (.pointer (J ⟨w.heap.size,0,ae⟩))) (w.alloc (.cells (a.eval x).cells e)):=by
    simp[execOp,ho,Instr.box,newVar,newRow]
   unfold Oper.wp;rw[dV,Oper.upon_value,hd];exact hn _ _ _ _ _ h3 (key e d h1 (hv.cells hne))
  ·cases h
 ·rename_i op t x y u d ho hd;obtain⟨⟨h1,h2,h3⟩,h4⟩:=h;obtain⟨e,he⟩:=HG.1 h3
  have hy:y=.const (.slice ae 0 0):=by
   unfold vk at h2;split at h2
   ·rfl
   ·cases h2
  have run:∀(q:Bool) (s:Option Addr) (k l:Nat),K9 op=J q->a.eval x=.slice s k l->(execOp a.eval o).run P w=.ok (.value (.bool (if q=Z then s.isNone else !s.isNone))) w:=by
   intro q s k l hq hx
   have hu:P.underlying t=J (.slice e):=by
    unfold cW at he;split at he
    ·rename_i hu;cases he;exact hu
    ·cases he
   have xW:∀d',(Op.equalIn (d'+1) t (.slice s k l) (.slice ae 0 0)).run P w=.ok s.isNone w:=by
    intro d';cases s<;>simp[Op.equalIn,underlying,hu]
   have df:(Op.equalIn 10000 t (.slice s k l) (.slice ae 0 0)).run P w=.ok s.isNone w:=xW 9999;have hc:a.eval (.const (.slice ae 0 0))=.slice ae 0 0:=rfl;cases op<;>simp only[K9,aT]at hq<;>first|(cases hq;done)|skip
   all_goals subst hq
   all_goals simp[execOp,ho,hy,hx,hc,eqGuard,binOp,Op.equal,Op.maxDepth,df]
  have a0r:∀b,K (fr.put d (.v (.bool b))) H->(execOp a.eval o).run P w=.ok (.value (.bool b)) w->o.wp P a w next Q:=by
   intro b hK dV;unfold Oper.wp;rw[dV,Oper.upon_value,hd];exact hn _ _ _ _ _ hK (r.BF h1 (.bool b))
  split at h4
  ·rename_i q hq hx;have hv:=gx r hx;generalize hz:a.eval x=z at hv;cases hv with
   |mK s=>exact a0r _ (h4 _) (run _ _ _ _ hq hz)
  ·rename_i q s' n' c' hq hx;have hv:=gx r hx;generalize hz:a.eval x=z at hv;cases hv with
   |slice b9 a1 a2 a3 a4=>
    have:=run _ _ _ _ hq hz;refine a0r _ h4 ?_;rw[this];cases q<;>rfl
  ·cases h4
 ·rename_i args il d ho hd;split at h
  ·rename_i x t hargs htys;obtain⟨h1,h2,h3,h4⟩:=h;obtain⟨e,he⟩:=HG.1 h2;have hu:=qu he;have hv:=gx r h3;have ea:args= #[x]:=by apply te;simpa using hargs
   have et:il= #[t]:=by apply te;simpa using htys
   generalize hz:a.eval x=z at hv;cases hv with
   |mK s0=>
    have dV:(execOp a.eval o).run P w=.ok (.value (.int .i64 0)) w:=by
     simp[execOp,ho,resolve,ea,et,invoke,builtin,Builtin.cap_,jA hu,goInt,hz]
    unfold Oper.wp;rw[dV,Oper.upon_value,hd];exact hn _ _ _ _ _ h4 (r.BF h1 (.int _ _))
  ·cases h
 ·rename_i args il d ho hd;split at h
  ·rename_i s x t t' hargs htys;split at h
   ·rename_i e n he hx;split at h
    ·rename_i g es cG z ht;rcases h with h|⟨⟨h1,h2,c1,c2,c3,c5,c6,c7⟩,sv,v,U6,f9,db,h4⟩
     rotate_left
     ·refine zuM (K:=K) ho hargs htys he hx ht h2 c1 c2 c3 c6 c5 c7 f9 db ?_ r hn;rw[hd];simp only[bC];rw[aD h1];exact h4
     obtain⟨⟨h1,h2,h3,c1,c2,c3,c5,c6,c7⟩,h4⟩:=h;obtain⟨kn,hk⟩:=HG.1 h2
     have Aw:P.underlying t'=J (.int kn):=by
      unfold j9 at hk;split at hk
      ·rename_i hu;cases hk;exact hu
      ·cases hk
     obtain⟨i,zv,hi,hz,jC,eI,nJ,_,hs⟩:=jN (w:=w) ht;have hu:=qu he;have e1:=A8 (gx r hx);have hv:=gx r h3;have ea:args= #[s,x]:=by apply te;simpa using hargs
     have et:il= #[t,t']:=by apply te;simpa using htys
     obtain⟨k,rfl⟩:=fZ (show 0<=n by omega);have vi:zv.cells=z.toArray:=by rw[<-jC]
     have Lw:k*i.bytes<=140737488355328:=by
      rw[nJ,xJ];have:((cG*k:Nat):Int)<=140737488355328:=by rw[Eu];exact c2
      omega
     generalize uv:a.eval s=y at hv;cases hv with
     |mK s0=>
      have hfit:=growslice_fits (old:=0) (need:=0+k) (by omega) (by rw[gE];exact Lw)
      have FP:=Lib.run_append_grow_zeros (P:=P) w t t' o.type e i zv .i64 kn hu Aw hi hz s0 0 0 [] (by
       cases s0 with
       |none=>simp[run_firstCells_none]
       |some b=>exact run_firstCells_some (P:=P) w.drew i.size 0 b 0 0 [] (by simp) (by simp)) k (by omega) (by omega) (by omega) (by omega) (by omega) hfit
      rw[gE]at FP
      have dV:(execOp a.eval o).run P w=.ok (.value (.slice (J ⟨w.heap.size,0,ae⟩) k (grownCap w k 0 e))) (w.drew.alloc (.cells (([]:List Value).toArray++Builtin.zeroCells zv.cells k++Builtin.zeroCells zv.cells (grownCap w k 0 e-k)) e)):=by
       simp only[execOp,ho,resolve,ea,et,Sem.run_bind,Sem.run_pure,Result.andThen_ok,invoke,builtin,VY,jT,qI,uv,e1,FP]
      have qS:=grownCap_ge w k 0 e
      have DN:Vl m ((List.replicate k z).flatten) (Builtin.zeroCells zv.cells k).toList:=by
       have:(Builtin.zeroCells zv.cells k).toList=(List.replicate k z).flatten:=by
        unfold Builtin.zeroCells;rw[vi];have:=Kk z k;simpa using this
       rw[this]
       exact CN (bm.2 λx hx=>by
        rw[LZ]at hx;obtain⟨l',Do,iv⟩:=hx;rw[(nN.1 Do).2]at iv
        exact bm.1 c7 x iv)
      obtain⟨g1,g2,g3⟩:=Rf (es:=es) (k:=grownCap w k 0 e) (need:=k) (zv:=zv) (Vl.nil _) DN (by simp[c5]) (by rw[vi];simpa using c5) qS;unfold Oper.wp;rw[dV,Oper.upon_value,hd];simp only[na,Array.toArray_toList]at g1 g2 g3;have r2:=r.drew.fresh (size:=grownCap w k 0 e*es) e g1 g2 g3;exact hn _ _ _ _ _ h4 (r2.BF h1 (O6 r.h.n (cB _) _ (cB _) qS))
    ·cases h
   ·cases h
  ·cases h
 ·rename_i args il ho hd;split at h
  ·rename_i x t hargs htys;split at h
   ·rename_i e id off bA n cc he hx;split at h
    ·rename_i g es cG z k ht hk;obtain⟨⟨c1,c2,c3,c4,c5,c6,c7,c8⟩,cs,dv,h4⟩:=h;subst c3;obtain⟨i,zv,hi,hz,jC,eI,nJ,_,hs⟩:=jN (w:=w) ht;have hu:=qu he;have hv:=gx r hx;have ea:args= #[x]:=by apply te;simpa using hargs
     have et:il= #[t]:=by apply te;simpa using htys
     have vi:zv.cells=z.toArray:=by rw[<-jC]
     have Pa:(Builtin.zeroCells zv.cells n).toList=(List.replicate n z).flatten:=by
      unfold Builtin.zeroCells;rw[vi];have:=Kk z n;simpa using this
     have qp:∀x,x∈(List.replicate n z).flatten->x∈z:=λx hx=>by
      rw[LZ]at hx;obtain⟨l',Do,iv⟩:=hx
      rwa [(nN.1 Do).2]at iv
     have en:Vl m ((List.replicate n z).flatten) ((List.replicate n z).flatten):=CN (bm.2 λx hx=>bm.1 c7 x (qp x hx));have hlen:(List.replicate n z).flatten.length=n*es:=by rw[VX];simp[c5]
     have hne:(List.replicate n z).flatten≠[]:=λe0=>by
      rw[e0]at hlen;have:=VZ (Qf c1) (Qf c6);simp at hlen;omega
     obtain⟨bI,e',g1,g2,g3⟩:=r.K8 hk c4 dv en hne;generalize uv:a.eval x=y at hv;cases hv with
     |slice b9 k1 k2 k3 k4=>
      rename_i o' cap;have ho':=k3 (by omega);subst ho';have dO:=run_storeCells_at P (m.f id).bu ((m.f id).base+off) e' ((List.replicate n z).flatten) 0 bI w g1 (by simpa[jc]using g2) (EC en (bm.2 λx hx=>bm.1 c8 x (qp x hx)));simp only[rQ]at dO
      have dV:(execOp a.eval o).run P w=.ok (.value (.tuple #[])) (w.setRow (m.f id).bu (bI.toList.take ((m.f id).base+off)++(List.replicate n z).flatten++bI.toList.drop ((m.f id).base+off+(List.replicate n z).flatten.length)).toArray):=by
       cases n with
       |zero=>exact absurd rfl c1
       |succ n=>
        simp[execOp,ho,resolve,ea,et,invoke,builtin,Builtin.clear_,jA hu,uv,zeroValue,typeInfo,hi,hz,Pa,dO]
      unfold Oper.wp;rw[dV,Oper.upon_value,hd];exact hn m fr _ a _ h4 (by simpa[jc]using g3)
    ·cases h
   ·cases h
  ·cases h
 ·obtain⟨ts,ak,H',h1,h2⟩:=h;obtain⟨m',r'⟩:=zw1 r h1;exact O3 h2 r' hn
 ·rename_i q d ho hd;obtain⟨s,cells,⟨h1,h2,h3,h4⟩,h5⟩:=h;obtain⟨m',_,r1,hV⟩:=zvd r h4;have hf:=r.f q;unfold RF at hf;rw[h3]at hf;obtain⟨b,e1,e2⟩:=hf cells h4;rw[e1,<-e2]at hV;have hq:q<a.tmps.size:=by rw[r.sz];exact h2
  have r2:=r1.BF h2 hV
  have ea:a.tmps.setIfInBounds q (a.tmps.getD q undef)=a.tmps:=by
   apply Array.ext_getElem?;intro i;rw[a1b];split
   ·rename_i e;subst e;try simp only[Array.getD,dif_pos hq,aD hq]
    first|exact(Ev hq).symm|simp[hq]
   ·rfl
  rw[ea]at r2;have r3:=r2.BF h1 hV;have dV:(execOp a.eval o).run P w=.ok (.value (a.eval (.tmp q))) w:=by simp[execOp,ho]
  unfold Oper.wp;rw[dV,Oper.upon_value,hd];exact hn m' _ _ _ _ h5 r3
 ·rename_i s t x d ho hd;obtain⟨⟨h1,h2,h3⟩,h4⟩:=h;obtain⟨e,hu,AA⟩:=zvU h2
  have M2:P.underlying t=J .string:=by
   unfold eC at h3;split at h3
   ·rename_i hu;exact hu
   ·cases h3
  have conv:∀(b:Option Addr) (n cc:Nat) (ns:List Int),a.eval x=.slice b n cc->(∀ad,b=J ad->(loadCells ad n).run P w=.ok (ns.map (Value.int .u8)).toArray w)->(b=ae->ns=[])->
   (execOp a.eval o).run P w=.ok (.value (.string (yd ns))) w:=by
   intro b n cc ns hz hl h0
   have:(Conv.bytesToString (.slice b n cc)).run P w=.ok (.string (yd ns)) w:=by
    cases b with
    |none=>rw[h0 rfl];rfl
    |some ad=>
     rw[run_bytesToString w ad n cc ns (hl ad rfl)];have:=zwt ns [];simp only[na]at this;rw[show ByteArray.empty=⟨([]:List UInt8).toArray⟩from rfl,this];rfl
   simp[execOp,ho,hz,run_convert_bytes_string w s t e b n cc hu AA M2,this]
  split at h4
  ·rename_i cs n je;obtain⟨ns,rfl,hK⟩:=h4
   obtain⟨e0,g,es,cG,z,he,ht⟩:∃e0 g es cG z,cW P s=J e0/\cF P e0=J (g,es,cG,z):=by
    unfold iD at je;split at je
    ·cases je
    ·rename_i e0 he;split at je
     ·cases je
     ·rename_i ht;exact⟨_,_,_,_,_,he,ht⟩
   have Q6:es=1:=by
    unfold uH at h2;rw[he]at h2;simp only[ht]at h2;split at h2
    ·rename_i hh;cases hh;rfl
    ·cases h2
   obtain⟨hlen,ad,cap,hz,hc⟩:=HA r he ht je;subst Q6;simp only[HJ,L0]at hlen
   have dV:=conv ad n cap ns hz (λJU KJ=>by
    rcases V0 n with tc|rn
    ·subst tc;have:ns=[]:=m9 hlen;subst this;simp[loadCells,loadCellsFrom]
    ·obtain⟨b,o',ys,hb,q1,q2⟩:=hc rn;rw[KJ]at hb;cases hb
     have zS:ys=ns.map (Value.int .u8):=by
      apply List.ext_getElem?;intro i;cases hi:ys[i]? with
      |none=>
       have:ys.length<=i:=List.getElem?_eq_none_iff.1 hi;have h9:=q1.1;rw[BX (by omega)]
      |some y=>
       have fP:i<ys.length:=(cY.1 hi).1;have h9:=q1.1;have:(ns.map (Value.int .u8))[i]? =J ((ns.map (Value.int .u8))[i]'(by omega)):=cJ (by omega);have Kj:=q1.2 i _ y this hi;rw[this];simp only[List.getElem_map]at Kj⊢;rw[A8 Kj]
     have hL:=run_loadCells_list (P:=P) w ⟨b,o',ae⟩ ys q2;have a3F:ys.length=n:=by rw[zS];simpa using hlen
     rw[a3F,zS]at hL;exact hL) (λKJ=>by
    rcases V0 n with tc|rn
    ·subst tc;exact m9 hlen
    ·obtain⟨b,o',ys,hb,_,_⟩:=hc rn
     rw[KJ]at hb;cases hb)
   unfold Oper.wp;rw[dV,Oper.upon_value,hd];exact hn _ _ _ _ _ hK (r.BF h1 (.str _))
  ·cases h4
 ·cases h
def MI(h:aP P c.nt o K fr H)(r:aX c m fr H a w)
(hn:∀m' ak H' a' w',K ak H'->aX c m' ak H' a' w'->next a' w'):o.wp P a w next Q:=by
 unfold aP at h;split at h
 ·exact zwE ‹_› h r hn
 ·exact ME h r hn
 ·exact ME h r hn
 ·rename_i t x i ho;rcases h with h|⟨u,l,es,cs,k,j,e,g,z,rfl,a2,a3,a4,a5,a6,a7⟩
  ·exact ME h r hn
  ·obtain⟨m',_,r',_⟩:=zxB r a2;refine ME ?_ r' hn
   have hi:be (fr.put u (.v (.slice (J ⟨H.n,0,J es⟩) l l))) i=J (.int k j):=by
    rw[<-a3];cases i with
    |tmp t2=>
     by_cases hh:t2=u
     ·subst hh;simp[be,a2]at a3
     ·simp[be,FR.put,hh]
    |_=>rfl
   rw[ho];simp only[iN,bO,hi,a4,a5];have hp:(fr.put u (.v (.slice (J ⟨H.n,0,J es⟩) l l))) u=.v (.slice (J ⟨H.n,0,J es⟩) l l):=by simp[FR.put]
   rw[hp];simp only;rw[aD ⟨trivial,a6.1,a6.2⟩,gE];exact a7
 ·exact zuo ‹_› h r hn
 ·exact zxo ‹_› h r hn
 ·exact zpt ‹_› h r hn
 ·exact zuu ‹_› h r hn
 ·exact zv9 ‹_› h r hn
 ·exact zqg ‹_› h r hn
 ·exact zs3 ‹_› h r hn
 ·exact zvF ‹_› h r hn
 ·exact zvG ‹_› h r hn
 ·exact zpz (.inl ‹_›) h r hn
 ·exact zpz (.inr ‹_›) h r hn
 ·rename_i s t x ho;rcases h with h|⟨⟨h1,h2,h3⟩,l,ns,h4,h5⟩
  ·exact O3 h r hn
  ·cases hd:o.dst with
   |none=>rw[hd]at h3;cases h3
   |some d=>
    refine TE ?_ r hn;have hb:=h1;unfold uH at hb;cases he:cW P s with
    |none=>rw[he]at hb;cases hb
    |some e=>
     rw[he]at hb;simp only at hb
     have hp:d<c.nt/\K (fr.put d (.v (.string (yd ns)))) H:=by
      rw[hd]at h5;simp only[bC]at h5;split at h5
      ·rename_i VG;exact⟨VG,h5⟩
      ·cases h5
     simp only[fC,ho,hd];refine⟨⟨hp.1,h1,h2⟩,?_⟩
     have hs:iD P s fr H x=J (ns.map (Value.int .u8),l):=by
      unfold GG at h4;split at h4
      ·split at h4
       ·rename_i u _ len es cells hf;split at h4
        ·rename_i Q6;cases h4;unfold iD;rw[he];simp only;split at hb
         ·rename_i ht;rw[ht];simp only[hf];rw[aD Q6]
         ·cases hb
        ·cases h4
       ·cases h4
      ·cases h4
     rw[hs];exact⟨ns,rfl,hp.2⟩
 ·exact O3 h r hn
def zoP(r:aX c m fr H a w){j:Nat}{y:Option Bool}(h:py fr (ops.toList.map (·.dst)) j=J y):yielded ops a.tmps j=y:=by
 unfold py at h;split at h
 ·rename_i d hd
  have iw:(ops[j]?).bind (·.dst)=J d:=by
   rw[Ew]at hd;cases hj:ops[j]? with
   | none => have:ops.toList[j]? =ae:=by simpa using hj
             rw[this]at hd;cases hd
   | some o => have:ops.toList[j]? =J o:=by simpa using hj
               rw[this]at hd;simpa using hd
  have hf:=r.f d;unfold RF at hf;unfold yielded;rw[iw];split at h
  ·rename_i b hb;cases h;rw[hb]at hf;have:=LM hf;simp only[xF]at this;cases hq:a.tmps[d]? with
   |none=>rw[hq]at this;cases this
   |some v=>rw[hq]at this;simp at this;subst this;simp[hq]
  ·rename_i hb;cases h;rw[hb]at hf;simp only[xF]at hf;cases hq:a.tmps[d]? with
   |none=>simp[hq]
   |some v=>rw[hq]at hf;simp at hf;subst hf;simp[hq,undef]
  ·cases h
 ·cases h
def zyz(h:nm P c.nt (ops.toList.map (·.dst)) o K fr H)(r:aX c m fr H a w)
(hn:∀m' ak H' a' w',K ak H'->aX c m' ak H' a' w'->next a' w'):
 if Region.wanted o (yielded ops a.tmps)=Z then o.wp P a w next Q else next (a.put o.dst undef) w:=by
 unfold nm at h;split at h
 ·rename_i hg;rw[aD (by simp[Region.wanted,hg])];exact MI h r hn
 ·rename_i j b hg;split at h
  ·rename_i y hy;have iL:=zoP r hy;split at h
   ·rename_i e;rw[aD (by simp[Region.wanted,hg,iL,e])];exact MI h r hn
   ·rename_i e;rw[aB (by simp[Region.wanted,hg,iL,e])];exact PQ h r hn
  ·cases h
def zvI(h:BI P c.nt (ops.toList.map (·.dst)) o K fr H)(r:aX c m fr H a w)
(hn:∀m' ak H' a' w',K ak H'->aX c m' ak H' a' w'->next a' w'):
 if Region.wanted o (yielded ops a.tmps)=Z then o.wp P a w next Q else next (a.put o.dst undef) w:=by
 unfold BI at h;split at h
 ·rename_i hg;rcases h with h|h
  ·rw[aD (by simp[Region.wanted,hg])];exact MI h r hn
  ·rw[aD (by simp[Region.wanted,hg])];exact TE h r hn
 ·rename_i j b hg;split at h
  ·rename_i y hy;have iL:=zoP r hy;split at h
   ·rename_i e;rw[aD (by simp[Region.wanted,hg,iL,e])];exact h.elim (λh=>MI h r hn) λh=>TE h r hn
   ·rename_i e;rw[aB (by simp[Region.wanted,hg,iL,e])];exact PQ h r hn
  ·cases h
def zwu :∀(l:List Oper) {m:Mu}{fr:FR}{H:AH}{a:Act}{w:World},nr P c.nt (ops.toList.map (·.dst)) l K fr H->aX c m fr H a w->
 (∀m' ak H' a' w',K ak H'->aX c m' ak H' a' w'->Q .normal a' w')->wpList P ops Q l a w:=by
 intro l;induction l with
 |nil=>intro m fr H a w h r hn;exact hn m fr H a w h r
 |cons o l ih=>
  intro m fr H a w h r hn;rw[zrl]at h;refine wpList_step λKK hKK=>?_
  exact zvI h r λm' ak H' a' w' h' r'=>hKK _ _ (ih h' r' hn)
end
end Go.Am
