import Derived.Test.YtnojafnlicbhpaaGreatAmJ
import Derived.Tactics
import Derived.Laws.BytesString
import Derived.Lib.AppendZerosOnto
open Option renaming none→ae,some→J
open Bool renaming true→Z
set_option linter.defProp false
namespace Go.Am
def cT:=@List.getElem?_eq_some_iff
def dG:=@Int.toNat_natCast
def fJ:=@Int.eq_ofNat_of_zero_le
def mL:=@List.nil_append
def wb:=@Nat.mul_comm
def C8:=@Int.natCast_mul
def C9:=@Array.getElem?_eq_getElem
def Da:=@List.getElem?_map
def Gu:=@List.length_map
def Kv:=@Nat.mul_one
def Uc:=@Nat.eq_zero_or_pos
def Aan:=@Nat.le_of_eq
section
variable {c:qU}{m:Mu}{fr:FR}{H:AH}{a:Act}{w:World}{P:Program}{K:FR->AH->Prop}{next:Act->World->Prop}
variable{Q:Exit->Act->World->Prop}{o:Oper}{ops:Array Oper}
def VG{x:Operand}(ho:o.op=.move x\/o.op=.assign x)
(h:match bM fr x with
 |some (.lp s off)=>bB c.nt K o.dst (.lp s off) fr H
 |_=>dw P c.nt o K fr H)(r:aX c m fr H a w)
(hn:∀m' ai H' a' w',K ai H'->aX c m' ai H' a' w'->next a' w'):o.wp P a w next Q:=by
 split at h
 ·rename_i s off hx;have hv:=r7 r hx;have dS:(execOp a.eval o).run P w=.ok (.value (a.eval x)) w:=by rcases ho with ho|ho<;>simp[execOp,ho]
  unfold Oper.wp;rw[dS];exact V7 h r hv hn
 ·exact Oa h r hn
def zvW{args:Array Operand}{gY:Array TypeId}(ho:o.op=.call ⟨.builtin .copy,args,gY⟩)
(h:match args.toList,gY.toList with
 |[x,y],[t,_]=>match cR P t,be fr x,iy P t fr H y with
  |some e,J (.slice (J ⟨id,off,J bw⟩) n cc),J (cs,l)=>match cA P e,H.b id with
   |some (_,es,_,_),J k=>if n<=cc/\es=bw/\k.rw=Z/\es≠0/\0<min l n/\(cs.take (min l n*es)).all lN=Z then
    match fW k.cells off (cs.take (min l n*es))with
    |some eU=>bB c.nt K o.dst (.v (.int .i64 (min l n:Nat))) fr (H.set id (J ⟨Z,eU⟩))
    |none=>False
    else False
   |_,_=>False
  |_,_,_=>False
 |_,_=>False)(r:aX c m fr H a w)
(hn:∀m' ai H' a' w',K ai H'->aX c m' ai H' a' w'->next a' w'):o.wp P a w next Q:=by
 split at h
 ·rename_i x y t t' hargs htys;split at h
  ·rename_i e id off bw n cc cs l he hx iX;split at h
   ·rename_i g es cz z k ht hk;split at h
    ·rename_i kX;obtain⟨c2,c3,c4,c5,c6,c7⟩:=kX;subst c3;split at h
     ·rename_i eU dj;obtain⟨i,zv,hi,hz,jj,eA,na,_,hs⟩:=jB (w:=w) ht;have hu:=pe he;have hv:=f8 r hx;have ea:args= #[x,y]:=by apply sD;simpa using hargs
      have et:gY= #[t,t']:=by apply sD;simpa using htys
      obtain⟨hlen,ad,cap,hzy,hc⟩:=D2 r he ht iX;obtain⟨b,o',ys,hb,q1,q2⟩:=hc (by omega);subst hb;have hq:min l n*es<=cs.length:=by rw[hlen];exact gA _ (Nat.min_le_left _ _)
      have d7:Vl m (cs.take (min l n*es)) (ys.take (min l n*es)):=q1.take _;have BQ:(ys.take (min l n*es)).length=min l n*es:=by rw[nu];have:=q1.1;omega
      have hne:cs.take (min l n*es)≠[]:=λe0=>by
       have e1:(cs.take (min l n*es)).length=0:=by rw[e0];rfl
       have:=Ua c6 (Ov c5);rw[nu,Nat.min_eq_left hq]at e1;omega
      obtain⟨bF,e',g1,g2,g3⟩:=r.Jb hk c4 dj d7 hne;generalize sV:a.eval x=u at hv;cases hv with
      |slice bY k1 k2 k3 k4=>
       rename_i o'' Acs;have ho':=k3 (by omega);subst ho';have dH:=run_storeCells_at P (m.f id).bq ((m.f id).base+off) e' (ys.take (min l n*es)) 0 bF w g1 (by simpa[iN]using g2) (DO d7 c7);simp only[rb]at dH
       have hfc:=run_firstCells_some (P:=P) w es (min l n) ⟨b,o',ae⟩ l cap (ys.take (min l n*es)) BQ λj v hj=>q2 j v (by
        rw[l6]at hj;split at hj
        ·exact hj
        ·cases hj)
       have dS:(execOp a.eval o).run P w=.ok (.value (goInt ((min l n:Nat):Int))) (w.setRow (m.f id).bq (bF.toList.take ((m.f id).base+off)++ys.take (min l n*es)++bF.toList.drop ((m.f id).base+off+(ys.take (min l n*es)).length)).toArray):=by
        simp[execOp,ho,resolve,ea,et,invoke,builtin,Builtin.copy_,jy hu,sV,hzy,Builtin.lenOf,sizeOf,typeInfo,hi,eA,hfc,dH]
       unfold Oper.wp;rw[dS];exact nM h g3 (.int _ _) hn
     ·cases h
    ·cases h
   ·cases h
  ·cases h
 ·cases h
def nm(P:Program)(nt:Nat)(pre:List (Option Tmp))(o:Oper)(K:FR->AH->Prop)(fr:FR)(H:AH):Prop:=
 match o.guard with
 |none=>aM P nt o K fr H
 |some (j,b)=>match oM fr pre j with
  |some y=>if y=J b then aM P nt o K fr H else bB nt K o.dst .skip fr H
  |none=>False
def zA(P:Program)(nt:Nat)(pre:List (Option Tmp))(o:Oper)(K:FR->AH->Prop)(fr:FR)(H:AH):Prop:=
 match o.guard with
 |none=>aM P nt o K fr H\/fj P nt o K fr H
 |some (j,b)=>match oM fr pre j with
  |some y=>if y=J b then aM P nt o K fr H\/fj P nt o K fr H else bB nt K o.dst .skip fr H
  |none=>False
theorem zrx(pre:List (Option Tmp))(o:Oper)(l:List Oper)(nt:Nat):mW P nt pre (o::l) K fr H=zA P nt pre o (mW P nt pre l K) fr H:=rfl
def zt9{c:qU}{m:Mu}{fr:FR}{H:AH}{a:Act}{w:World}{P:Program}{K:FR->AH->Prop}{next:Act->World->Prop}{args:Array Operand}{gY:Array TypeId}(ho:o.op=.call ⟨.builtin .append,args,gY⟩){s x:Operand}{t t' e:TypeId}(hargs:args.toList=[s,x])(htys:gY.toList=[t,t']){n:Int}
(he:cR P t=J e)(hx:be fr x=J (.int .i64 n)){g:Bool}{es cz:Nat}{z:List Value}(ht:cA P e=J (g,es,cz,z))(h2:(jW P t').isSome=Z)(c1:0<n)(c2:cz*n<=140737488355328)(c3:n<=4611686018427387904)(c6:es≠0)(c5:z.length=es)(c7:z.all cr=Z)
{sv v:Value}{H':AH}(hs:be fr s=J sv)(cU:rW P t sv (List.replicate n.toNat z).flatten n.toNat H=J (v,H'))(hK:bB c.nt K o.dst (.v v) fr H')(r:aX c m fr H a w)
(hn:∀m' ai H' a' w',K ai H'->aX c m' ai H' a' w'->next a' w'):o.wp P a w next Q:=by
 obtain⟨kn,hk⟩:=Gq.1 h2
 have Au:P.underlying t'=J (.int kn):=by
  unfold jW at hk;split at hk
  ·rename_i hu;cases hk;exact hu
  ·cases hk
 obtain⟨i,zv,hi,hz,jj,eA,na,_,mB⟩:=jB (w:=w) ht;have hu:=pe he;have e1:=Ar (f8 r hx);have hv:=f8 r hs;have ea:args= #[s,x]:=by apply sD;simpa using hargs
 have et:gY= #[t,t']:=by apply sD;simpa using htys
 obtain⟨k,rfl⟩:=fJ (show 0<=n by omega);rw[dG]at cU;have vn:zv.cells=z.toArray:=by rw[<-jj]
 have GT:k*i.bytes<=140737488355328:=by
  rw[na,wb];have:((cz*k:Nat):Int)<=140737488355328:=by rw[C8];exact c2
  omega
 have Nk:(Builtin.zeroCells zv.cells k).toList=(List.replicate k z).flatten:=by
  unfold Builtin.zeroCells;rw[vn];have:=HO z k;simpa using this
 have W3:Builtin.zeroCells zv.cells k=((List.replicate k z).flatten).toArray:=by rw[<-Nk]
 have pY:∀x,x∈(List.replicate k z).flatten->x∈z:=λx hx=>by
  rw[Ku]at hx;obtain⟨l',Bk,g9⟩:=hx
  rwa [(nr.1 Bk).2]at g9
 have d7:Vl m ((List.replicate k z).flatten) ((List.replicate k z).flatten):=BH (bm.2 λx hx=>bm.1 c7 x (pY x hx));have hlen:(List.replicate k z).flatten.length=k*es:=by rw[T8];simp[c5]
 have hkw:IntKind.i64.wrap (k:Int)=k:=by rw[IntKind.wrap_i64];omega
 refine zua he ht jj (by omega) hlen d7 hv cU hK r ?_ ?_ hn
 ·intro s0 cg eB f7 dU hol holds kY hg DK hb;have gK:(cg+k)*i.bytes<=140737488355328:=by rw[na];exact hb
  have hfit:=growslice_fits hg gK
  have Ek:=Lib.run_append_grow_zeros (P:=P) w t t' o.type e i zv .i64 kn hu Au hi hz s0 cg eB f7 (by
   cases s0 with
   |none=>
    obtain⟨rfl,rfl⟩:=kY rfl;have ho:f7=[]:=mK (by simpa using hol);subst ho;simp[run_firstCells_none]
   |some b=>exact run_firstCells_some (P:=P) w.drew i.size cg b cg eB f7 (by rw[eA];exact hol) (holds b rfl)) k (by omega) (by omega) hg (by omega) (by omega) hfit
  simp only[execOp,ho,resolve,ea,et,Sem.run_bind,Sem.run_pure,Result.andThen_ok,invoke,builtin,T9,jD,p8,dU,e1,Ek,W3]
 ·intro bq off sl cap bF e' dU hw nA hfit ym;have dH:=run_storeCells_at P bq (off+sl*es) e' ((List.replicate k z).flatten) 0 bF w hw (by simpa using hfit) (bm.1 ym);simp only[rb]at dH;have Ab0:¬((k:Int)<0):=by omega
  have hns:¬(k*i.size=0):=Nat.mul_ne_zero (by omega) (by rw[eA];exact c6);have Aa3:k*es≠0:=Nat.mul_ne_zero (by omega) c6;have Acz:off+sl*es+k*z.length=off+sl*es+(List.replicate k z).flatten.length:=by rw[hlen,c5]
  have AaS:¬(281474976710656<(k:Int)*(i.bytes:Int)):=by
   rw[<-C8];omega
  have Ek:(Builtin.append_ #[t,t'] o.type #[.slice (J ⟨bq,off,ae⟩) sl cap,.int .i64 k]).run P w=.ok (.slice (J ⟨bq,off,ae⟩) (sl+k) cap) (w.setRow bq (bF.toList.take (off+sl*es)++(List.replicate k z).flatten++bF.toList.drop (off+sl*es+(List.replicate k z).flatten.length)).toArray):=by
   simp[Builtin.append_,run_underlying hu,run_underlying Au,sizeOf,typeInfo,zeroValue,hi,hz,asInt,asIntOf,hkw,Ab0,Aa3,AaS,nA,W3,vo,eA,dH]
  simp only[execOp,ho,resolve,ea,et,Sem.run_bind,Sem.run_pure,Result.andThen_ok,invoke,builtin,T9,jD,p8,dU,e1,Ek]
def zwi:∀(ns:List Int) (r:List UInt8),ns.foldl (λ(r:ByteArray) n=>r.push (UInt8.ofNat n.toNat)) ⟨r.toArray⟩=⟨(r++ns.map λn=>UInt8.ofNat n.toNat).toArray⟩:=by
 intro ns;induction ns with
 |nil=>intro r;simp
 |cons n ns ih=>
  intro r;rw[Or];have:(ByteArray.mk r.toArray).push (UInt8.ofNat n.toNat)=⟨(r++[UInt8.ofNat n.toNat]).toArray⟩:=by simp[ByteArray.push]
  rw[this,ih];simp
def zwT{t:TypeId}(h:sM P t=Z):∃e,P.underlying t=J (.slice e)/\P.underlying e=J (.int .u8):=by
 unfold sM at h;split at h
 ·rename_i e he;split at h
  ·rename_i hi _;refine⟨e,pe he,?_⟩;unfold jW at hi;split at hi
   ·rename_i hu;cases hi;exact hu
   ·cases hi
  ·cases h
 ·cases h
def RA(h:fj P c.nt o K fr H)(r:aX c m fr H a w)
(hn:∀m' ai H' a' w',K ai H'->aX c m' ai H' a' w'->next a' w'):o.wp P a w next Q:=by
 have key:∀{cells:List Value}{cs:Array Value}(e:TypeId) (d:Nat),d<c.nt->Vl m cells cs.toList->
  aX c (m.push ⟨w.heap.size,0,cs.size⟩) (fr.put d (.v (.pointer (J ⟨H.n,0,ae⟩)))) (H.push ⟨Z,cells⟩) {a with tmps:=a.tmps.setIfInBounds d (.pointer (J ⟨w.heap.size,0,ae⟩))} (w.alloc (.cells cs e)):=by
  intro cells cs e d hd hv;have hl:cells.length=cs.size:=by simpa using hv.1
  have r':=r.fresh (size:=cs.size) e (cy _) (Aan hl) λj v hj=>by
   obtain⟨y,hy,hV⟩:=hv.get hj;exact⟨y,by simpa using hy,hV⟩
  refine r'.yU hd ?_;have hf:=m.Ab ⟨w.heap.size,0,cs.size⟩;have:=V.ptr (m:=m.push ⟨w.heap.size,0,cs.size⟩) (id:=m.n) (off:=0) (by simp[Mu.push]);rw[hf,r.h.n]at this;exact this
 unfold fj at h;split at h
 ·rename_i e d ho hd;split at h
  ·rename_i g sz cz z ht;obtain⟨h1,h2,h3⟩:=h;obtain⟨i,zv,hi,hz,jj,_,_,_,_⟩:=jB (w:=w) ht
   have dS:(execOp a.eval o).run P w=.ok (.value (.pointer (J ⟨w.heap.size,0,ae⟩))) (w.alloc (.cells zv.cells e)):=by
    simp[execOp,ho,Instr.alloc,zeroValue,typeInfo,hi,hz,newVar,newRow]
   unfold Oper.wp;rw[dS,Oper.upon_value,hd];exact hn _ _ _ _ _ h3 (key e d h1 (by rw[jj];exact BH h2))
  ·cases h
 ·rename_i e x d ho hd;split at h
  ·rename_i q v ht hx;obtain⟨h1,h2,h3⟩:=h;have hv:=f8 r hx;have hne:v≠.tuple #[]:=λe=>by rw[e]at h2;simp[ml]at h2
   have dS:(execOp a.eval o).run P w=.ok (.value (.pointer (J ⟨w.heap.size,0,ae⟩))) (w.alloc (.cells (a.eval x).cells e)):=by
    simp[execOp,ho,Instr.box,newVar,newRow]
   unfold Oper.wp;rw[dS,Oper.upon_value,hd];exact hn _ _ _ _ _ h3 (key e d h1 (hv.cells hne))
  ·cases h
 ·rename_i op t x y u d ho hd;obtain⟨⟨h1,h2,h3⟩,h4⟩:=h;obtain⟨e,he⟩:=Gq.1 h3
  have hy:y=.const (.slice ae 0 0):=by
   unfold v6 at h2;split at h2
   ·rfl
   ·cases h2
  have run:∀(q:Bool) (s:Option Addr) (k l:Nat),J2 op=J q->a.eval x=.slice s k l->(execOp a.eval o).run P w=.ok (.value (.bool (if q=Z then s.isNone else !s.isNone))) w:=by
   intro q s k l hq hx
   have hu:P.underlying t=J (.slice e):=by
    unfold cR at he;split at he
    ·rename_i hu;cases he;exact hu
    ·cases he
   have wM:∀d',(Op.equalIn (d'+1) t (.slice s k l) (.slice ae 0 0)).run P w=.ok s.isNone w:=by
    intro d';cases s<;>simp[Op.equalIn,underlying,hu]
   have xj:(Op.equalIn 10000 t (.slice s k l) (.slice ae 0 0)).run P w=.ok s.isNone w:=wM 9999;have hc:a.eval (.const (.slice ae 0 0))=.slice ae 0 0:=rfl;cases op<;>simp only[J2,aT]at hq<;>first|(cases hq;done)|skip
   all_goals subst hq
   all_goals simp[execOp,ho,hy,hx,hc,eqGuard,binOp,Op.equal,Op.maxDepth,xj]
  have Aad:∀b,K (fr.put d (.v (.bool b))) H->(execOp a.eval o).run P w=.ok (.value (.bool b)) w->o.wp P a w next Q:=by
   intro b hK dS;unfold Oper.wp;rw[dS,Oper.upon_value,hd];exact hn _ _ _ _ _ hK (r.yU h1 (.bool b))
  split at h4
  ·rename_i q hq hx;have hv:=f8 r hx;generalize hz:a.eval x=z at hv;cases hv with
   |mH s=>exact Aad _ (h4 _) (run _ _ _ _ hq hz)
  ·rename_i q s' n' c' hq hx;have hv:=f8 r hx;generalize hz:a.eval x=z at hv;cases hv with
   |slice bY a1 a2 a3 a4=>
    have:=run _ _ _ _ hq hz;refine Aad _ h4 ?_;rw[this];cases q<;>rfl
  ·cases h4
 ·rename_i args gY d ho hd;split at h
  ·rename_i x t hargs htys;obtain⟨h1,h2,h3,h4⟩:=h;obtain⟨e,he⟩:=Gq.1 h2;have hu:=pe he;have hv:=f8 r h3;have ea:args= #[x]:=by apply sD;simpa using hargs
   have et:gY= #[t]:=by apply sD;simpa using htys
   generalize hz:a.eval x=z at hv;cases hv with
   |mH s0=>
    have dS:(execOp a.eval o).run P w=.ok (.value (.int .i64 0)) w:=by
     simp[execOp,ho,resolve,ea,et,invoke,builtin,Builtin.cap_,jy hu,goInt,hz]
    unfold Oper.wp;rw[dS,Oper.upon_value,hd];exact hn _ _ _ _ _ h4 (r.yU h1 (.int _ _))
  ·cases h
 ·rename_i args gY d ho hd;split at h
  ·rename_i s x t t' hargs htys;split at h
   ·rename_i e n he hx;split at h
    ·rename_i g es cz z ht;rcases h with h|⟨⟨h1,h2,c1,c2,c3,c5,c6,c7⟩,sv,v,RS,fL,cU,h4⟩
     rotate_left
     ·refine zt9 (K:=K) ho hargs htys he hx ht h2 c1 c2 c3 c6 c5 c7 fL cU ?_ r hn;rw[hd];simp only[bB];rw[aB h1];exact h4
     obtain⟨⟨h1,h2,h3,c1,c2,c3,c5,c6,c7⟩,h4⟩:=h;obtain⟨kn,hk⟩:=Gq.1 h2
     have Au:P.underlying t'=J (.int kn):=by
      unfold jW at hk;split at hk
      ·rename_i hu;cases hk;exact hu
      ·cases hk
     obtain⟨i,zv,hi,hz,jj,eA,na,_,hs⟩:=jB (w:=w) ht;have hu:=pe he;have e1:=Ar (f8 r hx);have hv:=f8 r h3;have ea:args= #[s,x]:=by apply sD;simpa using hargs
     have et:gY= #[t,t']:=by apply sD;simpa using htys
     obtain⟨k,rfl⟩:=fJ (show 0<=n by omega);have vn:zv.cells=z.toArray:=by rw[<-jj]
     have GT:k*i.bytes<=140737488355328:=by
      rw[na,wb];have:((cz*k:Nat):Int)<=140737488355328:=by rw[C8];exact c2
      omega
     generalize sV:a.eval s=y at hv;cases hv with
     |mH s0=>
      have hfit:=growslice_fits (old:=0) (need:=0+k) (by omega) (by rw[gk];exact GT)
      have Ek:=Lib.run_append_grow_zeros (P:=P) w t t' o.type e i zv .i64 kn hu Au hi hz s0 0 0 [] (by
       cases s0 with
       |none=>simp[run_firstCells_none]
       |some b=>exact run_firstCells_some (P:=P) w.drew i.size 0 b 0 0 [] (by simp) (by simp)) k (by omega) (by omega) (by omega) (by omega) (by omega) hfit
      rw[gk]at Ek
      have dS:(execOp a.eval o).run P w=.ok (.value (.slice (J ⟨w.heap.size,0,ae⟩) k (grownCap w k 0 e))) (w.drew.alloc (.cells (([]:List Value).toArray++Builtin.zeroCells zv.cells k++Builtin.zeroCells zv.cells (grownCap w k 0 e-k)) e)):=by
       simp only[execOp,ho,resolve,ea,et,Sem.run_bind,Sem.run_pure,Result.andThen_ok,invoke,builtin,T9,jD,p8,sV,e1,Ek]
      have q9:=grownCap_ge w k 0 e
      have Bl:Vl m ((List.replicate k z).flatten) (Builtin.zeroCells zv.cells k).toList:=by
       have:(Builtin.zeroCells zv.cells k).toList=(List.replicate k z).flatten:=by
        unfold Builtin.zeroCells;rw[vn];have:=HO z k;simpa using this
       rw[this]
       exact BH (bm.2 λx hx=>by
        rw[Ku]at hx;obtain⟨l',Bk,g9⟩:=hx;rw[(nr.1 Bk).2]at g9
        exact bm.1 c7 x g9)
      obtain⟨g1,g2,g3⟩:=Tq (es:=es) (k:=grownCap w k 0 e) (need:=k) (zv:=zv) (Vl.nil _) Bl (by simp[c5]) (by rw[vn];simpa using c5) q9;unfold Oper.wp;rw[dS,Oper.upon_value,hd];simp only[mL,Array.toArray_toList]at g1 g2 g3;have r2:=r.drew.fresh (size:=grownCap w k 0 e*es) e g1 g2 g3;exact hn _ _ _ _ _ h4 (r2.yU h1 (LI r.h.n (cy _) _ (cy _) q9))
    ·cases h
   ·cases h
  ·cases h
 ·rename_i args gY ho hd;split at h
  ·rename_i x t hargs htys;split at h
   ·rename_i e id off bw n cc he hx;split at h
    ·rename_i g es cz z k ht hk;obtain⟨⟨c1,c2,c3,c4,c5,c6,c7,c8⟩,cs,dj,h4⟩:=h;subst c3;obtain⟨i,zv,hi,hz,jj,eA,na,_,hs⟩:=jB (w:=w) ht;have hu:=pe he;have hv:=f8 r hx;have ea:args= #[x]:=by apply sD;simpa using hargs
     have et:gY= #[t]:=by apply sD;simpa using htys
     have vn:zv.cells=z.toArray:=by rw[<-jj]
     have Nk:(Builtin.zeroCells zv.cells n).toList=(List.replicate n z).flatten:=by
      unfold Builtin.zeroCells;rw[vn];have:=HO z n;simpa using this
     have pY:∀x,x∈(List.replicate n z).flatten->x∈z:=λx hx=>by
      rw[Ku]at hx;obtain⟨l',Bk,g9⟩:=hx
      rwa [(nr.1 Bk).2]at g9
     have d7:Vl m ((List.replicate n z).flatten) ((List.replicate n z).flatten):=BH (bm.2 λx hx=>bm.1 c7 x (pY x hx));have hlen:(List.replicate n z).flatten.length=n*es:=by rw[T8];simp[c5]
     have hne:(List.replicate n z).flatten≠[]:=λe0=>by
      rw[e0]at hlen;have:=Ua (Ov c1) (Ov c6);simp at hlen;omega
     obtain⟨bF,e',g1,g2,g3⟩:=r.Jb hk c4 dj d7 hne;generalize sV:a.eval x=y at hv;cases hv with
     |slice bY k1 k2 k3 k4=>
      rename_i o' cap;have ho':=k3 (by omega);subst ho';have dH:=run_storeCells_at P (m.f id).bq ((m.f id).base+off) e' ((List.replicate n z).flatten) 0 bF w g1 (by simpa[iN]using g2) (DO d7 (bm.2 λx hx=>bm.1 c8 x (pY x hx)));simp only[rb]at dH
      have dS:(execOp a.eval o).run P w=.ok (.value (.tuple #[])) (w.setRow (m.f id).bq (bF.toList.take ((m.f id).base+off)++(List.replicate n z).flatten++bF.toList.drop ((m.f id).base+off+(List.replicate n z).flatten.length)).toArray):=by
       cases n with
       |zero=>exact absurd rfl c1
       |succ n=>
        simp[execOp,ho,resolve,ea,et,invoke,builtin,Builtin.clear_,jy hu,sV,zeroValue,typeInfo,hi,hz,Nk,dH]
      unfold Oper.wp;rw[dS,Oper.upon_value,hd];exact hn m fr _ a _ h4 (by simpa[iN]using g3)
    ·cases h
   ·cases h
  ·cases h
 ·obtain⟨ts,ai,H',h1,h2⟩:=h;obtain⟨m',r'⟩:=zwk r h1;exact Oa h2 r' hn
 ·rename_i q d ho hd;obtain⟨s,cells,⟨h1,h2,h3,h4⟩,h5⟩:=h;obtain⟨m',_,r1,hV⟩:=XW r h4;have hf:=r.f q;unfold RF at hf;rw[h3]at hf;obtain⟨b,e1,e2⟩:=hf cells h4;rw[e1,<-e2]at hV;have hq:q<a.tmps.size:=by rw[r.sz];exact h2
  have r2:=r1.yU h2 hV
  have ea:a.tmps.setIfInBounds q (a.tmps.getD q undef)=a.tmps:=by
   apply Array.ext_getElem?;intro i;rw[Aaj];split
   ·rename_i e;subst e;try simp only[Array.getD,dif_pos hq,aB hq]
    first|exact(C9 hq).symm|simp[hq]
   ·rfl
  rw[ea]at r2;have r3:=r2.yU h1 hV;have dS:(execOp a.eval o).run P w=.ok (.value (a.eval (.tmp q))) w:=by simp[execOp,ho]
  unfold Oper.wp;rw[dS,Oper.upon_value,hd];exact hn m' _ _ _ _ h5 r3
 ·rename_i s t x d ho hd;obtain⟨⟨h1,h2,h3⟩,h4⟩:=h;obtain⟨e,hu,yM⟩:=zwT h2
  have Mm:P.underlying t=J .string:=by
   unfold dW at h3;split at h3
   ·rename_i hu;exact hu
   ·cases h3
  have conv:∀(b:Option Addr) (n cc:Nat) (ns:List Int),a.eval x=.slice b n cc->(∀ad,b=J ad->(loadCells ad n).run P w=.ok (ns.map (Value.int .u8)).toArray w)->(b=ae->ns=[])->
   (execOp a.eval o).run P w=.ok (.value (.string (xL ns))) w:=by
   intro b n cc ns hz hl h0
   have:(Conv.bytesToString (.slice b n cc)).run P w=.ok (.string (xL ns)) w:=by
    cases b with
    |none=>rw[h0 rfl];rfl
    |some ad=>
     rw[run_bytesToString w ad n cc ns (hl ad rfl)];have:=zwi ns [];simp only[mL]at this;rw[show ByteArray.empty=⟨([]:List UInt8).toArray⟩from rfl,this];rfl
   simp[execOp,ho,hz,run_convert_bytes_string w s t e b n cc hu yM Mm,this]
  split at h4
  ·rename_i cs n iX;obtain⟨ns,rfl,hK⟩:=h4
   obtain⟨e0,g,es,cz,z,he,ht⟩:∃e0 g es cz z,cR P s=J e0/\cA P e0=J (g,es,cz,z):=by
    unfold iy at iX;split at iX
    ·cases iX
    ·rename_i e0 he;split at iX
     ·cases iX
     ·rename_i ht;exact⟨_,_,_,_,_,he,ht⟩
   have QM:es=1:=by
    unfold sM at h2;rw[he]at h2;simp only[ht]at h2;split at h2
    ·rename_i hh;cases hh;rfl
    ·cases h2
   obtain⟨hlen,ad,cap,hz,hc⟩:=D2 r he ht iX;subst QM;simp only[Gu,Kv]at hlen
   have dS:=conv ad n cap ns hz (λI1 Ke=>by
    rcases Uc n with sg|qD
    ·subst sg;have:ns=[]:=mK hlen;subst this;simp[loadCells,loadCellsFrom]
    ·obtain⟨b,o',ys,hb,q1,q2⟩:=hc qD;rw[Ke]at hb;cases hb
     have zG:ys=ns.map (Value.int .u8):=by
      apply List.ext_getElem?;intro i;cases hi:ys[i]? with
      |none=>
       have:ys.length<=i:=List.getElem?_eq_none_iff.1 hi;have h9:=q1.1;rw[AY (by omega)]
      |some y=>
       have cF:i<ys.length:=(cT.1 hi).1;have h9:=q1.1;have:(ns.map (Value.int .u8))[i]? =J ((ns.map (Value.int .u8))[i]'(by omega)):=cE (by omega);have Ji:=q1.2 i _ y this hi;rw[this];simp only[List.getElem_map]at Ji⊢;rw[Ar Ji]
     have hL:=run_loadCells_list (P:=P) w ⟨b,o',ae⟩ ys q2;have Abu:ys.length=n:=by rw[zG];simpa using hlen
     rw[Abu,zG]at hL;exact hL) (λKe=>by
    rcases Uc n with sg|qD
    ·subst sg;exact mK hlen
    ·obtain⟨b,o',ys,hb,_,_⟩:=hc qD
     rw[Ke]at hb;cases hb)
   unfold Oper.wp;rw[dS,Oper.upon_value,hd];exact hn _ _ _ _ _ hK (r.yU h1 (.str _))
  ·cases h4
 ·cases h
def M9(h:aM P c.nt o K fr H)(r:aX c m fr H a w)
(hn:∀m' ai H' a' w',K ai H'->aX c m' ai H' a' w'->next a' w'):o.wp P a w next Q:=by
 unfold aM at h;split at h
 ·exact zvO ‹_› h r hn
 ·exact Oh h r hn
 ·exact Oh h r hn
 ·rename_i t x i ho;rcases h with h|⟨u,l,es,cs,k,j,e,g,z,rfl,a2,a3,a4,a5,a6,a7⟩
  ·exact Oh h r hn
  ·obtain⟨m',_,r',_⟩:=Wi r a2;refine Oh ?_ r' hn
   have hi:be (fr.put u (.v (.slice (J ⟨H.n,0,J es⟩) l l))) i=J (.int k j):=by
    rw[<-a3];cases i with
    |tmp t2=>
     by_cases hh:t2=u
     ·subst hh;simp[be,a2]at a3
     ·simp[be,FR.put,hh]
    |_=>rfl
   rw[ho];simp only[iu,bM,hi,a4,a5];have hp:(fr.put u (.v (.slice (J ⟨H.n,0,J es⟩) l l))) u=.v (.slice (J ⟨H.n,0,J es⟩) l l):=by simp[FR.put]
   rw[hp];simp only;rw[aB ⟨trivial,a6.1,a6.2⟩,gk];exact a7
 ·exact zuB ‹_› h r hn
 ·exact zyk ‹_› h r hn
 ·exact zpe ‹_› h r hn
 ·exact zuw ‹_› h r hn
 ·exact zwV ‹_› h r hn
 ·exact zpJ ‹_› h r hn
 ·exact zty ‹_› h r hn
 ·exact zvW ‹_› h r hn
 ·exact zvY ‹_› h r hn
 ·exact VG (.inl ‹_›) h r hn
 ·exact VG (.inr ‹_›) h r hn
 ·rename_i s t x ho;rcases h with h|⟨⟨h1,h2,h3⟩,l,ns,h4,h5⟩
  ·exact Oa h r hn
  ·cases hd:o.dst with
   |none=>rw[hd]at h3;cases h3
   |some d=>
    refine RA ?_ r hn;have hb:=h1;unfold sM at hb;cases he:cR P s with
    |none=>rw[he]at hb;cases hb
    |some e=>
     rw[he]at hb;simp only at hb
     have hp:d<c.nt/\K (fr.put d (.v (.string (xL ns)))) H:=by
      rw[hd]at h5;simp only[bB]at h5;split at h5
      ·rename_i T3;exact⟨T3,h5⟩
      ·cases h5
     simp only[fj,ho,hd];refine⟨⟨hp.1,h1,h2⟩,?_⟩
     have hs:iy P s fr H x=J (ns.map (Value.int .u8),l):=by
      unfold D8 at h4;split at h4
      ·split at h4
       ·rename_i u _ len es cells hf;split at h4
        ·rename_i QM;cases h4;unfold iy;rw[he];simp only;split at hb
         ·rename_i ht;rw[ht];simp only[hf];rw[aB QM]
         ·cases hb
        ·cases h4
       ·cases h4
      ·cases h4
     rw[hs];exact⟨ns,rfl,hp.2⟩
 ·exact Oa h r hn
def VS(r:aX c m fr H a w){j:Nat}{y:Option Bool}(h:oM fr (ops.toList.map (·.dst)) j=J y):yielded ops a.tmps j=y:=by
 unfold oM at h;split at h
 ·rename_i d hd
  have gW:(ops[j]?).bind (·.dst)=J d:=by
   rw[Da]at hd;cases hj:ops[j]? with
   | none => have:ops.toList[j]? =ae:=by simpa using hj
             rw[this]at hd;cases hd
   | some o => have:ops.toList[j]? =J o:=by simpa using hj
               rw[this]at hd;simpa using hd
  have hf:=r.f d;unfold RF at hf;unfold yielded;rw[gW];split at h
  ·rename_i b hb;cases h;rw[hb]at hf;have:=Kg hf;simp only[v7]at this;cases hq:a.tmps[d]? with
   |none=>rw[hq]at this;cases this
   |some v=>rw[hq]at this;simp at this;subst this;simp[hq]
  ·rename_i hb;cases h;rw[hb]at hf;simp only[v7]at hf;cases hq:a.tmps[d]? with
   |none=>simp[hq]
   |some v=>rw[hq]at hf;simp at hf;subst hf;simp[hq,undef]
  ·cases h
 ·cases h
def zyI(h:nm P c.nt (ops.toList.map (·.dst)) o K fr H)(r:aX c m fr H a w)
(hn:∀m' ai H' a' w',K ai H'->aX c m' ai H' a' w'->next a' w'):
 if Region.wanted o (yielded ops a.tmps)=Z then o.wp P a w next Q else next (a.put o.dst undef) w:=by
 unfold nm at h;split at h
 ·rename_i hg;rw[aB (by simp[Region.wanted,hg])];exact M9 h r hn
 ·rename_i j b hg;split at h
  ·rename_i y hy;have iA:=VS r hy;split at h
   ·rename_i e;rw[aB (by simp[Region.wanted,hg,iA,e])];exact M9 h r hn
   ·rename_i e;rw[az (by simp[Region.wanted,hg,iA,e])];exact N4 h r hn
  ·cases h
def zwA(h:zA P c.nt (ops.toList.map (·.dst)) o K fr H)(r:aX c m fr H a w)
(hn:∀m' ai H' a' w',K ai H'->aX c m' ai H' a' w'->next a' w'):
 if Region.wanted o (yielded ops a.tmps)=Z then o.wp P a w next Q else next (a.put o.dst undef) w:=by
 unfold zA at h;split at h
 ·rename_i hg;rcases h with h|h
  ·rw[aB (by simp[Region.wanted,hg])];exact M9 h r hn
  ·rw[aB (by simp[Region.wanted,hg])];exact RA h r hn
 ·rename_i j b hg;split at h
  ·rename_i y hy;have iA:=VS r hy;split at h
   ·rename_i e;rw[aB (by simp[Region.wanted,hg,iA,e])];exact h.elim (λh=>M9 h r hn) λh=>RA h r hn
   ·rename_i e;rw[az (by simp[Region.wanted,hg,iA,e])];exact N4 h r hn
  ·cases h
def zwU :∀(l:List Oper) {m:Mu}{fr:FR}{H:AH}{a:Act}{w:World},mW P c.nt (ops.toList.map (·.dst)) l K fr H->aX c m fr H a w->
 (∀m' ai H' a' w',K ai H'->aX c m' ai H' a' w'->Q .normal a' w')->wpList P ops Q l a w:=by
 intro l;induction l with
 |nil=>intro m fr H a w h r hn;exact hn m fr H a w h r
 |cons o l ih=>
  intro m fr H a w h r hn;rw[zrx]at h;refine wpList_step λKK hKK=>?_
  exact zwA h r λm' ai H' a' w' h' r'=>hKK _ _ (ih h' r' hn)
end
end Go.Am
