/-
  FnReceipts: plain laws.
  No condition.
-/
import Derived.Test.YtekoabfndgochaaGreatDoorY40
namespace Go.Pm
open Go.Am
set_option linter.unusedVariables false
set_option linter.unusedSimpArgs false
theorem zxM {gr:Group}{s:ByteArray}{l:List EqualLog}{m:Nat}{x:Int}{coins:List Int}(k:OkG gr) (O:OoOk gr s l m x coins) (w:Int):∀i,i≤l.length→∀z∈(ooN gr l m w coins i).2.2.1,E9 gr.Q z
 |0,_=>by intro z hz;simp[ooN]at hz
 |i+1,hi=>by
  have h2:=zxM k O w i (by omega)
  have hq:=k.q
  have hnx:=zob gr l m w coins i
  have hc:i≠m→(ooN gr l m w coins i).2.2.2+1<coins.length:=fun e=>by
   have:=O.cl;have:=O.hm
   rw[hnx];split<;>omega
  rw[ooN]
  by_cases e:i=m
  ·rw[if_pos e]
   refine apL h2 fun z hz=>?_
   rw[List.mem_singleton]at hz;subst hz;exact⟨Int.le_refl 0,by omega⟩
  ·rw[if_neg e]
   refine apL h2 fun z hz=>?_
   rw[List.mem_singleton]at hz;subst hz;exact zhP O.hc (by have:=hc e;omega)
structure PrOk (p:Proof):Prop where
 a:p.Commits.length≤16
 b:p.Challenges.length≤8
 c:p.Responses.length≤8
 d:(zfr p).all za8=true
theorem ztr {p:Proof}(a:p.Commits.length≤16) (b:p.Challenges.length≤8) (c:p.Responses.length≤8) (d:∀z∈p.Commits,R9 z) (e:∀z∈p.Challenges,R9 z) (f:∀z∈p.Responses,R9 z):PrOk p:=by
 refine⟨a,b,c,?_⟩
 have h:∀l:List Int,l.length≤16→(∀z∈l,R9 z)→(zca l).all za8=true:=fun l hl hz=>by
  unfold zca
  rw[List.all_cons,zqa hz,Bool.and_true]
  exact zdt.2 (by omega)
 unfold zfr
 rw[List.all_append,List.all_append,h _ a d,h _ (by omega) e,h _ (by omega) f];rfl
theorem e_r {gr:Group}(k:OkG gr) {z:Int}(h:E9 gr.Q z):R9 z:=⟨h.1,by have:=h.2;have:=k.q;have:=k.p;omega⟩
theorem zxX {gr:Group}{s:ByteArray}{l:List EqualLog}{m:Nat}{x:Int}{coins:List Int}(k:OkG gr) (O:OoOk gr s l m x coins):PrOk (ooV gr s l m x coins):=by
 have hq:=k.q
 have hn:=O.hn
 obtain⟨l1,l2,l3⟩:=zkv gr l m (coins.getD (coins.length-1) 0) coins l.length
 obtain⟨g1,g2⟩:=zp0 k O (coins.getD (coins.length-1) 0) l.length (Nat.le_refl _)
 have g3:=zxM k O (coins.getD (coins.length-1) 0) l.length (Nat.le_refl _)
 have hs:∀{L:List Int}{y:Int},(∀z∈L,E9 gr.Q z)→E9 gr.Q y→∀z∈L.set m y,R9 z:=fun h hy z hz=>e_r k ((List.mem_or_eq_of_mem_set hz).elim (h z) fun e=>e▸hy)
 unfold ooV
 refine ztr (by show(ooN gr l m (coins.getD (coins.length-1) 0) coins l.length).1.length≤16;omega) ?_ ?_ g1 (hs g2 (zla (by omega) _)) (hs g3 (zla (by omega) _))
 ·show(List.set _ _ _).length≤8
  rw[List.length_set];omega
 show(List.set _ _ _).length≤8
 rw[List.length_set];omega
theorem zvB {d:List Int}:∀n,n≤d.length→smE d n=(d.take n).sum
 |0,_=>rfl
 |n+1,h=>by
  show smE d n+d.getD n 0=_
  rw[zvB n (by omega),List.take_succ_eq_append_getElem (show n<d.length by omega),List.sum_append,zkQ (show n<d.length by omega)];simp
theorem zDh {gr:Group}{ct:Contest}(h:zc7 gr ct=some true) (kg:OkG gr) (kc:OkC ct) (hf:zd9 ct=true):ct.Most-ct.Least<8:=by
 have lo:=kc.lo
 have b:=zmw kc hf
 have hm:ct.Options*zdw ct≤8*5:=Int.mul_le_mul b.1.2 b.2.1.2 (by omega) (by omega)
 obtain⟨n,h1,_⟩:=znW kc
 unfold zc7 at h
 rw[zqJ,zn8,zmz.2 kg,zp1.2 kc]at h
 simp only[h1,zkC,Bool.not_true,Bool.false_eq_true,if_false,Option.bind_some,ziB]at h
 rw[show(ct.Kind==1||ct.Kind==2)=zd9 ct from rfl,hf,zai (n:=ct.Most-ct.Least) (by omega) (by omega)]at h
 by_cases hh:ct.Most-ct.Least<8
 ·exact hh
 have e:decide (ct.Most-ct.Least<8)=false:=decide_eq_false hh
 rw[e]at h
 cases hc:(decide (100000<n)||decide (gr.Q≤n))<;>rw[hc]at h<;>cases h
structure SeOk (x:Sealed):Prop where
 v:0≤x.Voter∧x.Voter≤999999
 n:x.Ciphers.length≤8
 c:∀z∈x.Ciphers,R9 z.A∧R9 z.B
 m:x.Proofs.length≤8
 p:∀z∈x.Proofs++[x.Sum],PrOk z
theorem zoE (a:Int):zeO a=some (inB 0 999999 a):=by
 unfold zeO
 rw[zqR];rfl
noncomputable def seV (gr:Group) (key:Int) (lab:ByteArray) (d coins:List Int) (q:Nat) (voter lo:Int) (n:Nat):Sealed:=
 ⟨voter,(List.range d.length).map (svC gr key d coins q),(List.range d.length).map (svP gr key lab d coins q),ooV gr lab (stV gr key (zkT gr key d coins q) lo n) (smE d d.length-lo).toNat (srN gr.Q (svR coins q) d.length) (coins.drop (d.length*(2*q+2)))⟩
theorem zAl {gr:Group}(k:OkG gr) {key:Int}(hk:zaL gr key=true) (e r:Int):R9 (cK gr key e r).A∧R9 (cK gr key e r).B:=by
 rw[zn5 k hk]
 exact⟨zdA k gr.G _,zdA k gr.G _⟩
theorem zDu {gr:Group}{key:Int}{lab:ByteArray}{d coins:List Int}{q:Nat}(S:SvOk gr key lab d coins q) {voter lo:Int}{n:Nat}(hv:0≤voter∧voter≤999999) (O:OoOk gr lab (stV gr key (zkT gr key d coins q) lo n) (smE d d.length-lo).toNat (srN gr.Q (svR coins q) d.length) (coins.drop (d.length*(2*q+2)))):SeOk (seV gr key lab d coins q voter lo n):=by
 have hn:=S.hn
 refine⟨hv,by simpa[seV]using hn,?_,by simpa[seV]using hn,fun z hz=>?_⟩
 ·intro z hz
  obtain⟨i,_,rfl⟩:=List.mem_map.1 hz
  exact zAl S.k S.hk _ _
 rcases List.mem_append.1 hz with hz|hz
 ·obtain⟨i,hi,rfl⟩:=List.mem_map.1 hz
  exact zxX S.k (zux S (List.mem_range.1 hi))
 rw[List.mem_singleton.1 hz]
 exact zxX S.k O
structure SeHn (gr:Group) (key:Int) (ct:Contest) (voter:Int) (v coins:List Int) (x:Sealed):Prop where
 g:zc7 gr ct=some true
 kg:OkG gr
 kc:OkC ct
 hk:zaL gr key=true
 h2:0≤voter∧voter≤999999
 h3:zfv ct v=true
 hc:∀z∈coins,E9 gr.Q z
 e:(zd9 ct=false∧∃u0 u1,coins=[u0,u1]∧x=⟨voter,[cK gr key (zlT ct v) u0],[ziL gr (zfY voter) u0 u1],⟨[],[],[]⟩⟩)∨
  (zd9 ct=true∧∃q:Nat,zdw ct=(q:Int)∧SvOk gr key (zfY voter) (zep ct v) coins q∧OoOk gr (zfY voter) (stV gr key (zkT gr key (zep ct v) coins q) ct.Least (ct.Most-ct.Least+1).toNat) (smE (zep ct v) (zep ct v).length-ct.Least).toNat (srN gr.Q (svR coins q) (zep ct v).length) (coins.drop ((zep ct v).length*(2*q+2)))∧x=seV gr key (zfY voter) (zep ct v) coins q voter ct.Least (ct.Most-ct.Least+1).toNat)
theorem zyw (gr:Group) (key:Int) (ct:Contest) (voter:Int) {v coins:List Int}(hv:v.length≤1048576):∃x,zfq gr key ct voter v coins=some x∧zfn gr key ct voter v coins=some x∧(x.2=true→SeOk x.1∧SeHn gr key ct voter v coins x.1):=by
 obtain⟨b,s1,s2,s3⟩:=zkX gr ct
 unfold zfq zfn
 rw[s1,s2]
 cases b with
 |false=>exact⟨(⟨0,[],[],⟨[],[],[]⟩⟩,false),rfl,rfl,fun h=>by cases h⟩
 |true=>
  obtain⟨kg,kc⟩:=s3 rfl
  have hQ:=kg.q
  have hp:=kg.p
  have hco:=zqM kc
  simp only[zxY kg,zAb kg,zoE,zuJ,zw8 kc hv,zzk kc hv,zwZ kc,hco.1,zlY (gr:=gr) (by omega) (by omega),zy4 (gr:=gr) (by omega) (by omega),Bool.not_true,Bool.false_eq_true,if_false,Option.bind_some,ziB]
  cases hok:(!zaL gr key||(!inB 0 999999 voter||(!zfv ct v||((coins.length:Int) !=zjr ct|| !coins.all (zhg gr)))))with
  |true=>exact⟨(⟨0,[],[],⟨[],[],[]⟩⟩,false),rfl,rfl,fun h=>by cases h⟩
  |false=>
   simp only[Bool.or_eq_false_iff,Bool.not_eq_false',bne_eq_false_iff_eq]at hok
   obtain⟨hk,h2,h3,h4,h5⟩:=hok
   have h2:=zcM.1 h2
   have hc:∀z∈coins,E9 gr.Q z:=fun z hz=>zjc.1 (List.all_eq_true.1 h5 z hz)
   have hlb:=zzN h2.1 h2.2
   have hE:=zAm kc h3
   unfold zoO at hE
   cases hf:zd9 ct with
   |false=>
    rw[hf]at hE
    have hn2:coins.length=2:=by
     unfold zjr at h4
     rw[hf]at h4
     have:(coins.length:Int)=2:=h4
     omega
    obtain⟨u0,u1,rfl⟩:∃u0 u1,coins=[u0,u1]:=by
     match coins,hn2 with
     |[a,b],_=>exact⟨a,b,rfl⟩
    have hk1:(ct.Kind==1||ct.Kind==2)=false:=hf
    have b0:=hc u0 (by simp)
    have b1:=hc u1 (by simp)
    have hpk:zcC gr (zfY voter) gr.G u0 u1=some (ziL gr (zfY voter) u0 u1,true):=by
     rw[zxu gr (by omega),zmz.2 kg,zjc.2 b0,zjc.2 b1];rfl
    have r0:=e_r kg b0
    have r1:=e_r kg b1
    have hps:=zEg (gr:=gr) kg.gb (s:=zfY voter) (by omega) (x:=u0) (w:=u1) ⟨r0.1,by have:=r0.2;omega⟩ ⟨r1.1,by have:=r1.2;omega⟩
    refine⟨(⟨voter,[cK gr key (zlT ct v) u0],[ziL gr (zfY voter) u0 u1],⟨[],[],[]⟩⟩,true),zal ?_,zal ?_,fun _=>⟨⟨h2,by simp,fun z hz=>?_,by simp,fun z hz=>?_⟩,s1,kg,kc,hk,h2,h3,hc,.inl ⟨hf,u0,u1,rfl,rfl⟩⟩⟩
    ·refine zbl rfl (zae (zvA h2.1 h2.2) (zae hE (zae (zmC ct) (zgl (by rw[hk1];rfl) (zae (a:=u0) rfl (zae (a:=u1) rfl (zae hpk (zae (a:=zlT ct v) rfl (zae (pwI kg (r_G kg) _) (zae (zxO kg hk _ _) (zab rfl)))))))))))
    ·refine zbl rfl (zae (a:=(⟨voter,[cK gr key (zlT ct v) u0],[ziL gr (zfY voter) u0 u1],⟨[],[],[]⟩⟩:Sealed)) (zal ?_) (zab rfl))
     unfold zgv
     exact zae (zvJ h2.1 h2.2) (zae (zkC ct) (zgl (by rw[hk1];rfl) (zae (a:=u0) rfl (zae (zqo kc h3).1 (zae (zte kg hk _ _) (zak (by omega) (zak (by simp) (zak (by simp) (zae hps (zak (by omega) (zab rfl)))))))))))
    ·rw[List.mem_singleton.1 hz];exact zAl kg hk _ _
    ·have hz:z=ziL gr (zfY voter) u0 u1∨z=⟨[],[],[]⟩:=by simpa using hz
     rcases hz with rfl|rfl
     ·have he:=zpb kg.gb (zfY voter) u0 u1
      refine ztr (by simp[ziL]) (by simp[ziL]) (by simp[ziL]) (fun z hz=>?_) (fun z hz=>?_) fun z hz=>?_
      ·rw[List.mem_singleton.1 hz];exact zdA kg _ _
      ·rw[List.mem_singleton.1 hz];exact e_r kg he
      ·rw[List.mem_singleton.1 hz];exact e_r kg (zla (by omega) _)
     ·exact ztr (by simp) (by simp) (by simp) (by simp) (by simp) (by simp)
   |true=>
    rw[hf]at hE
    obtain⟨f1,f2,f3,f4⟩:=zmw kc hf
    obtain⟨g1,g2,g3,_⟩:=zAx kc hf h3
    have hgd:=zDh s1 kg kc hf
    have hk1:(ct.Kind==1||ct.Kind==2)=true:=hf
    have hm:=zwq (ct:=ct) (.inl hf)
    have hbt:=zwe ct
    have hEx:=zyy kc h3
    unfold zoO at hEx
    rw[hf]at hEx
    rw[if_pos hf]at hm
    unfold zjr at h4
    rw[if_pos hf]at h4
    obtain⟨q,hq⟩:∃q:Nat,zdw ct=(q:Int):=⟨(zdw ct).toNat,by omega⟩
    rw[hq]at hm hbt f2 f3 g2 h4
    have hE:zbW ct v=some (zep ct v):=hE
    have hEx:zfN ct v=some (zep ct v):=hEx
    have hdv:∃d,d=zep ct v:=⟨_,rfl⟩
    obtain⟨d,hdv⟩:=hdv
    rw[←hdv]at g1 g2 g3 hE hEx
    rw[←g1]at h4 f1 f3
    have eP:(d.length:Int)*(2*(q:Int)+2)=((d.length*(2*q+2):Nat):Int):=by rw[Int.natCast_mul];rfl
    rw[eP]at h4
    have hDq:(d.length:Int)*(q:Int)≤8*5:=Int.mul_le_mul (by omega) (by omega) (by omega) (by omega)
    have hPb:d.length*(2*q+2)≤8*12:=Nat.mul_le_mul (by omega) (by omega)
    have S:SvOk gr key (zfY voter) d coins q:=⟨kg,hk,by omega,by omega,by omega,fun z hz=>zcM.1 (List.all_eq_true.1 g2 z hz),by omega,hc⟩
    have hsum:smE d d.length=d.sum:=by rw[zvB _ (Nat.le_refl _),List.take_length]
    have hsr:=zxd (Q:=gr.Q) (by omega) (svR coins q) d.length
    have O:OoOk gr (zfY voter) (stV gr key (zkT gr key d coins q) ct.Least (ct.Most-ct.Least+1).toNat) (smE d d.length-ct.Least).toNat (srN gr.Q (svR coins q) d.length) (coins.drop (d.length*(2*q+2))):=by
     refine zxN kg hk rfl (by omega) (by omega) (by omega) (by omega) hsr ?_ fun z hz=>hc z (List.mem_of_mem_drop hz)
     rw[List.length_drop];omega
    have hcs:zoN gr (zkT gr key d coins q)=true:=by
     show(zaL gr (pg gr _)&&zaL gr (pg gr _))=true
     rw[zkL kg,zkL kg];rfl
    have wE:IntKind.i64.wrap (smE d d.length-ct.Least)=(((smE d d.length-ct.Least).toNat:Nat):Int):=by rw[zai (by omega) (by omega)];omega
    have wT:IntKind.i64.wrap ((d.length:Int)*IntKind.i64.wrap (IntKind.i64.wrap (2*(q:Int))+2))=((d.length*(2*q+2):Nat):Int):=by
     rw[zai (n:=2*(q:Int)) (by omega) (by omega),zai (n:=2*(q:Int)+2) (by omega) (by omega),eP,zai (by omega) (by omega)]
    refine⟨(seV gr key (zfY voter) d coins q voter ct.Least (ct.Most-ct.Least+1).toNat,true),zal ?_,zal ?_,fun _=>⟨zDu S h2 O,s1,kg,kc,hk,h2,h3,hc,.inr ⟨hf,q,hq,hdv▸S,hdv▸O,hdv▸rfl⟩⟩⟩
    ·refine zbl rfl (zae (zvA h2.1 h2.2) (zae hE (zae (zmC ct) (zbl (by rw[hk1];rfl) (zae hm (zae (zJt S hm voter) ?_))))))
     show Rn (gd _ _) _
     dsimp only
     rw[wT,wE,Int.toNat_natCast,List.take_length]
     exact zak (by omega) (zak (by omega) (zae (zCL S) (zae (zxS kg hcs (by omega) (n:=(ct.Most-ct.Least+1).toNat) (by omega) (by omega)) (zae (zya kg O) (zbl rfl (zab rfl))))))
    ·refine zbl rfl (zae (a:=seV gr key (zfY voter) d coins q voter ct.Least (ct.Most-ct.Least+1).toNat) (zal ?_) (zab rfl))
     unfold zgv
     refine zae (zvJ h2.1 h2.2) (zae (zkC ct) (zbl (by rw[hk1];rfl) (zae hbt (zae hEx (zae (zIY S voter) ?_)))))
     dsimp only
     rw[wE]
     exact zae (zEp S) (zae (zx0 kg hcs (by omega) (n:=(ct.Most-ct.Least+1).toNat) (by omega) (by omega)) (zae (zx3 kg O) (zab rfl)))
def zhi (l:List Cipher):List Int:=(l.length:Int)::l.flatMap fun c=>[c.A,c.B]
def zgT (L:List (List Int)):List Int:=(L.length:Int)::L.flatMap zca
theorem zxU (l:List Cipher):(l.flatMap fun c=>[c.A,c.B]).length=2*l.length:=by
 induction l with
 |nil=>rfl
 |cons e l ih=>show([e.A,e.B]++l.flatMap fun c=>[c.A,c.B]).length=_;rw[List.length_append,ih];simp;omega
theorem zs5 (l:List Cipher):(zhi l).length=2*l.length+1:=by unfold zhi;rw[List.length_cons,zxU]
theorem zsR {l:List Cipher}(hl:l.length≤8) (h:∀z∈l,R9 z.A∧R9 z.B):(zhi l).all za8=true:=by
 unfold zhi
 rw[List.all_cons,zdt.2 (show 0≤(l.length:Int)∧(l.length:Int)≤4611686018427387903 by omega),Bool.true_and]
 refine zqa fun z hz=>?_
 obtain⟨c,hc,hz⟩:=List.mem_flatMap.1 hz
 simp only[List.mem_cons,List.not_mem_nil,or_false]at hz
 rcases hz with rfl|rfl
 ·exact(h c hc).1
 exact(h c hc).2
theorem zrl {l:List Cipher}(hl:l.length≤8):zap (σ:=(List Int)) (fun i5 s4=>
 (ix l i5).bind fun x11=>
 gd ((s4.length+2)*8≤140737488355328∧s4.length+2≤4611686018427387904)<|
 some (.go (s4++[x11.A,x11.B]))) (fun s4=>s4) (l.length) 0 [(l.length:Int)]=some (zhi l):=by
 refine zal (zbi (fun i s=>s=(l.length:Int)::((l.take i).flatMap fun c=>[c.A,c.B])∧i≤l.length) ⟨rfl,by omega⟩ ?_ fun s h=>by rw[h.1,List.take_length];rfl)
 rintro i s hi ⟨rfl,_⟩
 have hn:=zxU (l.take i)
 rw[List.length_take]at hn
 refine za6 hi (zak (by rw[List.length_cons];omega) (zab ⟨?_,by omega⟩))
 rw[List.take_succ_eq_append_getElem hi,List.flatMap_append];rfl
theorem zv8 {α:Type}{f:α→List Int}{B:Nat}:∀{l:List α},(∀p∈l,(f p).length≤B)→(l.flatMap f).length≤B*l.length
 |[],_=>by simp
 |p::l,h=>by
  have h1:=zv8 (l:=l) fun z hz=>h z (List.mem_cons_of_mem _ hz)
  have h2:=h p (by simp)
  rw[List.flatMap_cons,List.length_append,List.length_cons,Nat.mul_succ];omega
theorem zpa (L:List (List Int)) (i:Nat):((L.take i).flatMap zca).length≤(L.flatMap zca).length:=by
 have h:(L.take i).flatMap zca++(L.drop i).flatMap zca=L.flatMap zca:=by rw[←List.flatMap_append,List.take_append_drop]
 rw[←h,List.length_append];omega
theorem zum {L:List (List Int)}{i:Nat}(hi:i<L.length):L[i].length+1≤(L.flatMap zca).length:=by
 have h:=zpa L (i+1)
 rw[List.take_succ_eq_append_getElem hi,List.flatMap_append,List.length_append]at h
 have e:([L[i]].flatMap zca).length=L[i].length+1:=by simp[zca]
 omega
theorem zyO {L:List (List Int)}(h:(zgT L).length≤400) (hd:(zgT L).all za8=true):zee L=some (zgT L,true):=by
 have hn:(L.flatMap zca).length+1≤400:=by simpa[zgT]using h
 unfold zee
 have e:zap (σ:=(List Int)) (β:=(List Int) ⊕ (List Int×Bool)) (fun i5 s4=>(ix L i5).bind fun x11=>(zcK x11).bind fun z12=>
  gd ((s4.length+z12.length)*8≤140737488355328∧s4.length+z12.length≤4611686018427387904)<|
  if decide (400<((s4++z12).length:Int))=true then(some (.out (.inr ([],false))))else(some (.go (s4++z12)))) (fun s4=>.inl s4) (L.length) 0 [(L.length:Int)]=some (.inl (zgT L)):=by
  refine zal (zbi (fun i s=>s=(L.length:Int)::(L.take i).flatMap zca∧i≤L.length) ⟨rfl,by omega⟩ ?_ fun s h=>by rw[h.1,List.take_length];rfl)
  rintro i s hi ⟨rfl,_⟩
  have h1:=zpa L (i+1)
  have h2:=zum hi
  have e1:(L.length:Int)::(L.take i).flatMap zca++zca L[i]=(L.length:Int)::(L.take (i+1)).flatMap zca:=by
   rw[List.take_succ_eq_append_getElem hi,List.flatMap_append];simp
  have e2:=congrArg List.length e1
  rw[List.length_append,List.length_cons,List.length_cons]at e2
  refine za6 hi (zae (zn9 (by omega)) (zak (by rw[List.length_cons];omega) (zbl ?_ (zab ⟨e1,by omega⟩))))
  rw[List.length_append,List.length_cons]
  exact decide_eq_false (by omega)
 have hr:zjA (zgT L)=true:=by unfold zjA;rw[hd,decide_eq_true (by omega)];rfl
 have hrec:zdN (zgT L)=some (zgT L,true):=by rw[znK,if_pos hr]
 rw[e,Option.bind_some,Sum.elim_inl,hrec,Option.bind_some]
def ziO (x:Sealed):List (List Int):=[[x.Voter],zhi x.Ciphers]++(x.Proofs++[x.Sum]).map zfr
def zdC (x:Sealed):List Int:=zgT (ziO x)
theorem zsS (p:Proof):(zfr p).length=p.Commits.length+p.Challenges.length+p.Responses.length+3:=by simp[zfr,zca];omega
theorem zmR {x:Sealed}(O:SeOk x):(zdC x).length≤352:=by
 have h1:=zs5 x.Ciphers
 have h2:=O.n
 have h3:=O.m
 have h4:(((x.Proofs++[x.Sum]).map zfr).flatMap zca).length≤36*(x.Proofs++[x.Sum]).length:=by
  have:=zv8 (f:=zca) (B:=36) (l:=(x.Proofs++[x.Sum]).map zfr) fun p hp=>by
   obtain⟨z,hz,rfl⟩:=List.mem_map.1 hp
   have o:=O.p z hz
   have:=o.a;have:=o.b;have:=o.c
   have:=zsS z
   show(zfr z).length+1≤36
   omega
  rwa [List.length_map]at this
 rw[List.length_append]at h4
 unfold zdC zgT ziO
 rw[List.length_cons,List.flatMap_append,List.length_append]
 have h5:([[x.Voter],zhi x.Ciphers].flatMap zca).length=2+(2*x.Ciphers.length+2):=by simp[zca,h1];omega
 have h6:[x.Sum].length=1:=rfl
 omega
theorem zyk {l:List Int}(hl:l.length≤1000) (h:l.all za8=true):(zca l).all za8=true:=by
 unfold zca
 rw[List.all_cons,h,zdt.2 (show 0≤(l.length:Int)∧(l.length:Int)≤4611686018427387903 by omega)];rfl
theorem zoS {x:Sealed}(O:SeOk x):(zdC x).all za8=true:=by
 have hl:=zmR O
 have hn:((ziO x).flatMap zca).length+1≤352:=by simpa[zdC,zgT]using hl
 have hp:∀p∈ziO x,p.all za8=true:=by
  intro p hp
  rcases List.mem_append.1 hp with hp|hp
  ·simp only[List.mem_cons,List.not_mem_nil,or_false]at hp
   rcases hp with rfl|rfl
   ·have:=O.v
    simp[za8];omega
   ·exact zsR O.n O.c
  ·obtain⟨z,hz,rfl⟩:=List.mem_map.1 hp
   exact(O.p z hz).d
 unfold zdC zgT
 have hpl:(ziO x).length≤11:=by
  have:=O.m
  unfold ziO;simp;omega
 rw[List.all_cons,zdt.2 (show 0≤((ziO x).length:Int)∧((ziO x).length:Int)≤4611686018427387903 by omega),Bool.true_and,List.all_flatMap]
 refine List.all_eq_true.2 fun p hm=>?_
 obtain⟨i,hi,rfl⟩:=List.mem_iff_getElem.1 hm
 have:=zum hi
 exact zyk (by omega) (hp _ hm)
theorem zy5 {x:Sealed}(O:SeOk x):zc2 x=some (zdC x,true):=by
 have hl:=zmR O
 have hd:=zoS O
 have hm:=O.m
 have hv:inB 0 999999 x.Voter=true:=zcM.2 O.v
 have hc:zdE x.Ciphers=some (zhi x.Ciphers,true):=by
  unfold zdE
  rw[zrl O.n,Option.bind_some,znK]
  have:zjA (zhi x.Ciphers)=true:=by
   have:=zs5 x.Ciphers;have:=O.n
   unfold zjA;rw[zsR O.n O.c,decide_eq_true (by omega)];rfl
  rw[this];rfl
 unfold zc2
 have hk:zbn x.Proofs=some x.Proofs:=by
  unfold zbn
  rw[zcx (by omega)]
 have hS:=zhB (σ:=(List (List Int))) (γ:=(List (List Int)) ⊕ (List Int×Bool)) (n:=(x.Proofs++[x.Sum]).length) (stop:=fun s13=>.inl s13) (s0:=[[x.Voter],zhi x.Ciphers]) (body:=fun i14 s13=>
  (ix (x.Proofs++[x.Sum]) i14).bind fun x21=>
  (zdl x21).bind fun z22=>
  if(!z22.2)=true then(
  some (.out (.inr ([],false))))else(
  gd ((s13.length+1)*24≤140737488355328∧s13.length+1≤4611686018427387904)<|
  some (.go (s13++[z22.1])))) (fun i=>[[x.Voter],zhi x.Ciphers]++((x.Proofs++[x.Sum]).take i).map zfr) (by simp) fun i hi=>by
   have o:=O.p _ (List.getElem_mem hi)
   have oa:=o.a;have ob:=o.b;have oc:=o.c
   have e:=zsS (x.Proofs++[x.Sum])[i]
   have hr:zjA (zfr (x.Proofs++[x.Sum])[i])=true:=by unfold zjA;rw[o.d,decide_eq_true (by omega)];rfl
   have he:=zpK (p:=(x.Proofs++[x.Sum])[i]) (by omega) (by omega) (by omega)
   rw[if_pos hr]at he
   have hi2:=hi
   rw[List.length_append]at hi2
   refine za6 hi (zae he (zbl rfl (zak (by rw[List.length_append,List.length_map,List.length_take,List.length_append];simp at hi2⊢;omega) (zab ?_))))
   rw[List.take_succ_eq_append_getElem hi,List.map_append,←List.append_assoc];rfl
 rw[List.take_length]at hS
 refine zal (zae hc (zaf (ψ:=(· =false)) (zbl rfl (zae (zoE _) (zbl (by rw[hv];rfl) (zab (decide_eq_false (by omega)))))) ?_))
 rintro _ rfl
 refine zbl rfl (zae hk (zak (by omega) (zae hS ?_)))
 exact zae (zyO (L:=ziO x) (by show(zdC x).length≤400;omega) hd) (zab rfl)
theorem zwP {L:List (List Int)}(h:(zgT L).length≤400):zgD L=some (zgT L):=by
 have hn:(L.flatMap zca).length+1≤400:=by simpa[zgT]using h
 unfold zgD
 have e:zap (σ:=(List Int)) (fun i5 s4=>(ix L i5).bind fun x11=>(zbS s4 x11).bind fun z12=>some (.go z12)) (fun s4=>s4) (L.length) 0 [(L.length:Int)]=some (zgT L):=by
  refine zal (zbi (fun i s=>s=(L.length:Int)::(L.take i).flatMap zca∧i≤L.length) ⟨rfl,by omega⟩ ?_ fun s h=>by rw[h.1,List.take_length];rfl)
  rintro i s hi ⟨rfl,_⟩
  have h1:=zpa L i
  have h2:=zum hi
  refine za6 hi (zae (zmx (by rw[List.length_cons];omega) (by omega)) (zab ⟨?_,by omega⟩))
  rw[List.take_succ_eq_append_getElem hi,List.flatMap_append]
  simp
 rw[e];rfl
theorem zyv {x:Sealed}(O:SeOk x):zc1 x=some (zdC x,true):=by
 have hl:=zmR O
 have hd:=zoS O
 have hm:=O.m
 have hv:inB 0 999999 x.Voter=true:=zcM.2 O.v
 unfold zc1 zgO
 have hS:=zhB (σ:=(List (List Int))) (n:=x.Proofs.length) (stop:=fun s5=>s5) (s0:=[[x.Voter],zhi x.Ciphers]) (body:=fun i6 s5=>
  (ix x.Proofs i6).bind fun x12=>
  (zev x12).bind fun z13=>
  gd ((s5.length+1)*24≤140737488355328∧s5.length+1≤4611686018427387904)<|
  some (.go (s5++[z13]))) (fun i=>[[x.Voter],zhi x.Ciphers]++(x.Proofs.take i).map zfr) (by simp) fun i hi=>by
   have o:=O.p x.Proofs[i] (List.mem_append.2 (.inl (List.getElem_mem hi)))
   have oa:=o.a;have ob:=o.b;have oc:=o.c
   refine za6 hi (zae (zre (by omega) (by omega) (by omega)) (zak (by rw[List.length_append,List.length_map,List.length_take];simp;omega) (zab ?_)))
   rw[List.take_succ_eq_append_getElem hi,List.map_append,←List.append_assoc];rfl
 rw[List.take_length]at hS
 have o:=O.p x.Sum (by simp)
 have oa:=o.a;have ob:=o.b;have oc:=o.c
 have hcs:zfe x.Ciphers=some (zhi x.Ciphers):=by
  unfold zfe
  rw[zrl O.n];rfl
 have hpar:[[x.Voter],zhi x.Ciphers]++x.Proofs.map zfr++[zfr x.Sum]=ziO x:=by
  unfold ziO
  rw[List.map_append,List.append_assoc];rfl
 have hif:zgW (zdC x)=some (zdC x,true):=by
  unfold zgW zgo
  rw[if_pos (decide_eq_true (by omega)),zkO]
  have e:((zdC x).all fun z=>decide (0≤z)&&decide (z≤4611686018427387903))=true:=hd
  rw[e];rfl
 refine zal (zae (zuJ _ _ _) (zbl (by rw[hv];rfl) (zae (a:=zdC x) (zal (zae hcs (zae hS (zae (zre (by omega) (by omega) (by omega)) (zak (by rw[List.length_append,List.length_map];simp;omega) ?_))))) ?_)))
 ·rw[hpar]
  exact zae (zwP (L:=ziO x) (by show(zdC x).length≤400;omega)) (zab rfl)
 exact zae hif (zab rfl)
theorem zzI {x:Sealed}(O:SeOk x):zc2 x=some (zdC x,true)∧zc1 x=some (zdC x,true):=⟨zy5 O,zyv O⟩
def seaL:ByteArray:=⟨#[115,101,97,108,101,100]⟩
theorem zzE {x:Sealed}(O:SeOk x):zd0 x=some (zj9 seaL (zdC x),true)∧zdW x=some (zj9 seaL (zdC x),true):=by
 obtain⟨h1,h2⟩:=zzI O
 have hl:=zmR O
 have hd:=zoS O
 have hs:seaL.size=6:=rfl
 have hb:zhd seaL (zdC x)=true:=by
  unfold zhd
  rw[hd,decide_eq_true (show seaL.size≤40 by omega),decide_eq_true (show 1+seaL.size+(zdC x).length≤400 by omega)];rfl
 constructor
 ·unfold zd0
  refine zal (zae h1 (zbl rfl (zae (a:=(zj9 seaL (zdC x),true)) ?_ (zab rfl))))
  have:=zh7 seaL (zdC x)
  rw[if_pos hb]at this
  exact this
 unfold zdW
 refine zal (zae h2 (zbl rfl (zae (a:=(zj9 seaL (zdC x),true)) (zal ?_) (zab rfl))))
 have w:IntKind.i64.wrap (IntKind.i64.wrap (IntKind.i64.wrap (1+(seaL.size:Int))+((zdC x).length:Int))+0)=7+((zdC x).length:Int):=by
  rw[hs,zai (n:=1+((6:Nat):Int)) (by omega) (by omega),zai (n:=1+((6:Nat):Int)+((zdC x).length:Int)) (by omega) (by omega),zai (by omega) (by omega)];omega
 have e:((zdC x).all fun z=>decide (0≤z)&&decide (z≤4611686018427387903))=true:=hd
 have hlb:zfD seaL (zdC x) 0=some true:=by
  unfold zfD
  rw[if_pos (decide_eq_true (show(seaL.size:Int)≤40 by omega)),zkO,e,w,decide_eq_true (show 7+((zdC x).length:Int)≤400 by omega)];rfl
 unfold ze2
 exact zae hlb (zbl rfl (zae (ziq (s:=seaL) (l:=zdC x) (by omega) (by omega) hd) (zab rfl)))
theorem zuH (gr:Group) (key:Int) (ct:Contest) (voter:Int) {v coins:List Int}(hv:v.length≤1048576):∃y,zdK gr key ct voter v coins=some y∧zdJ gr key ct voter v coins=some y∧(y.2=true→za8 y.1=true):=by
 obtain⟨⟨x,t⟩,h1,h2,h3⟩:=zyw gr key ct voter (coins:=coins) hv
 unfold zdK zdJ
 cases t with
 |false=>exact⟨(0,false),zal (zae h1 (zgl rfl (zab rfl))),zal (zae h2 (zgl rfl (zab rfl))),fun h=>by cases h⟩
 |true=>
  obtain⟨d1,d2⟩:=zzE (h3 rfl).1
  exact⟨_,zal (zae h1 (zbl rfl (zae d1 (zab rfl)))),zal (zae h2 (zbl rfl (zae d2 (zab rfl)))),fun _=>zif _ _⟩
theorem zzx (gr:Group) (key:Int) (ct:Contest) {s:Session}(h:s.Vote.length≤1048576):∃y,zbP gr key ct s=some y∧zdT gr key ct s=some y:=by
 obtain⟨⟨d,t⟩,h1,h2,_⟩:=zuH gr key ct s.Voter (coins:=s.Coins) h
 unfold zbP zdT
 simp only[h1,h2,zhL,zuA,Option.bind_some]
 cases s.Cast<;>cases za8 s.Receipt<;>cases t<;>exact⟨_,rfl,rfl⟩
theorem zD6:OkC ⟨1,2,0,1,0⟩:=⟨by decide,.inl (by decide)⟩
theorem zxe {code a0:List Int}{at_ seed n:Int}(hb:Bt code) (h:Cu code n (a0,at_,seed)) (hn:n≤3000000000000000):Rn (zcP a0 at_ seed) (fun z=>(Gw z.1∧OkC z.2.2.1)∧Cu code (n+120) z.2.2.2):=by
 unfold zcP
 refine zaf (zyQ hb h (by omega)) fun z1 ⟨g1,y1⟩=>?_
 refine zaf (zmn hb y1 (by omega)) fun z2 y2=>?_
 refine zaf (ψ:=fun x=>Cu code (n+114) x.1) (zdg (fun s=>(0≤s.2.2.2.2.2.2∧s.2.2.2.2.2.2≤8)∧Cu code (n+18+12*s.2.2.2.2.2.2) s.1) (fun s=>(8-s.2.2.2.2.2.2).toNat) ⟨by simp,y2.mono (by simp;omega)⟩ ?_) fun x hx=>?_
 ·rintro s ⟨⟨h1,h2⟩,h3⟩
  obtain⟨b,e,_,_⟩:=zkX z1.1 (Contest.mk s.2.1 s.2.2.1 s.2.2.2.1 s.2.2.2.2.1 s.2.2.2.2.2.1)
  refine zaf (ψ:=fun x=>x=true→s.2.2.2.2.2.2<8) (zao (fun g=>zae e (zab fun _=>by simpa using g)) fun _=>zab fun h=>by cases h) fun x hx=>?_
  refine zao (fun g=>?_) fun _=>zab (h3.mono (by omega))
  have hx:=hx g
  refine zaf (zmn hb h3 (by omega)) fun z hz=>zab ?_
  have e:IntKind.i64.wrap (s.2.2.2.2.2.2+1)=s.2.2.2.2.2.2+1:=zai (by omega) (by omega)
  refine⟨⟨⟨?_,?_⟩,?_⟩,?_⟩
  ·show 0≤IntKind.i64.wrap _;omega
  ·show IntKind.i64.wrap _≤8;omega
  ·exact hz.mono (by show _≤n+18+12*IntKind.i64.wrap _;omega)
  show(8-IntKind.i64.wrap (s.2.2.2.2.2.2+1)).toNat<_;omega
 obtain⟨b,e,_,hok⟩:=zkX z1.1 (Contest.mk x.2.1 x.2.2.1 x.2.2.2.1 x.2.2.2.2.1 x.2.2.2.2.2)
 refine zae e ?_
 refine zaf (ψ:=fun v=>Gw (Group.mk v.1 v.2.1 v.2.2.1)∧OkC (Contest.mk v.2.2.2.1 v.2.2.2.2.1 v.2.2.2.2.2.1 v.2.2.2.2.2.2.1 v.2.2.2.2.2.2.2)) (zao (fun _=>zab ⟨⟨by decide,by decide,by decide⟩,zD6⟩) fun g=>zab ⟨g1.w,(hok (by simpa using g)).2⟩) fun v hv=>?_
 refine zaf (zvq hb hx (by omega) hv.1) fun z ⟨_,_,hz⟩=>zab ⟨hv,hz.mono (by omega)⟩
theorem zzX {code a0:List Int}{at_ seed n:Int}{gr:Group}{key:Int}{ct:Contest}(hb:Bt code) (h:Cu code n (a0,at_,seed)) (hn:n≤100000000000000) (hg:Gw gr) (k:OkC ct):Rn (zcw a0 at_ seed gr key ct) (fun z=>z.1.Vote.length≤41∧Cu code (n+5000) z.2):=by
 have hco:=zqM k
 obtain⟨m,hm⟩:∃m:Nat,zjr ct=(m:Int):=⟨(zjr ct).toNat,by omega⟩
 unfold zcw
 refine zaf (zc5 hb h (by omega)) fun z1 ⟨_,_,_,_,y1⟩=>zaf (zuY hb y1 (by omega) k) fun z2 ⟨v2,y2⟩=>zae hco.1 ?_
 rw[hm]
 refine zaf (zsz hb y2 (by omega) hg (k:=m) (by omega)) fun z4 ⟨_,_,y4⟩=>zaf (zn6 hb y4 (by omega)) fun z5 y5=>?_
 obtain⟨y,_,e,_⟩:=zuH gr key ct z1.1 (v:=z2.1) (coins:=z4.1) (by omega)
 refine zae e (zaf (ψ:=fun x=>x.2.1.length≤40) (zao (fun _=>zab v2) fun _=>zab v2) fun x9 h9=>?_)
 refine zaf (zc5 hb y5 (by omega)) fun z11 ⟨_,_,_,_,y11⟩=>zaf (ψ:=fun x=>x.2.2.1.length≤41∧Cu code (n+5000) x.1) ?_ fun x hx=>zab hx
 have h9:x9.2.1.length≤41:=by omega
 refine zao (fun _=>zaf (zlV hb y11 (by omega)) fun z hz=>zab ⟨h9,hz.mono (by omega)⟩) fun _=>?_
 refine zao (fun _=>zaf (zuY hb y11 (by omega) k) fun z hz=>zab ⟨by have:=hz.1;show z.1.length≤41;omega,hz.2.mono (by omega)⟩) fun _=>?_
 refine zao (fun _=>zae (a:=(m:Int)) (hm▸hco.1) (zaf (zur hb y11 (by omega) hg (k:=m) (by omega)) fun z hz=>zab ⟨h9,hz.2.mono (by omega)⟩)) fun _=>?_
 refine zao (fun _=>zaf (zh3 hb y11 (by omega) (by simp)) fun z hz=>zab ⟨h9,hz.2.mono (by omega)⟩) fun _=>?_
 exact zab ⟨h9,y11.mono (by omega)⟩
theorem zFb {code:List Int}(hb:Bt code):Rn (zcU code) (fun z=>z.2.2.2.Vote.length≤41):=by
 unfold zcU
 refine zaf (zxe hb (cu0 code) (by omega)) fun z1 ⟨⟨g1,k1⟩,y1⟩=>zaf (zzX hb y1 (by omega) g1 k1) fun z2 ⟨v2,y2⟩=>zaf (zn6 hb y2 (by omega)) fun z3 y3=>zaf (zn6 hb y3 (by omega)) fun z4 y4=>?_
 refine zaf (ψ:=fun _=>True) (zao (fun _=>zaf (zrq hb y4 (by omega)) fun z _=>zab trivial) fun _=>zab trivial) fun x _=>zab v2
def chaL:ByteArray:=⟨#[99,104,97,105,110]⟩
def chN (l:List Int):Nat→List Int×Int
 |0=>([],0)
 |i+1=>((chN l i).1++[zj9 chaL [(chN l i).2,(i:Int),l.getD i 0]],zj9 chaL [(chN l i).2,(i:Int),l.getD i 0])
def zeF (l:List Int):Bool:=decide (l.length≤24)&&l.all za8
theorem zkn (l:List Int):∀i,(chN l i).1.length=i
 |0=>rfl
 |i+1=>by rw[chN,List.length_append,zkn l i];rfl
theorem zqW (l:List Int):∀i,za8 (chN l i).2=true∧(chN l i).1.all za8=true
 |0=>⟨rfl,rfl⟩
 |i+1=>by
  rw[chN]
  refine⟨zif _ _,?_⟩
  rw[List.all_append,(zqW l i).2,List.all_cons,zif];rfl
theorem zrC {l:List Int}(h:zeF l=true):l.length≤24∧∀z∈l,za8 z=true:=by
 simp only[zeF,Bool.and_eq_true,decide_eq_true_eq]at h
 exact⟨h.1,List.all_eq_true.1 h.2⟩
theorem zxV {l:List Int}(h:zeF l=true) {i:Nat}(hi:i<l.length):[(chN l i).2,(i:Int),l.getD i 0].all za8=true:=by
 have hr:=zrC h
 have h2:za8 (l.getD i 0)=true:=zhP (P:=fun z=>za8 z=true) hr.2 hi
 have h3:za8 (i:Int)=true:=zdt.2 (by omega)
 rw[List.all_cons,(zqW l i).1,List.all_cons,h3,List.all_cons,h2];rfl
theorem zrg (l:List Int):zdr l=some (zeF l):=by
 unfold zdr
 have h1:za0 l=some (l.all za8):=zgI (f:=zaF) fun x _=>by
  unfold zaF
  rw[zhL];rfl
 rw[h1,Option.bind_some,zja,Option.bind_some]
 congr 2
 exact decide_eq_decide.2 (by omega)
theorem zxo (l:List Int):zdd l=some (zeF l):=by
 unfold zdd
 rw[zkO,Option.bind_some,zja,Option.bind_some]
 congr 2
 exact decide_eq_decide.2 (by omega)
theorem zqT {l:List Int}(h:zeF l=true):zfd l=some (chN l l.length).1:=by
 have hr:=zrC h
 have hs:chaL.size=5:=rfl
 unfold zfd
 refine zal (zae (zhB (stop:=fun s=>s.1) (chN l) rfl fun i hi=>?_) (zab rfl))
 have hl:=zkn l i
 exact zae (zfx hi) (zae (ziq (s:=chaL) (by omega) (by simp) (zxV h hi)) (zak (by omega) (zab rfl)))
theorem zud (l:List Int):zd7 l=some (if zeF l=true then((chN l l.length).1,true)else([],false)):=by
 have hs:chaL.size=5:=rfl
 unfold zd7
 rw[zrg,Option.bind_some]
 cases h:zeF l with
 |false=>rfl
 |true=>
  have hr:=zrC h
  rw[if_neg (by simp)]
  refine zal (zae (zhB (stop:=fun s=>s.1) (chN l) rfl fun i hi=>?_) (zab rfl))
  ·have hl:=zkn l i
   have hb:zhd chaL [(chN l i).2,(i:Int),l.getD i 0]=true:=by
    unfold zhd
    rw[zxV h hi,decide_eq_true (show chaL.size≤40 by omega),decide_eq_true (show 1+chaL.size+[(chN l i).2,(i:Int),l.getD i 0].length≤400 by simp;omega)];rfl
   have he:=zh7 chaL [(chN l i).2,(i:Int),l.getD i 0]
   rw[if_pos hb]at he
   exact zae (zfx hi) (zae he (zak (by omega) (zab rfl)))
theorem zCT (l:List Int):zfK l=some (if zeF l=true then((chN l l.length).1,true)else([],false)):=by
 unfold zfK
 rw[zxo,Option.bind_some]
 cases h:zeF l with
 |false=>rfl
 |true=>rw[if_neg (by simp),zqT h];rfl
theorem zD9 (l p:List Int):∃y,zbQ l p=some y∧zex l p=some y:=by
 unfold zbQ zex
 rw[zud,zxo,zxo,Option.bind_some,Option.bind_some]
 cases h:zeF l with
 |false=>exact⟨(0,false),rfl,rfl⟩
 |true=>
  have hr:=zrC h
  simp only[if_true,Bool.not_true,Bool.false_eq_true,if_false,zrg,Option.bind_some,ziB]
  rw[show(!zeF p||((p.length:Int) !=(l.length:Int)))=(((p.length:Int) !=(l.length:Int))|| !zeF p)from Bool.or_comm _ _]
  cases hg:(((p.length:Int) !=(l.length:Int))|| !zeF p)with
  |true=>exact⟨(0,false),rfl,rfl⟩
  |false=>
   simp only[Bool.or_eq_false_iff,bne_eq_false_iff_eq]at hg
   have hl:=zkn l l.length
   have hpl:p.length=l.length:=by omega
   rw[zqT h]
   simp only[Option.bind_some,Bool.false_eq_true,if_false]
   have e:(fun(i14:Int) (s13:Unit)=>(ix (chN l l.length).1 i14).bind fun x20=>(ix p i14).bind fun x21=>if(x21 !=x20)=true then(some (Stp.out (β:=Unit ⊕ (Int×Bool)) (.inr (i14,true))))else(some (.go ())))=fun(i13:Int) (s12:Unit)=>(ix (chN l l.length).1 i13).bind fun x19=>(ix p i13).bind fun x20=>if(x19 !=x20)=true then(some (.out (.inr (i13,true))))else(some (.go ())):=by
    funext i s
    cases ix (chN l l.length).1 i with
    |none=>rfl
    |some x=>
     cases ix p i with
     |none=>rfl
     |some y=>
      show(if(y !=x)=true then _ else _)=if(x !=y)=true then _ else _
      rw[bne_comm]
   rw[e]
   have hv:Rn (zap (σ:=Unit) (β:=Unit ⊕ (Int×Bool)) (fun i13 s12=>(ix (chN l l.length).1 i13).bind fun x19=>(ix p i13).bind fun x20=>if(x19 !=x20)=true then(some (.out (.inr (i13,true))))else(some (.go ()))) (fun s12=>.inl ()) ((chN l l.length).1.length) 0 ()) (fun _=>True):=by
    refine zbi (fun _ _=>True) trivial ?_ fun _ _=>trivial
    rintro i s hi _
    exact za6 hi (za6 (by omega) (zao (fun _=>zab trivial) fun _=>zab trivial))
   obtain⟨v,v1,_⟩:=hv
   rw[v1]
   cases v with
   |inl _=>exact⟨((l.length:Int),true),by show some _=_;rw[hl],by show some _=_;rw[hpl]⟩
   |inr z=>exact⟨z,rfl,rfl⟩
theorem zCz {l:List Int}(h:zeF l=true):zbQ l (chN l l.length).1=some ((l.length:Int),true):=by
 have hr:=zrC h
 have hl:=zkn l l.length
 have hp:zeF (chN l l.length).1=true:=by
  unfold zeF
  rw[(zqW l l.length).2,hl,decide_eq_true hr.1];rfl
 unfold zbQ
 rw[zud,Option.bind_some,h]
 simp only[if_true,Bool.not_true,Bool.false_eq_true,if_false,zrg,hp,hl,Option.bind_some,bne_self_eq_false]
 have hv:zap (σ:=Unit) (β:=Unit ⊕ (Int×Bool)) (fun i13 s12=>(ix (chN l l.length).1 i13).bind fun x19=>(ix (chN l l.length).1 i13).bind fun x20=>if(x19 !=x20)=true then(some (.out (.inr (i13,true))))else(some (.go ()))) (fun s12=>.inl ()) (l.length) 0 ()=some (.inl ()):=by
  refine zhB (fun _=>()) rfl fun i hi=>?_
  exact za6 (by omega) (za6 (by omega) (zbl (by simp) (zab rfl)))
 rw[hv];rfl
theorem zAi {code a0:List Int}{at_ seed n:Int}(hb:Bt code) (h:Cu code n (a0,at_,seed)) (hn:n≤1000000000000):Rn (zcd a0 at_ seed) (fun z=>z.1.length≤40∧Cu code (n+100) z.2):=by
 unfold zcd
 refine zaf (zid hb h (by omega) (by omega)) fun z1 ⟨p,y1⟩=>?_
 refine zaf (ψ:=fun x=>x.2.length≤40∧Cu code (n+50) x.1) (zdg (fun s=>(0≤s.2.2∧(s.2.1.length:Int)+s.2.2≤6)∧Cu code (n+2+4*(6-s.2.2)) s.1) (fun s=>s.2.2.toNat) ⟨by simp;omega,y1.mono (by simp;omega)⟩ ?_) fun x ⟨h4,y4⟩=>?_
 ·rintro s ⟨⟨s1,s2⟩,s3⟩
  refine zao (fun g=>?_) fun _=>zab ⟨by show s.2.1.length≤40;omega,s3.mono (by omega)⟩
  have g:0<s.2.2:=of_decide_eq_true g
  refine zaf (zlV hb s3 (by omega)) fun z hz=>zak (by omega) (zab ?_)
  rw[zai (n:=s.2.2-1) (by omega) (by omega)]
  exact⟨⟨⟨by show 0≤s.2.2-1;omega,by show((s.2.1++[_]).length:Int)+(s.2.2-1)≤6;rw[List.length_append];simp;omega⟩,hz.mono (by show _≤n+2+4*(6-(s.2.2-1));omega)⟩,by show(s.2.2-1).toNat<s.2.2.toNat;omega⟩
 refine zaf (zn6 hb y4 (by omega)) fun z21 y5=>zaf (ψ:=fun x=>x.2.length≤40∧Cu code (n+100) x.1) ?_ fun x hx=>zab hx
 refine zao (fun _=>zaf (zid hb y5 (by omega) (by omega)) fun z hz=>?_) fun _=>zab ⟨h4,y5.mono (by omega)⟩
 rw[zai (n:=24+z.1) (by omega) (by omega)]
 exact zak (by omega) (zab ⟨by show(List.replicate _ _).length≤40;rw[List.length_replicate];omega,hz.2.mono (by omega)⟩)
theorem zAU {code a0:List Int}{at_ seed n:Int}(hb:Bt code) (h:Cu code n (a0,at_,seed)) (hn:n≤1000000000000) {l:List Int}(hl:l.length≤1000):Rn (zbZ a0 at_ seed l) (fun _=>True):=by
 unfold zbZ
 refine zae (ztl (by omega)) (zaf (zc5 hb h (by omega)) fun z2 ⟨_,_,_,_,y2⟩=>zaf (ψ:=fun _=>True) ?_ fun _ _=>zab trivial)
 refine zao (fun _=>zao (fun g=>?_) fun _=>zab trivial) fun _=>zao (fun _=>zak (by omega) (zab trivial)) fun _=>zao (fun _=>zao (fun g=>?_) fun _=>zab trivial) fun _=>zab trivial
 ·have g:0<(l.length:Int):=of_decide_eq_true g
  exact zaf (zid hb y2 (by omega) (by omega)) fun z8 ⟨p,y8⟩=>zaf (zlV hb y8 (by omega)) fun z9 y9=>zae (zCc p.1 p.2) (zab trivial)
 have g:0<(l.length:Int):=of_decide_eq_true g
 exact zak (by omega) (zab trivial)
theorem zD7 {code:List Int}(hb:Bt code):Rn (zdh code) (fun _=>True):=by
 unfold zdh
 refine zaf (zAi hb (cu0 code) (by omega)) fun z1 ⟨h1,y1⟩=>?_
 have hc:=zkn z1.1 z1.1.length
 have hn:(if zeF z1.1=true then((chN z1.1 z1.1.length).1,true)else([],false)).1.length≤40:=by
  split
  ·show(chN z1.1 z1.1.length).1.length≤40;omega
  ·simp
 exact zae (zCT _) (zaf (zAU hb y1 (by omega) (by omega)) fun _ _=>zab trivial)
theorem zC2 (l:List Int):Rn ((zd7 l).bind fun z30=>
 if z30.2=true then(
 (zbQ l z30.1).bind fun z32=>
 ((if z32.2=true then(
 some (z32.1==(l.length:Int)))else(
 some false):Option Bool).bind fun x35=>
 some x35))else(
 some true)) (· =true):=by
 refine zae (zud l) ?_
 cases h:zeF l with
 |false=>exact zbl rfl (zab rfl)
 |true=>exact zgl rfl (zae (zCz h) (zae (a:=true) (by rw[if_pos rfl,beq_self_eq_true]) (zab rfl)))
theorem zCY (a b:List Int) (h0:∀x∈a,0≤x∧x≤255) (h1:∀x∈b,0≤x∧x≤255) (hl0:a.length≤1048576) (hl1:b.length≤1048576):zey a b=some true:=by
 have hba:Bt a:=⟨h0,by omega⟩
 have hbb:Bt b:=⟨h1,by omega⟩
 unfold zey zi6
 refine zal (zaf (ψ:=fun _=>True) (zaf (ψ:=fun _=>True) (zao (fun _=>zab trivial) fun _=>zab trivial) fun _ _=>zab trivial) fun g _=>zao (fun _=>zab rfl) fun _=>?_)
 refine zaf (zFb hba) fun z hz=>?_
 obtain⟨gr,key,ct,s⟩:=z
 have hz:s.Vote.length≤41:=hz
 dsimp only
 obtain⟨y,y1,y2⟩:=zzx gr key ct (s:=s) (by omega)
 obtain⟨⟨d,t⟩,r1,r2,r3⟩:=zuH gr key ct s.Voter (v:=s.Vote) (coins:=s.Coins) (by omega)
 refine zae y1 (zae y2 (zaf (ψ:=(· =false)) (zbl (by simp) (zab (by simp))) ?_))
 rintro _ rfl
 refine zbl rfl (zae r1 ?_)
 refine zaf (ψ:=(· =.inl ())) ?_ ?_
 ·cases t with
  |false=>exact zbl rfl (zab rfl)
  |true=>
   have hd:za8 d=true:=r3 rfl
   have ha:zbP gr key ct (Session.mk s.Voter s.Vote s.Coins d false)=some (true,true):=by
    unfold zbP
    simp only[r1,zhL,hd,Option.bind_some,Bool.not_true,Bool.false_eq_true,if_false,beq_self_eq_true]
   refine zgl rfl (zae ha (zaf (ψ:=(· =false)) (zbl rfl (zab rfl)) ?_))
   rintro _ rfl
   exact zbl rfl (zab rfl)
 rintro _ rfl
 refine zaf (zD7 hbb) fun u _=>?_
 obtain⟨w,w1,w2⟩:=zD9 u.1 u.2
 refine zae w1 (zae w2 (zaf (ψ:=(· =false)) (zbl (by simp) (zab (by simp))) ?_))
 rintro _ rfl
 exact zbl rfl (zC2 u.1)
end Go.Pm
