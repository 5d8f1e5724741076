/-
  FnShuffles: plain laws.
  No condition.
-/
import Derived.Test.YthafgjhkjgcdeaaGreatY37
namespace Go.Pm
open Go.Am
set_option linter.unusedVariables false
set_option linter.unusedSimpArgs false
theorem zzj {x:Int}(hx:x∈[(3:Int),5,5,7,11,11,13,23]):∃y∈tinyL,x=(y.1:Int)∧3≤y.1∧y.1≤23:=by
 simp only[List.mem_cons,List.not_mem_nil,or_false]at hx
 rcases hx with rfl|rfl|rfl|rfl|rfl|rfl|rfl|rfl
 ·exact⟨(3,2),by simp[tinyL],rfl,by decide⟩
 ·exact⟨(5,2),by simp[tinyL],rfl,by decide⟩
 ·exact⟨(5,2),by simp[tinyL],rfl,by decide⟩
 ·exact⟨(7,4),by simp[tinyL],rfl,by decide⟩
 ·exact⟨(11,2),by simp[tinyL],rfl,by decide⟩
 ·exact⟨(11,2),by simp[tinyL],rfl,by decide⟩
 ·exact⟨(13,4),by simp[tinyL],rfl,by decide⟩
 exact⟨(23,2),by simp[tinyL],rfl,by decide⟩
theorem zEv {x:Int}(hx:x∈[(101:Int),1009,1019,65537,999983]):∃y∈midL,x=(y.1:Int):=by
 simp only[List.mem_cons,List.not_mem_nil,or_false]at hx
 rcases hx with rfl|rfl|rfl|rfl|rfl
 ·exact⟨(101,6),by simp[midL],rfl⟩
 ·exact⟨(1009,10),by simp[midL],rfl⟩
 ·exact⟨(1019,2),by simp[midL],rfl⟩
 ·exact⟨(65537,14),by simp[midL],rfl⟩
 exact⟨(999983,12),by simp[midL],rfl⟩
theorem zxN {y:Nat×Nat}(h:y∈tinyL):zb5 (y.1:Int)=some (grp y,true):=zwC (List.all_eq_true.1 zuL y (List.mem_append_left _ h))
theorem zAk {y:Nat×Nat}(h:y∈midL):zb5 (y.1:Int)=some (grp y,true):=zwC (List.all_eq_true.1 zuL y (List.mem_append_right _ h))
theorem zy8 {y:Nat×Nat}(h:y∈tinyL):(grp y).Q=(y.1:Int)∧1≤(grp y).P∧(grp y).P≤100∧0≤(grp y).G∧(grp y).G≤100:=by
 simp only[tinyL,List.mem_cons,List.not_mem_nil,or_false]at h
 rcases h with rfl|rfl|rfl|rfl|rfl|rfl<;>exact⟨rfl,by decide,by decide,by decide,by decide⟩
theorem zpt {code c0:List Int}{at_ seed n:Int}(hb:Bt code) (h:Cu code n (c0,at_,seed)) (hn:n≤6000000000000000):Rn (zbD c0 at_ seed) (fun z=>zmB z.1=true):=by
 unfold zbD
 refine zae (zeh hb h (by omega)) fun z ⟨z1,z2,z3,z4,z5⟩=>?_
 refine zam (fun _=>zab zxE) fun _=>zam (fun _=>?_) fun _=>?_
 ·refine zae (zdO hb z5 (by omega) (by simp)) fun y ⟨y1,y2⟩=>?_
  obtain⟨q,hq,e⟩:=zEv y1
  rw[e]
  exact zaa (zAk hq) (zab (List.all_eq_true.1 zxv q hq))
 unfold zcq
 refine zae (ψ:=fun w=>(∃q∈tinyL,w.1=grp q∧3≤q.1∧q.1≤23)∧Cu code (n+8) w.2) (zae (zdO hb z5 (by omega) (by simp)) fun y ⟨y1,y2⟩=>?_) fun y ⟨⟨q,hq,e,q3,q23⟩,y2⟩=>?_
 ·obtain⟨q,hq,e,q3⟩:=zzj y1
  rw[e]
  exact zaa (zxN hq) (zab ⟨⟨q,hq,rfl,q3⟩,y2.mono (by omega)⟩)
 obtain⟨b1,b2,b3,b4,b5⟩:=zy8 hq
 rw[e,b1,zap (n:=(q.1:Int)-1) (by omega) (by omega)]
 refine zae (zeh hb y2 (by omega)) fun x ⟨x1,x2,x3,x4,x5⟩=>?_
 have x3:=x3 (by omega)
 rw[zap (n:=1+x.1) (by omega) (by omega)]
 have hm:=znI (a:=1+x.1) (q:=(grp q).Q) (by omega) (by omega)
 have e1:(1+x.1)%(grp q).Q=1+x.1:=Int.emod_eq_of_lt (by omega) (by omega)
 have hw:=(zfi (a:=(grp q).G) (e:=1+x.1) (m:=(grp q).P) b4 (by omega) (by omega) (by omega) (by omega) (by omega)).2
 refine zae (ψ:=fun v=>v=(((grp q).G.toNat^(1+x.1).toNat%(grp q).P.toNat:Nat):Int)) ?_ ?_
 ·unfold zbJ
  refine zaa hm ?_
  rw[e1]
  exact zaa hw (zab rfl)
 rintro _ rfl
 refine zab ?_
 rw[←b1]
 exact List.all_eq_true.1 (List.all_eq_true.1 zwo q hq) (1+x.1).toNat (List.mem_range.2 (by omega))
theorem zk5 {gr g:Group}(h:zmB gr=true) (hm:g∈zmL gr):Dg g:=by
 unfold zmB at h
 exact zDJ (List.all_eq_true.1 h g hm)
theorem zqW {code c0:List Int}{at_ seed n:Int}(hb:Bt code) (h:Cu code n (c0,at_,seed)) (hn:n≤5000000000000000):Rn (zbB c0 at_ seed) (fun z=>Dg z.1):=by
 unfold zbB
 refine zae (zql (zon hb h (by omega)) (zpt hb h (by omega))) fun z ⟨⟨z1,z2⟩,z3⟩=>?_
 have g1:=z1.p
 have g2:=z1.q
 have g3:=z1.g
 refine zae (zeh hb z2 (by omega)) fun y ⟨_,_,_,_,y5⟩=>?_
 rw[zap (n:=z.1.P+2) (by omega) (by omega),zap (n:=z.1.Q+1) (by omega) (by omega),zap (n:=z.1.P-1) (by omega) (by omega),zap (n:=z.1.G+1) (by omega) (by omega)]
 refine zae (ψ:=fun x=>Dg (Group.mk x.2.1 x.2.2.1 x.2.2.2)) ?_ fun x hx=>zab hx
 refine zam (fun _=>?_) fun _=>zam (fun _=>?_) fun _=>zam (fun _=>?_) fun _=>zab (zk5 z3 (by simp[zmL]))
 ·exact zae (zdO hb y5 (by omega) (by simp)) fun x ⟨x1,x2⟩=>zab (zk5 z3 (by unfold zmL;exact List.mem_append_left _ (List.mem_append_left _ (List.mem_cons_of_mem _ (List.mem_map.2 ⟨_,x1,rfl⟩)))))
 ·exact zae (zdO hb y5 (by omega) (by simp)) fun x ⟨x1,x2⟩=>zab (zk5 z3 (by unfold zmL;exact List.mem_append_left _ (List.mem_append_right _ (List.mem_map.2 ⟨_,x1,rfl⟩))))
 exact zae (zdO hb y5 (by omega) (by simp)) fun x ⟨x1,x2⟩=>zab (zk5 z3 (by unfold zmL;exact List.mem_append_right _ (List.mem_map.2 ⟨_,x1,rfl⟩)))
theorem zqp {code c0:List Int}{at_ seed n:Int}(hb:Bt code) (h:Cu code n (c0,at_,seed)) (hn:n≤1000000000000000):Rn (zck c0 at_ seed) (fun z=>(Gw z.1∧Dg z.1)∧z.2.2.1.length≤13∧Cu code (n+400) z.2.2.2.2.2):=by
 unfold zck
 refine zae (zql (zon hb h (by omega)) (zpt hb h (by omega))) fun z ⟨⟨z1,z2⟩,z3⟩=>zae (zne hb z2 (by omega)) fun y y1=>?_
 refine zae (ψ:=fun x=>(Gw (Group.mk x.2.1 x.2.2.1 x.2.2.2)∧Dg (Group.mk x.2.1 x.2.2.1 x.2.2.2))∧Cu code (n+20) x.1) (zam (fun _=>zae (zql (zst hb y1 (by omega)) (zqW hb y1 (by omega))) fun w ⟨⟨w1,w2⟩,w3⟩=>zab ⟨⟨w1,w3⟩,w2.mono (by omega)⟩) fun _=>zab ⟨⟨z1.w,zk5 z3 (by simp[zmL])⟩,y1.mono (by omega)⟩) fun x ⟨⟨x1,x0⟩,x2⟩=>?_
 refine zae (zeh hb x2 (by omega)) fun p ⟨p1,_,p3,_,p5⟩=>?_
 have p3:=p3 (by omega)
 obtain⟨K,hK⟩:=Int.eq_ofNat_of_zero_le p1
 rw[hK,zap (n:=1+(K:Int)) (by omega) (by omega)]
 refine zae (ψ:=fun r=>r.2.length=K+1∧Cu code (n+60) r.1) (zeb (K+1) (fun j s=>s.2.2=(K:Int)+1-j∧s.2.1.length=j∧Cu code (n+22+8*j) s.1) ⟨by dsimp only;omega,rfl,p5.mono (by omega)⟩ ?_ ?_) fun r ⟨r1,r2⟩=>?_
 ·rintro j ⟨c,l,i⟩ hj ⟨h1,h2,h3⟩
  have h1:i=(K:Int)+1-j:=h1
  have h2:l.length=j:=h2
  refine zf0 (by simp;omega) (zae (zvR hb h3 (by omega) x1) fun w w1=>zau (by dsimp only;omega) (zab ⟨?_,by simp[h2],w1.mono (by push_cast;omega)⟩))
  show IntKind.i64.wrap (i-1)=_
  rw[zap (by omega) (by omega)];push_cast;omega
 ·rintro⟨c,l,i⟩ ⟨h1,h2,h3⟩
  have h1:i=(K:Int)+1-((K+1:Nat):Int):=h1
  exact za1 (by simp;omega) (zab ⟨h2,h3.mono (by omega)⟩)
 refine zae (zAq hb r2 (by omega) (by omega)) fun u ⟨u1,u2⟩=>?_
 refine zae (zsL hb u2 (by omega) x1 (by omega)) fun v ⟨v1,v2⟩=>?_
 refine zae (zeh hb v2 (by omega)) fun q ⟨_,_,_,_,q5⟩=>?_
 refine zae (ψ:=fun x=>x.2.1.length≤13∧Cu code (n+300) x.1) (zam (fun _=>?_) fun _=>zam (fun _=>?_) fun _=>zam (fun _=>zab ⟨by simp,q5.mono (by omega)⟩) fun _=>zam (fun _=>?_) fun _=>zab ⟨by dsimp only;omega,q5.mono (by omega)⟩) fun w ⟨w1,w2⟩=>?_
 ·exact zae (zms hb q5 (by omega) x1) fun w w1=>zaQ (k:=0) (by omega) (zab ⟨by show(r.2.set _ _).length≤_;rw[List.length_set];omega,w1.mono (by omega)⟩)
 ·exact zae (zdO hb q5 (by omega) (by simp)) fun w ⟨_,w1⟩=>zaQ (k:=0) (by omega) (zab ⟨by dsimp only;omega,w1.mono (by omega)⟩)
 ·refine zeq (fun s=>1≤s.2.length∧s.2.length≤13∧Cu code (n+200+2*s.2.length) s.1) (fun s=>13-s.2.length) ⟨by dsimp only;omega,by dsimp only;omega,q5.mono (by dsimp only;omega)⟩ ?_
  rintro⟨c,l⟩ ⟨h1,h2,h3⟩
  have h1:1≤l.length:=h1
  have h2:l.length≤13:=h2
  have h3:Cu code (n+200+2*l.length) c:=h3
  refine zae (zeh hb h3 (by omega)) fun w ⟨w1,_,w3,_,w5⟩=>?_
  have w3:=w3 (by omega)
  dsimp only
  rw[zap (n:=12+w.1) (by omega) (by omega)]
  refine zam (fun g=>?_) fun _=>zab ⟨by dsimp only;omega,w5.mono (by omega)⟩
  have g:(l.length:Int)<12+w.1:=by simpa using g
  exact zaQ (k:=0) (by omega) (zau (by omega) (zab ⟨⟨by simp,by simp;omega,w5.mono (by simp;omega)⟩,by simp;omega⟩))
 exact zae (zjg hb w2 (by omega) x1) fun t ⟨_,_,t3⟩=>zab ⟨⟨x1,x0⟩,w1,t3.mono (by omega)⟩
def rg (f:Nat→Int) (n:Nat):List Int:=(List.range n).map f
theorem zaH (f:Nat→Int) (n:Nat):(rg f n).length=n:=by simp[rg]
theorem zzq (f:Nat→Int):rg f 0=[]:=rfl
theorem zjB (f:Nat→Int) (n:Nat):rg f (n+1)=rg f n++[f n]:=by simp[rg,List.range_succ]
theorem zwL (f:Nat→Int) (n:Nat) (A:List Int):A++rg f (n+1)=(A++rg f n)++[f n]:=by rw[zjB,List.append_assoc]
theorem zlY (f:Nat→Int) {n i:Nat}(h:i<n):ix (rg f n) (i:Int)=some (f i):=by
 rw[zed (by rw[zaH];exact h)];simp[rg]
theorem zeD (f:Nat→Int) {n i:Nat}(h:i<n):(rg f n).getD i 0=f i:=by
 rw[zaC (by rw[zaH];exact h)];simp[rg]
theorem ze6 {P:Int→Prop}{f:Nat→Int}{n:Nat}(h:∀i,i<n→P (f i)):∀x∈rg f n,P x:=by
 intro x hx
 obtain⟨i,hi,rfl⟩:=List.mem_map.1 hx
 exact h i (List.mem_range.1 hi)
theorem zcD {P:Int→Prop}{l:List Int}(h:∀x∈l,P x) {i:Nat}(hi:i<l.length):P (l.getD i 0):=by
 rw[zaC hi];exact h _ (List.getElem_mem hi)
theorem zeX {l:List Int}{i:Nat}(hi:i<l.length):ix l (i:Int)=some (l.getD i 0):=by rw[zed hi,zaC hi]
theorem zki {σ γ:Type}{body:Int→σ→Option (Stp σ γ)}{stop:σ→γ}{n:Nat}{s0:σ}(S:Nat→σ) (h0:s0=S 0) (hs:∀i,i<n→Rn (body (i:Int) (S i)) (· =.go (S (i+1)))):zaq body stop n 0 s0=some (stop (S n)):=by
 refine zaw (zbb (fun i y=>y=S i) h0 ?_ ?_)
 ·rintro i y hi rfl
  obtain⟨v,h1,rfl⟩:=hs i hi
  exact⟨_,h1,rfl⟩
 rintro y rfl;rfl
def vc (gr:Group) (h x r:Int):Int:=zao gr [zah gr gr.G x,zah gr h r]
theorem zyF {gr:Group}(k:OkG gr) (h x r:Int):R9 (vc gr h x r):=zft k (zba k _ _) (zba k _ _)
theorem zlA {gr:Group}(k:OkG gr) {h:Int}(hh:zal gr h=true) (x r:Int):zal gr (vc gr h x r)=true:=zfu k (zdt k (zeI k) _) (zdt k hh _)
theorem zkp {gr:Group}(k:OkG gr) {B:Bases}(hh:R9 B.H) (x r:Int):zaW gr B x r=some (vc gr B.H x r):=by
 unfold zaW
 rw[pwI k (r_G k),Option.bind_some,pwI k hh,Option.bind_some,m2I k (zba k _ _) (zba k _ _)];rfl
structure Pc where
 a:List Int
 b:List Int
 c:List Int
 w:List Int
 v:List Int
 s:List Int
 g:Int
 k:List Int
 m:List Int
 f:Int
structure PcOk (q:Int) (n:Nat) (C:Pc):Prop where
 a:C.a.length=n∧∀z∈C.a,E9 q z
 b:C.b.length=n∧∀z∈C.b,E9 q z
 c:C.c.length=n∧∀z∈C.c,E9 q z
 w:C.w.length=n∧∀z∈C.w,E9 q z
 v:C.v.length=n∧∀z∈C.v,E9 q z
 s:C.s.length=n∧∀z∈C.s,E9 q z
 g:E9 q C.g
 k:C.k.length=n∧∀z∈C.k,E9 q z
 m:C.m.length=n∧∀z∈C.m,E9 q z
 f:E9 q C.f
def plF (gr:Group) (h:Int) (perm:List Int) (C:Pc) (i:Nat):Int:=vc gr h (perm.getD i 0+1) (C.a.getD i 0)
def eF (q x:Int) (perm:List Int) (i:Nat):Int:=((x.toNat^(perm.getD i 0+1).toNat%q.toNat:Nat):Int)
def pwF (gr:Group) (h:Int) (e:Nat→Int) (C:Pc) (i:Nat):Int:=vc gr h (e i) (C.b.getD i 0)
def uF (q y z:Int) (e:Nat→Int) (perm:List Int) (i:Nat):Int:=(y*(perm.getD i 0+1)+e i-z)%q
def prN (q:Int) (u:Nat→Int):Nat→Int
 |0=>1
 |i+1=>(prN q u i*u i)%q
def chF (gr:Group) (h:Int) (u:Nat→Int) (C:Pc) (i:Nat):Int:=vc gr h (prN gr.Q u (i+1)) (C.c.getD i 0)
def lsF (C:Pc):Nat→Int
 |0=>0
 |i+1=>C.c.getD i 0
def dlF (q:Int) (u:Nat→Int) (C:Pc) (i:Nat):Int:=(C.c.getD i 0-lsF C i*u i)%q
def c1F (gr:Group) (h:Int) (C:Pc) (i:Nat):Int:=vc gr h (C.w.getD i 0) (C.v.getD i 0)
def c2F (gr:Group) (h:Int) (ch:List Int) (C:Pc) (i:Nat):Int:=zao gr [zah gr (bef gr.G ch i) (C.w.getD i 0),zah gr h (C.s.getD i 0)]
def c4F (gr:Group) (h:Int) (C:Pc) (i:Nat):Int:=vc gr h (C.k.getD i 0) (C.m.getD i 0)
def abF (q y:Int) (C:Pc) (i:Nat):Int:=(y*C.a.getD i 0+C.b.getD i 0)%q
def rF (q t:Int) (w:List Int) (u:Nat→Int) (i:Nat):Int:=(w.getD i 0+t*u i)%q
theorem zze {q:Int}(hq:0<q) (x:Int) (perm:List Int) (i:Nat):E9 q (eF q x perm i):=by
 have h:=Nat.mod_lt (x.toNat^(perm.getD i 0+1).toNat) (show 0<q.toNat by omega)
 exact⟨Int.natCast_nonneg _,by unfold eF;omega⟩
theorem zBt {q:Int}(hq:1<q) (u:Nat→Int):∀i,E9 q (prN q u i)
 |0=>⟨by show(0:Int)≤1;omega,hq⟩
 |i+1=>zdL (by omega) _
theorem zzi {gr:Group}(k:OkG gr) {x p:Int}(hx:E9 gr.Q x) (hp:0≤p∧p≤1000):zbG x (IntKind.i64.wrap (p+1)) gr.Q=some ((x.toNat^(p+1).toNat%gr.Q.toNat:Nat):Int)∧zbi x (IntKind.i64.wrap (p+1)) gr.Q=some ((x.toNat^(p+1).toNat%gr.Q.toNat:Nat):Int):=by
 have hP:=k.p
 have hq:=k.q
 rw[zap (by omega) (by omega)]
 exact zfi hx.1 (by have:=hx.2;omega) (by omega) (by omega) (by omega) (by omega)
theorem zxK {q a b:Int}:(a-b%q)%q=(a-b)%q:=by rw[Int.sub_emod,Int.emod_emod,←Int.sub_emod]
theorem e_u {q y p e z:Int}(hq:0<q∧q≤2000000000) (hy:E9 q y) (hp:0≤p∧p≤1000) (he:E9 q e) (hz:E9 q z):IntKind.i64.wrap (IntKind.i64.wrap (IntKind.i64.wrap (y*IntKind.i64.wrap (p+1))+e)-z)=y*(p+1)+e-z:=by
 have h1:0≤y*(p+1):=Int.mul_nonneg hy.1 (by omega)
 have h2:y*(p+1)≤2000000000*1001:=Int.mul_le_mul (by have:=hy.2;omega) (by omega) (by omega) (by omega)
 have:=he.1;have:=he.2;have:=hz.1;have:=hz.2
 rw[zap (n:=p+1) (by omega) (by omega),zap (n:=y*(p+1)) (by omega) (by omega),zap (n:=y*(p+1)+e) (by omega) (by omega),zap (by omega) (by omega)]
section
variable {gr:Group}{h:Int}{perm:List Int}{C:Pc}{n:Nat}
theorem zw0 {CM:Int→Int→Option Int}(hC:∀x r,CM x r=some (vc gr h x r)) (hp:∀x∈perm,0≤x∧x≤1000) (hl:perm.length=n) (ha:C.a.length=n) (hn:n≤100):zaq (σ:=(List Int)) (fun i5 s4=>
 (ix perm i5).bind fun x11=>
 (ix C.a i5).bind fun x12=>
 (CM (IntKind.i64.wrap (x11+1)) x12).bind fun z13=>
 gd ((s4.length+1)*8≤140737488355328∧s4.length+1≤4611686018427387904)<|
 some (.go (s4++[z13]))) (fun s4=>s4) perm.length 0 []=some (rg (plF gr h perm C) n):=by
 rw[hl]
 refine zki (fun i=>rg (plF gr h perm C) i) rfl fun i hi=>?_
 have hp:=zcD hp (i:=i) (by omega)
 refine zaa (zeX (by omega)) (zaa (zeX (by omega)) ?_)
 rw[zap (n:=perm.getD i 0+1) (by omega) (by omega)]
 refine zaa (hC _ _) (zau (by rw[zaH];omega) (zab ?_))
 rw[zjB];rfl
theorem zCO (k:OkG gr) {B:Bases}(hh:R9 B.H) (hp:∀x∈perm,0≤x∧x≤1000) (hl:perm.length=n) (ha:C.a.length=n) (hn:n≤100):zcz gr B perm C.a=some (rg (plF gr B.H perm C) n):=by
 unfold zcz
 rw[zw0 (zkp k hh) hp hl ha hn];rfl
end
abbrev sX:ByteArray:=⟨#[109,105,120,32,120]⟩
abbrev sY:ByteArray:=⟨#[109,105,120,32,121]⟩
abbrev sZ:ByteArray:=⟨#[109,105,120,32,122]⟩
abbrev sE:ByteArray:=⟨#[109,105,120,32,101,110,100]⟩
section
variable {gr:Group}{h:Int}{perm:List Int}{C:Pc}{n:Nat}
theorem zw9 (k:OkG gr) {B:Bases}(hh:R9 B.H) (hp:∀x∈perm,0≤x∧x≤1000) (hl:perm.length=n) (hb:C.b.length=n) (hn:n≤100) {x:Int}(hx:E9 gr.Q x) {A:List Int}:zaq (σ:=(List Int)×List Int×List Int×List Int×List Int×List Int×List Int) (fun i33 s32=>
 (ix perm i33).bind fun x39=>
 (zbG x (IntKind.i64.wrap (x39+1)) gr.Q).bind fun z40=>
 gd ((s32.2.2.2.2.2.2.length+1)*8≤140737488355328∧s32.2.2.2.2.2.2.length+1≤4611686018427387904)<|
 (some (s32.2.2.2.2.2.2++[z40])).bind fun x41=>
 (ix x41 i33).bind fun x43=>
 (ix C.b i33).bind fun x44=>
 (zaW gr B x43 x44).bind fun z45=>
 gd ((s32.2.1.length+1)*8≤140737488355328∧s32.2.1.length+1≤4611686018427387904)<|
 some (.go (s32.1,s32.2.1++[z45],s32.2.2.1,s32.2.2.2.1,s32.2.2.2.2.1,s32.2.2.2.2.2.1,x41))) (fun s32=>(s32.1,s32.2.1,s32.2.2.1,s32.2.2.2.1,s32.2.2.2.2.1,s32.2.2.2.2.2.1,s32.2.2.2.2.2.2)) perm.length 0 (A,[],[],[],[],[],[])=some (A,rg (pwF gr B.H (eF gr.Q x perm) C) n,[],[],[],[],rg (eF gr.Q x perm) n):=by
 rw[hl]
 refine zki (fun i=>(A,rg (pwF gr B.H (eF gr.Q x perm) C) i,[],[],[],[],rg (eF gr.Q x perm) i)) rfl fun i hi=>?_
 have hp:=zcD hp (i:=i) (by omega)
 refine zaa (zeX (by omega)) (zaa (zzi k hx hp).1 (zau (by rw[zaH];omega) (zaa (a:=rg (eF gr.Q x perm) (i+1)) (by rw[zjB];rfl) (zaa (zlY _ (by omega)) (zaa (zeX (by omega)) (zaa (zkp k hh _ _) (zau (by rw[zaH];omega) (zab ?_))))))))
 rw[zjB (pwF gr B.H (eF gr.Q x perm) C)];rfl
theorem zxt (k:OkG gr) {B:Bases}(hh:R9 B.H) (hp:∀x∈perm,0≤x∧x≤1000) (hl:perm.length=n) (c:PcOk gr.Q n C) (hn:n≤100) {x y z:Int}(hy:E9 gr.Q y) (hz:E9 gr.Q z) {A W:List Int}:zaq (σ:=(List Int)×List Int×List Int×List Int×List Int×List Int×List Int×Int×List Int) (fun i80 s79=>
 (ix perm i80).bind fun x86=>
 (ix (rg (eF gr.Q x perm) n) i80).bind fun x87=>
 (zak gr (IntKind.i64.wrap ((IntKind.i64.wrap ((IntKind.i64.wrap (y*(IntKind.i64.wrap (x86+1))))+x87))-z))).bind fun z88=>
 gd ((s79.2.2.2.2.2.2.1.length+1)*8≤140737488355328∧s79.2.2.2.2.2.2.1.length+1≤4611686018427387904)<|
 (some (s79.2.2.2.2.2.2.1++[z88])).bind fun x89=>
 (ix x89 i80).bind fun x91=>
 (zak gr (IntKind.i64.wrap (s79.2.2.2.2.2.2.2.1*x91))).bind fun z92=>
 (ix C.c i80).bind fun x93=>
 (zaW gr B z92 x93).bind fun z94=>
 gd ((s79.2.2.1.length+1)*8≤140737488355328∧s79.2.2.1.length+1≤4611686018427387904)<|
 ((if decide (0<i80)=true then(
 (ix C.c (IntKind.i64.wrap (i80-1))).bind fun x99=>
 (zak gr (IntKind.i64.wrap (x99*x91))).bind fun z100=>
 (zak gr (IntKind.i64.wrap (x93-z100))).bind fun z101=>
 some z101)else(
 some x93):Option Int).bind fun x97=>
 gd ((s79.2.2.2.2.2.2.2.2.length+1)*8≤140737488355328∧s79.2.2.2.2.2.2.2.2.length+1≤4611686018427387904)<|
 some (.go (s79.1,s79.2.1,s79.2.2.1++[z94],s79.2.2.2.1,s79.2.2.2.2.1,s79.2.2.2.2.2.1,x89,z92,s79.2.2.2.2.2.2.2.2++[x97])))) (fun s79=>(s79.1,s79.2.1,s79.2.2.1,s79.2.2.2.1,s79.2.2.2.2.1,s79.2.2.2.2.2.1,s79.2.2.2.2.2.2.1,s79.2.2.2.2.2.2.2.2)) perm.length 0 (A,W,[],[],[],[],[],1,[])=
  some (A,W,rg (chF gr B.H (uF gr.Q y z (eF gr.Q x perm) perm) C) n,[],[],[],rg (uF gr.Q y z (eF gr.Q x perm) perm) n,rg (dlF gr.Q (uF gr.Q y z (eF gr.Q x perm) perm) C) n):=by
 rw[hl]
 have hP:=k.p
 have hq:=k.q
 have hq2:0<gr.Q∧gr.Q≤2000000000:=by omega
 generalize hu:uF gr.Q y z (eF gr.Q x perm) perm=u
 have hue:∀i,E9 gr.Q (u i):=fun i=>by rw[←hu];exact zdL hq2.1 _
 refine zki (fun i=>(A,W,rg (chF gr B.H u C) i,[],[],[],rg u i,prN gr.Q u i,rg (dlF gr.Q u C) i)) rfl fun i hi=>?_
 have hp:=zcD hp (i:=i) (by omega)
 have hc:=zcD c.c.2 (i:=i) (by have:=c.c.1;omega)
 have hm:=(e_m (q:=gr.Q) (by omega) (zBt (by omega) u i) (hue i)).1
 refine zaa (zeX (by omega)) (zaa (zlY _ hi) (zaa (zdQ k _) ?_))
 rw[e_u hq2 hy hp (zze hq2.1 _ _ _) hz,show(y*(perm.getD i 0+1)+eF gr.Q x perm i-z)%gr.Q=u i by rw[←hu];rfl]
 refine zau (by rw[zaH];omega) (zaa (a:=rg u (i+1)) (by rw[zjB]) (zaa (zlY _ (by omega)) (zaa (zdQ k _) ?_)))
 rw[hm]
 refine zaa (zeX (by have:=c.c.1;omega)) (zaa (zkp k hh _ _) (zau (by rw[zaH];omega) (zae (ψ:=(· =dlF gr.Q u C i)) ?_ ?_)))
 ·refine zam (fun g=>?_) fun g=>zab ?_
  ·have g:0<(i:Int):=by simpa using g
   obtain⟨j,rfl⟩:∃j,i=j+1:=⟨i-1,by omega⟩
   have hj:=zcD c.c.2 (i:=j) (by have:=c.c.1;omega)
   rw[zfo (m:=j) (by omega) (by omega)]
   refine zaa (zeX (by have:=c.c.1;omega)) (zaa (zdQ k _) ?_)
   rw[(e_m (q:=gr.Q) (by omega) hj (hue (j+1))).1]
   refine zaa (zdQ k _) (zab ?_)
   have hx:=zdL hq2.1 (C.c.getD j 0*u (j+1))
   rw[zap (by have:=hc.1;have:=hx.2;omega) (by have:=hc.2;have:=hx.1;omega),zxK];rfl
  have g:¬0<(i:Int):=by simpa using g
  have e:i=0:=by omega
  subst e
  show C.c.getD 0 0=(C.c.getD 0 0-0*u 0)%gr.Q
  rw[Int.zero_mul,Int.sub_zero,Int.emod_eq_of_lt hc.1 hc.2]
 rintro _ rfl
 refine zau (by rw[zaH];omega) (zab ?_)
 rw[zjB (chF gr B.H u C),zjB (dlF gr.Q u C)];rfl
theorem zrS {CM:Int→Int→Option Int}(hC:∀x r,CM x r=some (vc gr h x r)) {w v:List Int}(hw:w.length=n) (hv:v.length=n) (hn:n≤100) {A:List Int}(hA:A.length≤1000):zaq (σ:=(List Int)) (fun i112 s111=>
 (ix w i112).bind fun x118=>
 (ix v i112).bind fun x119=>
 (CM x118 x119).bind fun z120=>
 gd ((s111.length+1)*8≤140737488355328∧s111.length+1≤4611686018427387904)<|
 some (.go (s111++[z120]))) (fun s111=>s111) n 0 A=some (A++rg (fun i=>vc gr h (w.getD i 0) (v.getD i 0)) n):=by
 refine zki (fun i=>A++rg (fun i=>vc gr h (w.getD i 0) (v.getD i 0)) i) (by rw[zzq,List.append_nil]) fun i hi=>?_
 refine zaa (zeX (by omega)) (zaa (zeX (by omega)) (zaa (hC _ _) (zau (by rw[List.length_append,zaH];omega) (zab ?_))))
 rw[zwL]
theorem zxW (k:OkG gr) (hh:R9 h) {ch:List Int}(hc:ch.length=n∧∀z∈ch,zal gr z=true) (c:PcOk gr.Q n C) (hn:n≤100) {A:List Int}(hA:A.length≤1000):zaq (σ:=(List Int)) (fun i129 s128=>
 (ix ([gr.G]++ch) i129).bind fun x135=>
 (ix C.w i129).bind fun x136=>
 (ix C.s i129).bind fun x137=>
 (zag gr x135 x136).bind fun z138=>
 (zag gr h x137).bind fun z139=>
 (zai gr [z138,z139]).bind fun z140=>
 gd ((s128.length+1)*8≤140737488355328∧s128.length+1≤4611686018427387904)<|
 some (.go (s128++[z140]))) (fun s128=>s128) n 0 A=some (A++rg (c2F gr h ch C) n):=by
 refine zki (fun i=>A++rg (c2F gr h ch C) i) (by rw[zzq,List.append_nil]) fun i hi=>?_
 have hb:=zsC k (zeI k) hc.2 i (by omega)
 refine zaa hb.1 (zaa (zeX (by have:=c.w.1;omega)) (zaa (zeX (by have:=c.s.1;omega)) (zaa (pwI k hb.2 _) (zaa (pwI k hh _) (zaa (m2I k (zba k _ _) (zba k _ _)) (zau (by rw[List.length_append,zaH];omega) (zab ?_)))))))
 rw[zwL];rfl
theorem zF2 {q y a b:Int}(hq:q≤2000000000) (hy:E9 q y) (ha:E9 q a) (hb:E9 q b):IntKind.i64.wrap (IntKind.i64.wrap (y*a)+b)=y*a+b:=by
 have h1:0≤y*a:=Int.mul_nonneg hy.1 ha.1
 have h2:y*a≤2000000000*2000000000:=Int.mul_le_mul (by have:=hy.2;omega) (by have:=ha.2;omega) ha.1 (by omega)
 have:=hb.1;have:=hb.2
 rw[zap (n:=y*a) (by omega) (by omega),zap (by omega) (by omega)]
theorem zx2 (k:OkG gr) (c:PcOk gr.Q n C) {u d e:Nat→Int}(hu:∀i,E9 gr.Q (u i)) (hd:∀i,E9 gr.Q (d i)) (he:∀i,E9 gr.Q (e i)) (hn:n≤100) {y t:Int}(hy:E9 gr.Q y) (ht:E9 gr.Q t):zaq (σ:=(List Int)×List Int×List Int×List Int×List Int) (fun i205 s204=>
 (ix C.w i205).bind fun x211=>
 (ix (rg u n) i205).bind fun x212=>
 (zak gr (IntKind.i64.wrap (x211+(IntKind.i64.wrap (t*x212))))).bind fun z213=>
 gd ((s204.1.length+1)*8≤140737488355328∧s204.1.length+1≤4611686018427387904)<|
 (ix C.v i205).bind fun x214=>
 (ix C.a i205).bind fun x215=>
 (ix C.b i205).bind fun x216=>
 (zak gr (IntKind.i64.wrap ((IntKind.i64.wrap (y*x215))+x216))).bind fun z217=>
 (zak gr (IntKind.i64.wrap (x214+(IntKind.i64.wrap (t*z217))))).bind fun z218=>
 gd ((s204.2.1.length+1)*8≤140737488355328∧s204.2.1.length+1≤4611686018427387904)<|
 (ix C.s i205).bind fun x219=>
 (ix (rg d n) i205).bind fun x220=>
 (zak gr (IntKind.i64.wrap (x219+(IntKind.i64.wrap (t*x220))))).bind fun z221=>
 gd ((s204.2.2.1.length+1)*8≤140737488355328∧s204.2.2.1.length+1≤4611686018427387904)<|
 (ix C.k i205).bind fun x222=>
 (ix (rg e n) i205).bind fun x223=>
 (zak gr (IntKind.i64.wrap (x222+(IntKind.i64.wrap (t*x223))))).bind fun z224=>
 gd ((s204.2.2.2.1.length+1)*8≤140737488355328∧s204.2.2.2.1.length+1≤4611686018427387904)<|
 (ix C.m i205).bind fun x225=>
 (zak gr (IntKind.i64.wrap (x225+(IntKind.i64.wrap (t*x216))))).bind fun z226=>
 gd ((s204.2.2.2.2.length+1)*8≤140737488355328∧s204.2.2.2.2.length+1≤4611686018427387904)<|
 some (.go (s204.1++[z213],s204.2.1++[z218],s204.2.2.1++[z221],s204.2.2.2.1++[z224],s204.2.2.2.2++[z226]))) (fun s204=>(s204.1,s204.2.1,s204.2.2.1,s204.2.2.2.1,s204.2.2.2.2)) n 0 ([],[],[],[],[])=
  some (rg (rF gr.Q t C.w u) n,rg (rF gr.Q t C.v (abF gr.Q y C)) n,rg (rF gr.Q t C.s d) n,rg (rF gr.Q t C.k e) n,rg (rF gr.Q t C.m (fun i=>C.b.getD i 0)) n):=by
 have hP:=k.p
 have hq:=k.q
 refine zki (fun i=>(rg (rF gr.Q t C.w u) i,rg (rF gr.Q t C.v (abF gr.Q y C)) i,rg (rF gr.Q t C.s d) i,rg (rF gr.Q t C.k e) i,rg (rF gr.Q t C.m (fun i=>C.b.getD i 0)) i)) rfl fun i hi=>?_
 have ix2:∀{l:List Int},l.length=n→ix l (i:Int)=some (l.getD i 0):=fun h=>zeX (by omega)
 have g2:∀{l:List Int},(l.length=n∧∀z∈l,E9 gr.Q z)→E9 gr.Q (l.getD i 0):=fun h=>zcD h.2 (by omega)
 refine zaa (ix2 c.w.1) (zaa (zlY _ hi) (zaa (zdQ k _) (zau (by rw[zaH];omega) (zaa (ix2 c.v.1) (zaa (ix2 c.a.1) (zaa (ix2 c.b.1) (zaa (zdQ k _) ?_)))))))
 rw[zF2 (q:=gr.Q) (by omega) hy (g2 c.a) (g2 c.b),(zhr (q:=gr.Q) (by omega) (g2 c.w) ht (hu i)).1]
 refine zaa (zdQ k _) (zau (by rw[zaH];omega) (zaa (ix2 c.s.1) (zaa (zlY _ hi) (zaa (zdQ k _) (zau (by rw[zaH];omega) (zaa (ix2 c.k.1) (zaa (zlY _ hi) (zaa (zdQ k _) (zau (by rw[zaH];omega) (zaa (ix2 c.m.1) (zaa (zdQ k _) (zau (by rw[zaH];omega) (zab ?_)))))))))))))
 rw[(zhr (q:=gr.Q) (by omega) (g2 c.v) ht (zdL (by omega) _)).1,(zhr (q:=gr.Q) (by omega) (g2 c.s) ht (hd i)).1,(zhr (q:=gr.Q) (by omega) (g2 c.k) ht (he i)).1,(zhr (q:=gr.Q) (by omega) (g2 c.m) ht (g2 c.b)).1]
 show _=Stp.go _
 simp only[zjB];rfl
end
section
attribute [local irreducible] chG za2 zep za0
def ppP (gr:Group) (h:Int) (perm:List Int) (C:Pc) (n:Nat):List Int:=rg (plF gr h perm C) n
def ppX (gr:Group) (key h:Int) (l:List Cipher) (perm rs:List Int) (C:Pc):Int:=chG gr sX (zep key l (za2 gr key l perm rs) (ppP gr h perm C l.length))
def ppE (gr:Group) (key h:Int) (l:List Cipher) (perm rs:List Int) (C:Pc):Nat→Int:=eF gr.Q (ppX gr key h l perm rs C) perm
def ppW (gr:Group) (key h:Int) (l:List Cipher) (perm rs:List Int) (C:Pc):List Int:=rg (pwF gr h (ppE gr key h l perm rs C) C) l.length
def ppL (gr:Group) (key h:Int) (l:List Cipher) (perm rs:List Int) (C:Pc):List Int:=zep key l (za2 gr key l perm rs) (ppP gr h perm C l.length++ppW gr key h l perm rs C)
def ppY (gr:Group) (key h:Int) (l:List Cipher) (perm rs:List Int) (C:Pc):Int:=chG gr sY (ppL gr key h l perm rs C)
def ppZ (gr:Group) (key h:Int) (l:List Cipher) (perm rs:List Int) (C:Pc):Int:=chG gr sZ (ppL gr key h l perm rs C)
def ppU (gr:Group) (key h:Int) (l:List Cipher) (perm rs:List Int) (C:Pc):Nat→Int:=uF gr.Q (ppY gr key h l perm rs C) (ppZ gr key h l perm rs C) (ppE gr key h l perm rs C) perm
def ppH (gr:Group) (key h:Int) (l:List Cipher) (perm rs:List Int) (C:Pc):List Int:=rg (chF gr h (ppU gr key h l perm rs C) C) l.length
def cmP (gr:Group) (key h:Int) (out:List Cipher) (ch:List Int) (C:Pc) (n:Nat):List Int:=(rg (c1F gr h C) n++rg (c2F gr h ch C) n++[zah gr h C.g])++rg (c4F gr h C) n++[zao gr [zah gr gr.G (IntKind.i64.wrap (0-C.f)),za0 gr (sdV out).1 C.k 1],zao gr [zah gr key (IntKind.i64.wrap (0-C.f)),za0 gr (sdV out).2 C.k 1]]
def ppM (gr:Group) (key h:Int) (l:List Cipher) (perm rs:List Int) (C:Pc):List Int:=cmP gr key h (za2 gr key l perm rs) (ppH gr key h l perm rs C) C l.length
def ppT (gr:Group) (key h:Int) (l:List Cipher) (perm rs:List Int) (C:Pc):Int:=chG gr sE (ppL gr key h l perm rs C++ppH gr key h l perm rs C++ppM gr key h l perm rs C)
def rsV (q y t:Int) (u e:Nat→Int) (rs:List Int) (C:Pc) (n:Nat):List Int:=rg (rF q t C.w u) n++(rg (rF q t C.v (abF q y C)) n++(rg (rF q t C.s (dlF q u C)) n++([(C.g+t*C.c.getD (n-1) 0)%q]++(rg (rF q t C.k e) n++(rg (rF q t C.m (fun i=>C.b.getD i 0)) n++[(C.f+t*dtN q rs (rg e n) n)%q])))))
def ppV (gr:Group) (key h:Int) (l:List Cipher) (perm rs:List Int) (C:Pc):PolyProof:=
 ⟨ppP gr h perm C l.length,ppW gr key h l perm rs C,ppH gr key h l perm rs C,⟨ppM gr key h l perm rs C,[ppT gr key h l perm rs C],rsV gr.Q (ppY gr key h l perm rs C) (ppT gr key h l perm rs C) (ppU gr key h l perm rs C) (ppE gr key h l perm rs C) rs C l.length⟩⟩
structure PpOk (gr:Group) (key h:Int) (l:List Cipher) (perm rs:List Int) (C:Pc):Prop where
 m:MxOk gr key l perm rs
 hh:zal gr h=true
 c:PcOk gr.Q l.length C
section
variable {gr:Group}{key h:Int}{l:List Cipher}{perm rs:List Int}{C:Pc}
theorem PpOk.pr (P:PpOk gr key h l perm rs C):∀z∈perm,0≤z∧z≤1000:=fun z hz=>by have:=P.m.pr z hz;have:=P.m.n;omega
theorem ztd (k:OkG gr) (P:PpOk gr key h l perm rs C):∀z∈ppP gr h perm C l.length,zal gr z=true:=ze6 fun i hi=>zlA k P.hh _ _
theorem zwN (k:OkG gr) (P:PpOk gr key h l perm rs C):∀z∈ppW gr key h l perm rs C,zal gr z=true:=ze6 fun i hi=>zlA k P.hh _ _
theorem zsD (k:OkG gr) (P:PpOk gr key h l perm rs C):(ppH gr key h l perm rs C).length=l.length∧∀z∈ppH gr key h l perm rs C,zal gr z=true:=⟨zaH _ _,ze6 fun i hi=>zlA k P.hh _ _⟩
theorem zdP {P:Int→Prop}{l m:List Int}(h1:∀x∈l,P x) (h2:∀x∈m,P x):∀x∈l++m,P x:=fun x hx=>(List.mem_append.1 hx).elim (h1 x) (h2 x)
theorem zsG (k:OkG gr) (P:PpOk gr key h l perm rs C):(ppM gr key h l perm rs C).length=3*l.length+3∧∀z∈ppM gr key h l perm rs C,R9 z:=by
 have v2:∀i,R9 (c2F gr h (ppH gr key h l perm rs C) C i):=fun i=>zft k (zba k _ _) (zba k _ _)
 refine⟨by unfold ppM cmP;simp[zaH];omega,?_⟩
 unfold ppM cmP
 refine zdP (zdP (zdP (zdP (ze6 fun i _=>zyF k _ _ _) (ze6 fun i _=>v2 i)) ?_) (ze6 fun i _=>zyF k _ _ _)) ?_
 ·intro x hx;rw[List.mem_singleton]at hx;rw[hx];exact zba k _ _
 intro x hx
 simp only[List.mem_cons,List.not_mem_nil,or_false]at hx
 rcases hx with rfl|rfl<;>exact zft k (zba k _ _) (zdN k _ _)
theorem zwH (k:OkG gr) (P:PpOk gr key h l perm rs C):(ppL gr key h l perm rs C).length=1+6*l.length∧(ppL gr key h l perm rs C).all zbh=true:=by
 have hpl:=P.m.pl
 refine⟨by unfold ppL;rw[ziK,zd6,List.length_append,ppP,ppW,zaH,zaH];omega,?_⟩
 unfold ppL
 exact ziO k P.m.key P.m.c (zg4 k P.m) (zec k (List.all_eq_true.2 (zdP (ztd k P) (zwN k P))))
theorem zCy (k:OkG gr) (P:PpOk gr key h l perm rs C):(zep key l (za2 gr key l perm rs) (ppP gr h perm C l.length)).length=1+5*l.length∧(zep key l (za2 gr key l perm rs) (ppP gr h perm C l.length)).all zbh=true:=by
 have hpl:=P.m.pl
 exact⟨by rw[ziK,zd6,ppP,zaH];omega,ziO k P.m.key P.m.c (zg4 k P.m) (zec k (List.all_eq_true.2 (ztd k P)))⟩
theorem zEq (k:OkG gr) (P:PpOk gr key h l perm rs C):(ppL gr key h l perm rs C++ppH gr key h l perm rs C++ppM gr key h l perm rs C).length=4+10*l.length∧(ppL gr key h l perm rs C++ppH gr key h l perm rs C++ppM gr key h l perm rs C).all zbh=true:=by
 have h1:=zwH k P
 have h2:=zsD k P
 have h3:=zsG k P
 refine⟨by rw[List.length_append,List.length_append,h1.1,h2.1,h3.1];omega,?_⟩
 rw[List.all_append,List.all_append,h1.2,zec k (List.all_eq_true.2 h2.2),zwI h3.2];rfl
theorem zl1 (k:OkG gr) {s:ByteArray}{L:List Int}(hs:s.size≤40) (hl:L.length≤300) (hd:L.all zbh=true):zaz gr s L=some (chG gr s L,true)∧zex gr s L=some (chG gr s L):=by
 refine⟨?_,zi5 k (by omega) (by omega) hd⟩
 rw[zny k _ (by omega),if_pos (zph k hs (by omega) hd)]
theorem zwK {L:List Int}(h:L.length≤1000):zb4 L=some L:=zdJ (by omega)
theorem zwR (k:OkG gr) {L:List Int}(hl:L.length≤300) (hd:L.all zbh=true):zcu gr L=some (chG gr sY L,chG gr sZ L,true):=by
 unfold zcu
 exact zaw (zaa (zl1 k (by decide) hl hd).1 (zaa (zl1 k (by decide) hl hd).1 (zae (ψ:=(· =false)) (za1 rfl (zab rfl)) fun b hb=>by subst hb;exact za1 rfl (zab rfl))))
def Pc.cs (C:Pc):List Int:=C.a++(C.b++(C.c++(C.w++(C.v++(C.s++(C.g::(C.k++(C.m++[C.f]))))))))
attribute [local irreducible] rg plF pwF chF uF dlF c2F rF abF eF dtN sdV vc
set_option maxHeartbeats 4000000 in
theorem zDQ (k:OkG gr) {B:Bases}(P:PpOk gr key B.H l perm rs C):zdd gr B key l perm rs C.cs=some (ppV gr key B.H l perm rs C,true):=by
 have hp:=k.p
 have hq:=k.q
 have hq2:0<gr.Q∧gr.Q≤2000000000:=by omega
 have hn:=P.m.n
 have hpl:=P.m.pl
 have hrl:=P.m.rl
 have hk:=zc6 k P.m.key
 have hH:=zc6 k P.hh
 have hml:(za2 gr key l perm rs).length=l.length:=by rw[zd6,P.m.pl]
 have hsd:=zl9 k (zg4 k P.m)
 have hsl:=zf3 (za2 gr key l perm rs)
 rw[hml]at hsl
 have hx:E9 gr.Q (ppX gr key B.H l perm rs C):=zgn k _ _
 have hy:E9 gr.Q (ppY gr key B.H l perm rs C):=zgn k _ _
 have hz:E9 gr.Q (ppZ gr key B.H l perm rs C):=zgn k _ _
 have ht:E9 gr.Q (ppT gr key B.H l perm rs C):=zgn k _ _
 have a1:=zCy k P
 have a2:=zwH k P
 have a3:=zEq k P
 have a4:=zsG k P
 have a5:=zsD k P
 have ee:∀i,E9 gr.Q (ppE gr key B.H l perm rs C i):=fun i=>zze hq2.1 _ _ _
 have ue:∀i,E9 gr.Q (ppU gr key B.H l perm rs C i):=fun i=>by unfold ppU uF;exact zdL hq2.1 _
 have de:∀i,E9 gr.Q (dlF gr.Q (ppU gr key B.H l perm rs C) C i):=fun i=>by unfold dlF;exact zdL hq2.1 _
 have lP:(ppP gr B.H perm C l.length).length=l.length:=zaH _ _
 have lW:(ppW gr key B.H l perm rs C).length=l.length:=zaH _ _
 have c1:=zpi k P.m
 have c2:=zCO (B:=B) k hH P.pr hpl P.c.a.1 (by omega)
 have c3:=zj9 (key:=key) (l:=l) (out:=za2 gr key l perm rs) (m:=ppP gr B.H perm C l.length) (by omega) (by omega) (by omega)
 have c4:=(zl1 k (s:=sX) (by decide) (by omega) a1.2).1
 have c5:=zw9 (B:=B) (A:=ppP gr B.H perm C l.length) k hH P.pr hpl P.c.b.1 (by omega) hx
 have c6:=zj9 (key:=key) (l:=l) (out:=za2 gr key l perm rs) (m:=ppP gr B.H perm C l.length++ppW gr key B.H l perm rs C) (by omega) (by omega) (by rw[List.length_append];omega)
 have c7:=zwR k (L:=ppL gr key B.H l perm rs C) (by omega) a2.2
 have c8:=zxt (B:=B) (A:=ppP gr B.H perm C l.length) (W:=ppW gr key B.H l perm rs C) k hH P.pr hpl P.c (by omega) (x:=ppX gr key B.H l perm rs C) hy hz
 have c9:=(zrS (A:=[]) (zkp (B:=B) k hH) P.c.w.1 P.c.v.1 (by omega) (by simp)).trans (show _=some (rg (c1F gr B.H C) l.length)from by rw[List.nil_append];rfl)
 have c10:=fun A hA=>zxW (A:=A) k hH a5 P.c (by omega) hA
 have c11:=fun A hA=>zrS (A:=A) (zkp (B:=B) k hH) P.c.k.1 P.c.m.1 (by omega) hA
 have c12:=(ziE (l:=za2 gr key l perm rs) (by omega)).1
 have c13:=zcJ (m:=C.k) k hsd.1 (by have:=P.c.k.1;omega)
 have c14:=zcJ (m:=C.k) k hsd.2 (by have:=P.c.k.1;omega)
 have c15:zaS [ppL gr key B.H l perm rs C,ppH gr key B.H l perm rs C,ppM gr key B.H l perm rs C]=some (ppL gr key B.H l perm rs C++ppH gr key B.H l perm rs C++ppM gr key B.H l perm rs C):=by
  have e:[ppL gr key B.H l perm rs C,ppH gr key B.H l perm rs C,ppM gr key B.H l perm rs C].flatten=ppL gr key B.H l perm rs C++ppH gr key B.H l perm rs C++ppM gr key B.H l perm rs C:=by simp
  rw[zh4 _ (by rw[e,a3.1];omega),e]
 have c16:=(zl1 k (s:=sE) (by decide) (by omega) a3.2).1
 have c17:=zx2 k P.c ue de ee (by omega) hy ht
 have lE:(rg (ppE gr key B.H l perm rs C) l.length).length=l.length:=zaH _ _
 have c18:=((zqv hq2 (l:=rs) (m:=rg (ppE gr key B.H l perm rs C) l.length) (zqo P.m.re) (ze6 fun i _=>ee i) (by omega)).trans (by rw[hrl]):zef rs (rg (ppE gr key B.H l perm rs C) l.length) gr.Q=some (dtN gr.Q rs (rg (ppE gr key B.H l perm rs C) l.length) l.length))
 have hdt:=zo2 hq2.1 rs (rg (ppE gr key B.H l perm rs C) l.length) l.length
 have hcl:ix C.c ((l.length-1:Nat):Int)=some (C.c.getD (l.length-1) 0):=zeX (by have:=P.c.c.1;omega)
 have hcE:E9 gr.Q (C.c.getD (l.length-1) 0):=zcD P.c.c.2 (by have:=P.c.c.1;omega)
 have x1:=(zdQ k _).trans (congrArg (fun v=>some (v%gr.Q)) (zhr (by omega) P.c.g ht hcE).1)
 have x2:=(zdQ k _).trans (congrArg (fun v=>some (v%gr.Q)) (zhr (by omega) P.c.f ht hdt).1)
 have w1:IntKind.i64.wrap ((l.length:Int)-1)=((l.length-1:Nat):Int):=zfo (by omega) (by omega)
 unfold zdd Pc.cs
 refine zaw (zaa (zd0 P.c.a.1) (zaa (zd0 P.c.b.1) (zaa (zd0 P.c.c.1) (zaa (zd0 P.c.w.1) (zaa (zd0 P.c.v.1) (zaa (zd0 P.c.s.1) (zaa (zh8 _ _) (zaa (zd0 P.c.k.1) (zaa (zd0 P.c.m.1) (zaa (zh8 _ _) ?_))))))))))
 dsimp only
 refine zaa c1 (zaa c2 (zaa c3 (zaa c4 (zaa c5 ?_))))
 dsimp only
 refine zaa (zwK (by show(ppP gr B.H perm C l.length).length≤_;omega)) (zau (by rw[lP,zaH];omega) (zaa c6 (zaa c7 (zaa c8 ?_))))
 dsimp only
 refine zau (by rw[zaH];simp;omega) (zaa rfl (zaa c9 (zaa (c10 _ ?_) (zaa (pwI k hH _) (zau ?_ (zaa (c11 _ ?_) (zaa c12 ?_)))))))
 ·rw[zaH];omega
 ·simp only[List.length_append,zaH];omega
 ·simp only[List.length_append,zaH,List.length_cons,List.length_nil];omega
 refine zaa (pwI k (r_G k) _) (zaa c13 (zaa (m2I k (zba k _ _) (zdN k _ _)) (zaa (pwI k hk _) (zaa c14 (zaa (m2I k (zba k _ _) (zdN k _ _)) (zau ?_ (zaa c15 (zaa c16 (zae (ψ:=(· =false)) (za1 rfl (za1 rfl (zab rfl))) ?_)))))))))
 ·simp only[List.length_append,zaH,List.length_cons,List.length_nil];omega
 rintro _ rfl
 refine za1 rfl (zaa c17 ?_)
 rw[w1]
 refine zaa hcl (zaa x1 (zaa c18 (zaa x2 (zaa (zh4 _ ?_) (zab ?_)))))
 ·simp[zaH];omega
 unfold ppV rsV;simp only[List.flatten_cons,List.flatten_nil,List.append_nil];rfl
end
end
theorem zlI {l:List Int}{n m:Nat}(h:l.length=n+m):∃a r,l=a++r∧a.length=n∧r.length=m:=⟨l.take n,l.drop n,(List.take_append_drop n l).symm,by simp;omega,by simp;omega⟩
theorem zCM {q:Int}{n:Nat}{coins:List Int}(hl:coins.length=8*n+2) (he:∀z∈coins,E9 q z):∃C:Pc,coins=C.cs∧PcOk q n C:=by
 obtain⟨a,r,rfl,ha,h1⟩:=zlI (l:=coins) (n:=n) (m:=7*n+2) (by omega)
 obtain⟨b,r,rfl,hb,h2⟩:=zlI (l:=r) (n:=n) (m:=6*n+2) (by omega)
 obtain⟨c,r,rfl,hc,h3⟩:=zlI (l:=r) (n:=n) (m:=5*n+2) (by omega)
 obtain⟨w,r,rfl,hw,h4⟩:=zlI (l:=r) (n:=n) (m:=4*n+2) (by omega)
 obtain⟨v,r,rfl,hv,h5⟩:=zlI (l:=r) (n:=n) (m:=3*n+2) (by omega)
 obtain⟨s,r,rfl,hs,h6⟩:=zlI (l:=r) (n:=n) (m:=2*n+2) (by omega)
 match r,h6 with
 |g::r,h6=>
  simp only[List.length_cons]at h6
  obtain⟨k,r,rfl,hk,h7⟩:=zlI (l:=r) (n:=n) (m:=n+1) (by omega)
  obtain⟨m,r,rfl,hm,h8⟩:=zlI (l:=r) (n:=n) (m:=1) (by omega)
  match r,h8 with
  |[f],_=>
   refine⟨⟨a,b,c,w,v,s,g,k,m,f⟩,rfl,⟨ha,fun z hz=>he z ?_⟩,⟨hb,fun z hz=>he z ?_⟩,⟨hc,fun z hz=>he z ?_⟩,⟨hw,fun z hz=>he z ?_⟩,⟨hv,fun z hz=>he z ?_⟩,⟨hs,fun z hz=>he z ?_⟩,he g ?_,⟨hk,fun z hz=>he z ?_⟩,⟨hm,fun z hz=>he z ?_⟩,he f ?_⟩<;>simp_all
  |[],h=>simp at h
  |_::_::_,h=>simp at h
 |[],h6=>simp at h6
theorem zvy {gr:Group}(k:OkG gr) (hd:okD gr=true) (key:Int) {l:List Cipher}(hl:l.length≤13):∃B,zeH gr 0=some (B,true)∧zaG gr 0=some (B,true)∧zal gr B.H=true∧zd9 gr key l=some (if mkB gr key l=true then(B,true)else(⟨0,[]⟩,false)):=by
 obtain⟨Bn,_,b2,_⟩:=znD k hd (n:=l.length) hl
 obtain⟨B,c1,c2,c3⟩:=znD k hd (n:=0) (by omega)
 have c2:zaG gr 0=some (B,true):=c2
 refine⟨B,c1,c2,c3.h,?_⟩
 unfold zd9
 rw[zht k key l b2,c2]
 cases mkB gr key l<;>rfl
def spB (gr:Group) (n:Nat) (p:PolyProof):Bool:=decide (p.Places.length=n)&&(decide (p.Powers.length=n)&&(decide (p.Chain.length=n)&&(decide (p.Pi.Commits.length=3*n+3)&&(decide (p.Pi.Challenges.length=1)&&(decide (p.Pi.Responses.length=5*n+2)&&(p.Places.all (zal gr)&&(p.Powers.all (zal gr)&&(p.Chain.all (zal gr)&&(p.Pi.Commits.all (zal gr)&&p.Pi.Responses.all (zdV gr))))))))))
theorem zBE {gr:Group}(k:OkG gr) {n:Nat}(hn:n≤1000) (p:PolyProof):zcZ gr p (n:Int)=some (spB gr n p):=by
 have hq:=k.q
 have hp:=k.p
 have e1:IntKind.i64.wrap (IntKind.i64.wrap (3*(n:Int))+3)=((3*n+3:Nat):Int):=by
  rw[zap (n:=3*(n:Int)) (by omega) (by omega)];exact zfo (by omega) (by omega)
 have e2:IntKind.i64.wrap (IntKind.i64.wrap (5*(n:Int))+2)=((5*n+2:Nat):Int):=by
  rw[zap (n:=5*(n:Int)) (by omega) (by omega)];exact zfo (by omega) (by omega)
 have e3:((p.Pi.Challenges.length:Int)==1)=decide (p.Pi.Challenges.length=1):=ze4 _ 1
 unfold zcZ
 rw[e1,e2,ze4,ze4,ze4,ze4,ze4,e3,zg2 k,zg2 k,zg2 k,zg2 k,zh3 (by omega) (by omega)]
 unfold spB
 generalize decide (p.Places.length=n)=a1
 generalize decide (p.Powers.length=n)=a2
 generalize decide (p.Chain.length=n)=a3
 generalize decide (p.Pi.Commits.length=3*n+3)=a4
 generalize decide (p.Pi.Challenges.length=1)=a5
 generalize decide (p.Pi.Responses.length=5*n+2)=a6
 generalize p.Places.all (zal gr)=a7
 generalize p.Powers.all (zal gr)=a8
 generalize p.Chain.all (zal gr)=a9
 generalize p.Pi.Commits.all (zal gr)=a10
 generalize p.Pi.Responses.all (zdV gr)=a11
 cases a1
 ·rfl
 cases a2
 ·rfl
 cases a3
 ·rfl
 cases a4
 ·rfl
 cases a5
 ·rfl
 cases a6
 ·rfl
 cases a7
 ·rfl
 cases a8
 ·rfl
 cases a9
 ·rfl
 cases a10<;>rfl
def pxN (q x:Int):Nat→Int
 |0=>1
 |i+1=>(pxN q x i*x)%q
def tgN (q x y z:Int):Nat→Int
 |0=>1
 |i+1=>(tgN q x y z i*((y*((i:Int)+1)+pxN q x (i+1)-z)%q))%q
theorem zDX {q:Int}(hq:1<q) (x:Int):∀i,E9 q (pxN q x i)
 |0=>⟨by show(0:Int)≤1;omega,hq⟩
 |i+1=>zdL (by omega) _
theorem zB5 {q:Int}(hq:1<q) (x y z:Int):∀i,E9 q (tgN q x y z i)
 |0=>⟨by show(0:Int)≤1;omega,hq⟩
 |i+1=>zdL (by omega) _
theorem zy9 {q:Int}(hq:0<q∧q≤2000000000) (a:Int):ze8 a q=some (a%q):=zsy hq.1 hq.2
theorem zEA {q:Int}(hq:1<q∧q≤2000000000) {n:Nat}(hn:n≤100) {x y z:Int}(hx:E9 q x) (hy:E9 q y) (hz:E9 q z):zdG q (n:Int) x y z=some (tgN q x y z n):=by
 have hq2:0<q∧q≤2000000000:=by omega
 have hQ:q≠0:=by omega
 unfold zdG
 refine zaw (zae (ψ:=(· =tgN q x y z n)) (zeb n (fun i s=>s=(tgN q x y z i,pxN q x i,(i:Int)+1)∧i≤n) ⟨rfl,by omega⟩ ?_ ?_) fun v hv=>zab hv)
 ·rintro i s hi ⟨rfl,_⟩
  have hpx:=zDX hq.1 x i
  have htg:=zB5 hq.1 x y z i
  have m1:=(e_m (q:=q) hq.2 hpx hx).2
  have h1:0≤y*((i:Int)+1):=Int.mul_nonneg hy.1 (by omega)
  have h2:y*((i:Int)+1)≤2000000000*101:=Int.mul_le_mul (by have:=hy.2;omega) (by omega) (by omega) (by omega)
  have b1:=zdL hq2.1 (y*((i:Int)+1))
  have b2:=zdL hq2.1 (pxN q x i*x)
  refine zf0 (by simp;omega) (zau hQ (zau hQ ?_))
  dsimp only
  rw[m1,zap (n:=y*((i:Int)+1)) (by omega) (by omega),Int.tmod_eq_emod_of_nonneg h1,zap (n:=y*((i:Int)+1)%q+pxN q x i*x%q) (by have:=b1.1;have:=b2.1;omega) (by have:=b1.2;have:=b2.2;omega),zap (by have:=b1.1;have:=b2.1;have:=hz.2;omega) (by have:=b1.2;have:=b2.2;have:=hz.1;omega)]
  refine zaa (zy9 hq2 _) (zau hQ (zab ?_))
  have e:(y*((i:Int)+1)%q+pxN q x i*x%q-z)%q=(y*((i:Int)+1)+pxN q x (i+1)-z)%q:=by
   show _=(y*((i:Int)+1)+pxN q x i*x%q-z)%q
   rw[Int.sub_emod,Int.add_emod,Int.emod_emod,Int.emod_emod,Int.sub_emod (y*((i:Int)+1)+_),Int.add_emod (y*((i:Int)+1)),Int.emod_emod]
  rw[e,(e_m (q:=q) hq.2 htg (zdL hq2.1 _)).2,zap (n:=(i:Int)+1+1) (by omega) (by omega)]
  refine⟨?_,by omega⟩
  show _=(tgN q x y z (i+1),pxN q x (i+1),((i+1:Nat):Int)+1)
  rfl
 rintro s ⟨rfl,_⟩
 exact za1 (by simp;omega) (zab rfl)
def upN (q x:Int) (i:Nat):Int:=((x.toNat^(i+1)%q.toNat:Nat):Int)
theorem zBZ {gr:Group}(k:OkG gr) {x:Int}(hx:E9 gr.Q x) {i:Nat}(hi:i≤100):zbG x (IntKind.i64.wrap ((i:Int)+1)) gr.Q=some (upN gr.Q x i)∧zbi x ((i:Int)+1) gr.Q=some (upN gr.Q x i):=by
 have h:=zzi k hx (p:=(i:Int)) (by omega)
 have e:((i:Int)+1).toNat=i+1:=by omega
 have w:IntKind.i64.wrap ((i:Int)+1)=(i:Int)+1:=zap (by omega) (by omega)
 rw[e]at h
 exact⟨h.1,by rw[w]at h;exact h.2⟩
theorem zj1 {gr:Group}(k:OkG gr) {x y w z:Int}(b:Bool) (hx:R9 x) (hy:R9 y):zay x y w b gr.P gr.Q gr.G z=some (b&&(zao gr [x,zah gr y z]==w)):=by
 unfold zay
 cases b
 ·rfl
 show(zag gr y z).bind _=_
 rw[pwI k hy,Option.bind_some]
 show(zai gr _).bind _=_
 rw[m2I k hx (zba k _ _),Option.bind_some]
 rfl
structure Rp where
 s1:List Int
 s2:List Int
 s3:List Int
 g:Int
 kk:List Int
 mm:List Int
 f:Int
def Rp.cs (R:Rp):List Int:=R.s1++(R.s2++(R.s3++(R.g::(R.kk++(R.mm++[R.f])))))
structure RpOk (n:Nat) (R:Rp):Prop where
 s1:R.s1.length=n
 s2:R.s2.length=n
 s3:R.s3.length=n
 kk:R.kk.length=n
 mm:R.mm.length=n
def alB (f:Nat→Bool):Nat→Bool
 |0=>true
 |i+1=>alB f i&&f i
def q1 (gr:Group) (h y z T:Int) (p:PolyProof) (R:Rp) (i:Nat):Bool:=zao gr [p.Pi.Commits.getD i 0,zah gr (zao gr [zah gr (p.Places.getD i 0) y,p.Powers.getD i 0,zah gr gr.G (IntKind.i64.wrap (0-z))]) T]==vc gr h (R.s1.getD i 0) (R.s2.getD i 0)
def q2 (gr:Group) (h T:Int) (p:PolyProof) (R:Rp) (n i:Nat):Bool:=zao gr [p.Pi.Commits.getD (n+i) 0,zah gr (p.Chain.getD i 0) T]==zao gr [zah gr (bef gr.G p.Chain i) (R.s1.getD i 0),zah gr h (R.s3.getD i 0)]
def q4 (gr:Group) (h T:Int) (p:PolyProof) (R:Rp) (n i:Nat):Bool:=zao gr [p.Pi.Commits.getD (2*n+1+i) 0,zah gr (p.Powers.getD i 0) T]==vc gr h (R.kk.getD i 0) (R.mm.getD i 0)
section
variable {gr:Group}{p:PolyProof}{R:Rp}{n:Nat}
theorem zyq (k:OkG gr) {x y z:Int}(hx:R9 x) (hy:R9 y) (hz:R9 z):R9 (zao gr [x,y,z])∧zai gr [x,y,z]=some (zao gr [x,y,z])∧zcR gr [x,y,z]=some (zao gr [x,y,z]):=by
 have h:∀v∈[x,y,z],0≤v∧v≤2000000000:=by
  intro v hv
  simp only[List.mem_cons,List.not_mem_nil,or_false]at hv
  rcases hv with rfl|rfl|rfl<;>assumption
 exact⟨zpc k h,ziz k h,zlD k h⟩
theorem zw2 (k:OkG gr) {B:Bases}(hh:R9 B.H) (hn:n≤12) (hp:p.Places.length=n∧∀z∈p.Places,zal gr z=true) (hw:p.Powers.length=n∧∀z∈p.Powers,zal gr z=true) (hc:p.Chain.length=n∧∀z∈p.Chain,zal gr z=true) (hm:p.Pi.Commits.length=3*n+3∧∀z∈p.Pi.Commits,zal gr z=true) (hr:RpOk n R) {x y z T:Int}(hx:E9 gr.Q x):zaq (σ:=(List Int)×Bool) (fun i66 s65=>
 (zbG x (IntKind.i64.wrap (i66+1)) gr.Q).bind fun z72=>
 gd ((s65.1.length+1)*8≤140737488355328∧s65.1.length+1≤4611686018427387904)<|
 (ix p.Pi.Commits i66).bind fun x73=>
 (ix p.Places i66).bind fun x74=>
 (ix p.Powers i66).bind fun x75=>
 (ix R.s1 i66).bind fun x76=>
 (ix R.s2 i66).bind fun x77=>
 (zag gr x74 y).bind fun z78=>
 (zag gr gr.G (IntKind.i64.wrap (0-z))).bind fun z79=>
 (zai gr [z78,x75,z79]).bind fun z80=>
 (zaW gr B x76 x77).bind fun z81=>
 (zay x73 z80 z81 s65.2 gr.P gr.Q gr.G T).bind fun z82=>
 (ix p.Pi.Commits (IntKind.i64.wrap ((n:Int)+i66))).bind fun x83=>
 (ix p.Chain i66).bind fun x84=>
 (ix ([gr.G]++p.Chain) i66).bind fun x85=>
 (ix R.s3 i66).bind fun x86=>
 (zag gr x85 x76).bind fun z87=>
 (zag gr B.H x86).bind fun z88=>
 (zai gr [z87,z88]).bind fun z89=>
 (zay x83 x84 z89 z82 gr.P gr.Q gr.G T).bind fun z90=>
 (ix p.Pi.Commits (IntKind.i64.wrap ((IntKind.i64.wrap ((IntKind.i64.wrap (2*(n:Int)))+1))+i66))).bind fun x91=>
 (ix R.kk i66).bind fun x92=>
 (ix R.mm i66).bind fun x93=>
 (zaW gr B x92 x93).bind fun z94=>
 (zay x91 x75 z94 z90 gr.P gr.Q gr.G T).bind fun z95=>
 some (.go (s65.1++[z72],z95))) (fun s65=>(s65.1,s65.2)) n 0 ([],true)=some (rg (upN gr.Q x) n,alB (fun i=>q1 gr B.H y z T p R i&&q2 gr B.H T p R n i&&q4 gr B.H T p R n i) n):=by
 refine zki (fun i=>(rg (upN gr.Q x) i,alB (fun i=>q1 gr B.H y z T p R i&&q2 gr B.H T p R n i&&q4 gr B.H T p R n i) i)) rfl fun i hi=>?_
 have w1:IntKind.i64.wrap ((n:Int)+(i:Int))=((n+i:Nat):Int):=zfo (by omega) (by omega)
 have w2:IntKind.i64.wrap (IntKind.i64.wrap (IntKind.i64.wrap (2*(n:Int))+1)+(i:Int))=((2*n+1+i:Nat):Int):=by
  rw[zap (n:=2*(n:Int)) (by omega) (by omega),zap (n:=2*(n:Int)+1) (by omega) (by omega)];exact zfo (by omega) (by omega)
 have g0:∀{l:List Int},l.length=n→ix l (i:Int)=some (l.getD i 0):=fun h=>zeX (by omega)
 have gc:∀j,j<3*n+3→ix p.Pi.Commits (j:Int)=some (p.Pi.Commits.getD j 0)∧R9 (p.Pi.Commits.getD j 0):=fun j hj=>⟨zeX (by omega),zc6 k (zcD hm.2 (by omega))⟩
 have a1:=zc6 k (zcD hp.2 (i:=i) (by omega))
 have a2:=zc6 k (zcD hw.2 (i:=i) (by omega))
 have a3:=zc6 k (zcD hc.2 (i:=i) (by omega))
 have hb:=zsC k (zeI k) hc.2 i (by omega)
 have m3:=zyq k (zba k (p.Places.getD i 0) y) a2 (zba k gr.G (IntKind.i64.wrap (0-z)))
 rw[w1,w2]
 refine zaa (zBZ k hx (by omega)).1 (zau (by rw[zaH];omega) (zaa (gc i (by omega)).1 (zaa (g0 hp.1) (zaa (g0 hw.1) (zaa (g0 hr.s1) (zaa (g0 hr.s2) (zaa (pwI k a1 _) (zaa (pwI k (r_G k) _) (zaa m3.2.1 (zaa (zkp k hh _ _) (zaa (zj1 k _ (gc i (by omega)).2 m3.1) ?_)))))))))))
 refine zaa (gc (n+i) (by omega)).1 (zaa (g0 hc.1) (zaa hb.1 (zaa (g0 hr.s3) (zaa (pwI k hb.2 _) (zaa (pwI k hh _) (zaa (m2I k (zba k _ _) (zba k _ _)) (zaa (zj1 k _ (gc (n+i) (by omega)).2 a3) ?_)))))))
 refine zaa (gc (2*n+1+i) (by omega)).1 (zaa (g0 hr.kk) (zaa (g0 hr.mm) (zaa (zkp k hh _ _) (zaa (zj1 k _ (gc (2*n+1+i) (by omega)).2 a2) (zab ?_)))))
 rw[zjB]
 show Stp.go (_,_)=Stp.go (_,alB _ i&&_)
 unfold q1 q2 q4
 simp only[Bool.and_assoc]
end
section
attribute [local irreducible] chG zep za0
def vpL (key:Int) (l out:List Cipher) (p:PolyProof):List Int:=zep key l out (p.Places++p.Powers)
def vpX (gr:Group) (key:Int) (l out:List Cipher) (p:PolyProof):Int:=chG gr sX (zep key l out p.Places)
def vpY (gr:Group) (key:Int) (l out:List Cipher) (p:PolyProof):Int:=chG gr sY (vpL key l out p)
def vpZ (gr:Group) (key:Int) (l out:List Cipher) (p:PolyProof):Int:=chG gr sZ (vpL key l out p)
def vpT (gr:Group) (key:Int) (l out:List Cipher) (p:PolyProof):Int:=chG gr sE (vpL key l out p++p.Chain++p.Pi.Commits)
def q3 (gr:Group) (h tg T:Int) (p:PolyProof) (R:Rp) (n:Nat):Bool:=zao gr [p.Pi.Commits.getD (2*n) 0,zah gr (zao gr [p.Chain.getD (n-1) 0,zah gr (zah gr gr.G tg) (-1)]) T]==zah gr h R.g
def qE (gr:Group) (T c base:Int) (ups sIn sOut:List Int) (R:Rp):Bool:=zao gr [c,zah gr (za0 gr sIn ups 1) T]==zao gr [zah gr base (IntKind.i64.wrap (0-R.f)),za0 gr sOut R.kk 1]
def vpB (gr:Group) (key h:Int) (l out:List Cipher) (p:PolyProof) (R:Rp) (x y z T:Int) (n:Nat):Bool:=
 (((alB (fun i=>q1 gr h y z T p R i&&q2 gr h T p R n i&&q4 gr h T p R n i) n&&q3 gr h (tgN gr.Q x y z n) T p R n)&&qE gr T (p.Pi.Commits.getD (3*n+1) 0) gr.G (rg (upN gr.Q x) n) (sdV l).1 (sdV out).1 R)&&qE gr T (p.Pi.Commits.getD (3*n+2) 0) key (rg (upN gr.Q x) n) (sdV l).2 (sdV out).2 R)
structure VpOk (gr:Group) (key h:Int) (l out:List Cipher) (p:PolyProof) (R:Rp):Prop where
 key:zal gr key=true
 n:1≤l.length∧l.length≤12
 lc:∀c∈l,zbg gr c=true
 oc:∀c∈out,zbg gr c=true
 ol:out.length=l.length
 hh:zal gr h=true
 pl:p.Places.length=l.length∧∀z∈p.Places,zal gr z=true
 pw:p.Powers.length=l.length∧∀z∈p.Powers,zal gr z=true
 ch:p.Chain.length=l.length∧∀z∈p.Chain,zal gr z=true
 cm:p.Pi.Commits.length=3*l.length+3∧∀z∈p.Pi.Commits,zal gr z=true
 cl:p.Pi.Challenges.length=1
 rs:p.Pi.Responses=R.cs
 r:RpOk l.length R
section
variable {gr:Group}{key h:Int}{l out:List Cipher}{p:PolyProof}{R:Rp}
theorem zBu (k:OkG gr) (V:VpOk gr key h l out p R):(zep key l out p.Places).length=1+5*l.length∧(zep key l out p.Places).all zbh=true:=by
 have h1:=V.pl.1
 have h2:=V.ol
 exact⟨by rw[ziK];omega,ziO k V.key V.lc V.oc (zec k (List.all_eq_true.2 V.pl.2))⟩
theorem zwD (k:OkG gr) (V:VpOk gr key h l out p R):(vpL key l out p).length=1+6*l.length∧(vpL key l out p).all zbh=true:=by
 have h1:=V.pl.1
 have h2:=V.ol
 have h3:=V.pw.1
 unfold vpL
 exact⟨by rw[ziK,List.length_append];omega,ziO k V.key V.lc V.oc (zec k (List.all_eq_true.2 (zdP V.pl.2 V.pw.2)))⟩
theorem zDF (k:OkG gr) (V:VpOk gr key h l out p R):(vpL key l out p++p.Chain++p.Pi.Commits).length=4+10*l.length∧(vpL key l out p++p.Chain++p.Pi.Commits).all zbh=true:=by
 have h1:=zwD k V
 have h2:=V.ch.1
 have h3:=V.cm.1
 refine⟨by rw[List.length_append,List.length_append,h1.1,h2,h3];omega,?_⟩
 rw[List.all_append,List.all_append,h1.2,zec k (List.all_eq_true.2 V.ch.2),zec k (List.all_eq_true.2 V.cm.2)];rfl
attribute [local irreducible] rg sdV vc vpX vpY vpZ vpT tgN alB q1 q2 q4
set_option maxHeartbeats 2000000 in
theorem zBW (k:OkG gr) {B:Bases}(V:VpOk gr key B.H l out p R) (hs:spB gr l.length p=true):zci gr B key l out p=some ((p.Pi.Challenges.getD 0 0==vpT gr key l out p)&&vpB gr key B.H l out p R (vpX gr key l out p) (vpY gr key l out p) (vpZ gr key l out p) (vpT gr key l out p) l.length):=by
 have hp:=k.p
 have hq:=k.q
 have hn:=V.n
 have hol:=V.ol
 have hH:=zc6 k V.hh
 have hK:=zc6 k V.key
 have lP:=V.pl.1
 have lW:=V.pw.1
 have lH:=V.ch.1
 have lM:=V.cm.1
 have l1:=zBu k V
 have l2:=zwD k V
 have l3:=zDF k V
 have hx:E9 gr.Q (vpX gr key l out p):=by unfold vpX;exact zgn k _ _
 have hy:E9 gr.Q (vpY gr key l out p):=by unfold vpY;exact zgn k _ _
 have hz:E9 gr.Q (vpZ gr key l out p):=by unfold vpZ;exact zgn k _ _
 have c1:=zj9 (key:=key) (l:=l) (out:=out) (m:=p.Places) (by omega) (by omega) (by omega)
 have c2:zaz gr sX (zep key l out p.Places)=some (vpX gr key l out p,true):=by unfold vpX;exact(zl1 k (by decide) (by omega) l1.2).1
 have c3:zbL key l out (p.Places++p.Powers)=some (vpL key l out p):=zj9 (by omega) (by omega) (by rw[List.length_append];omega)
 have c4:zcu gr (vpL key l out p)=some (vpY gr key l out p,vpZ gr key l out p,true):=by unfold vpY vpZ;exact zwR k (by omega) l2.2
 have c5:zaS [vpL key l out p,p.Chain,p.Pi.Commits]=some (vpL key l out p++p.Chain++p.Pi.Commits):=by
  have e:[vpL key l out p,p.Chain,p.Pi.Commits].flatten=vpL key l out p++p.Chain++p.Pi.Commits:=by simp
  rw[zh4 _ (by rw[e,l3.1];omega),e]
 have c6:zaz gr sE (vpL key l out p++p.Chain++p.Pi.Commits)=some (vpT gr key l out p,true):=by unfold vpT;exact(zl1 k (by decide) (by omega) l3.2).1
 have c7:=zw2 (B:=B) (y:=vpY gr key l out p) (z:=vpZ gr key l out p) (T:=vpT gr key l out p) k hH hn.2 V.pl V.pw V.ch V.cm V.r hx
 have c8:=zEA (q:=gr.Q) (by omega) (n:=l.length) (by omega) hx hy hz
 have c9:=(ziE (l:=l) (by omega)).1
 have c10:=(ziE (l:=out) (by omega)).1
 have hsl:=zl9 k V.lc
 have hso:=zl9 k V.oc
 have hll:=zf3 l
 have hlo:=zf3 out
 have u1:=zcJ k (m:=rg (upN gr.Q (vpX gr key l out p)) l.length) hsl.1 (by rw[zaH,hll.1];exact Nat.le_refl _)
 have u2:=zcJ k (m:=rg (upN gr.Q (vpX gr key l out p)) l.length) hsl.2 (by rw[zaH,hll.2];exact Nat.le_refl _)
 have u3:=zcJ k (m:=R.kk) hso.1 (by rw[hlo.1,V.r.kk];omega)
 have u4:=zcJ k (m:=R.kk) hso.2 (by rw[hlo.2,V.r.kk];omega)
 have w1:IntKind.i64.wrap ((l.length:Int)-1)=((l.length-1:Nat):Int):=zfo (by omega) (by omega)
 have w2:IntKind.i64.wrap (2*(l.length:Int))=((2*l.length:Nat):Int):=zfo (by omega) (by omega)
 have w3:IntKind.i64.wrap (3*(l.length:Int))=((3*l.length:Nat):Int):=zfo (by omega) (by omega)
 have w31:IntKind.i64.wrap (((3*l.length:Nat):Int)+1)=((3*l.length+1:Nat):Int):=zfo (by omega) (by omega)
 have w32:IntKind.i64.wrap (((3*l.length:Nat):Int)+2)=((3*l.length+2:Nat):Int):=zfo (by omega) (by omega)
 have gc:∀j,j<3*l.length+3→ix p.Pi.Commits (j:Int)=some (p.Pi.Commits.getD j 0)∧R9 (p.Pi.Commits.getD j 0):=fun j hj=>⟨zeX (by omega),zc6 k (zcD V.cm.2 (by omega))⟩
 have gh:ix p.Chain ((l.length-1:Nat):Int)=some (p.Chain.getD (l.length-1) 0):=zeX (by omega)
 have rh:=zc6 k (zcD V.ch.2 (i:=l.length-1) (by omega))
 have rp:=zba k gr.G (tgN gr.Q (vpX gr key l out p) (vpY gr key l out p) (vpZ gr key l out p) l.length)
 have ov:=zpA k (b:=p.Chain.getD (l.length-1) 0) (x:=zah gr gr.G (tgN gr.Q (vpX gr key l out p) (vpY gr key l out p) (vpZ gr key l out p) l.length)) rh.1 rh.2 rp.1 rp.2
 have ho:((out.length:Int) !=(l.length:Int))=false:=by rw[hol];simp
 have hc0:0<p.Pi.Challenges.length:=by rw[V.cl];omega
 unfold zci
 refine zaw (zae (ψ:=(· =false)) (za1 ho (zaa (zBE k (by omega) p) (zab (by rw[hs];rfl)))) ?_)
 rintro _ rfl
 refine za1 rfl (zaa c1 (zaa c2 (zaa (zwK (by omega)) (zau (by omega) (zaa c3 (zaa c4 (zaa c5 (zaa c6 (zae (ψ:=(· =(p.Pi.Challenges.getD 0 0 !=vpT gr key l out p))) (za1 rfl (za1 rfl (za1 rfl (zaa (zeX (i:=0) hc0) (zab rfl))))) ?_)))))))))
 rintro _ rfl
 refine zam (fun g=>zab ?_) fun g=>?_
 ·have:(p.Pi.Challenges.getD 0 0==vpT gr key l out p)=false:=by simpa[bne]using g
  rw[this];rfl
 have g2:(p.Pi.Challenges.getD 0 0==vpT gr key l out p)=true:=by simpa[bne]using g
 rw[g2,Bool.true_and,V.rs]
 unfold Rp.cs
 refine zaa (zd0 V.r.s1) (zaa (zd0 V.r.s2) (zaa (zd0 V.r.s3) (zaa (zh8 _ _) (zaa (zd0 V.r.kk) (zaa (zd0 V.r.mm) (zaa (zh8 _ _) ?_))))))
 dsimp only
 refine zau (by simp;omega) (zaa rfl (zaa c7 ?_))
 rw[w1,w2,w3,w31,w32]
 refine zaa (gc (2*l.length) (by omega)).1 (zaa gh (zaa c8 (zaa (pwI k (r_G k) _) (zaa ov (zaa (pwI k hH _) (zaa (zj1 k _ (gc (2*l.length) (by omega)).2 (zft k rh (zba k _ _))) (zaa c9 (zaa c10 ?_))))))))
 refine zaa (gc (3*l.length+1) (by omega)).1 (zaa u1 (zaa (pwI k (r_G k) _) (zaa u3 (zaa (m2I k (zba k _ _) (zdN k _ _)) (zaa (zj1 k _ (gc (3*l.length+1) (by omega)).2 (zdN k _ _)) ?_)))))
 exact zaa (gc (3*l.length+2) (by omega)).1 (zaa u2 (zaa (pwI k hK _) (zaa u4 (zaa (m2I k (zba k _ _) (zdN k _ _)) (zaa (zj1 k _ (gc (3*l.length+2) (by omega)).2 (zdN k _ _)) (zab rfl))))))
end
end
def stP (q x y z:Int) (a j:Int):Int:=a*((y*(j+1)+pxN q x (j.toNat+1)-z)%q)%q
theorem zEB (q x y z a i j:Int):stP q x y z (stP q x y z a i) j=stP q x y z (stP q x y z a j) i:=by
 unfold stP
 generalize (y*(i+1)+pxN q x (i.toNat+1)-z)%q=u
 generalize (y*(j+1)+pxN q x (j.toNat+1)-z)%q=v
 rw[Int.mul_emod (a*u%q),Int.emod_emod,←Int.mul_emod,Int.mul_emod (a*v%q),Int.emod_emod,←Int.mul_emod]
 congr 1
 rw[Int.mul_assoc,Int.mul_comm u v,Int.mul_assoc]
theorem zxs (q x y z:Int) (n:Nat):((List.range n).map fun(i:Nat)=>(i:Int)).foldl (stP q x y z) 1=tgN q x y z n:=by
 induction n with
 |zero=>rfl
 |succ n ih=>
  rw[List.range_succ,List.map_append,List.foldl_append,ih]
  rfl
theorem zmQ {l:List Int}(h:zdq l=true):l.Perm ((List.range l.length).map fun(i:Nat)=>(i:Int)):=by
 have h':=h
 simp only[zdq,Bool.and_eq_true,zif,decide_eq_true_eq,List.all_eq_true,inB]at h'
 have hnd:((List.range l.length).map fun(i:Nat)=>(i:Int)).Nodup:=by
  refine List.pairwise_map.2 ?_
  exact List.Pairwise.imp (fun h e=>h (by exact_mod_cast e)) (List.nodup_range (n:=l.length))
 refine(List.perm_ext_iff_of_nodup h'.2 hnd).2 fun a=>⟨fun ha=>?_,fun ha=>?_⟩
 ·have:=h'.1 a ha
  simp only[List.mem_map,List.mem_range]
  exact⟨a.toNat,by omega,by omega⟩
 simp only[List.mem_map,List.mem_range]at ha
 obtain⟨i,hi,rfl⟩:=ha
 exact znT h ⟨by omega,by omega⟩
theorem zxF {l:List Int}(h:zdq l=true) (q x y z:Int):l.foldl (stP q x y z) 1=tgN q x y z l.length:=by
 rw[(zmQ h).foldl_eq' (fun i _ j _ a=>zEB q x y z a i j),zxs]
theorem znh {l:List Int}{f:Int→Int→Int}{a:Int}{i:Nat}(hi:i<l.length):(l.take (i+1)).foldl f a=f ((l.take i).foldl f a) (l.getD i 0):=by
 rw[List.take_succ_eq_append_getElem hi,List.foldl_append,zaC hi];rfl
theorem zDq {a q:Int}(ha: -4100000000000000000≤a∧a≤4100000000000000000) (hq:0<q∧q≤2000000000):zgc a q=some (a%q):=by
 have h1:=Int.tmod_lt_of_pos a hq.1
 have h2:=Int.lt_tmod_of_pos a hq.1
 have hQ:q≠0:=by omega
 unfold zgc
 refine zaw (zau hQ (zau hQ (zab ?_)))
 show(IntKind.i64.wrap (a.tmod q+q)).tmod q=a%q
 rw[zap (by omega) (by omega),Int.tmod_eq_emod_of_nonneg (by omega),Int.add_emod_right]
 rw[Int.tmod_def,Int.sub_mul_emod_self_left]
def pg (gr:Group) (a:Int):Int:=zah gr gr.G a
section
variable {gr:Group}
theorem zpk {a b:Int}(h:a%gr.Q=b%gr.Q):pg gr a=pg gr b:=by unfold pg zah;rw[h]
theorem zln {a b:Int}(K:Int) (h:a=b+gr.Q*K):pg gr a=pg gr b:=zpk (by rw[h,Int.add_mul_emod_self_left])
theorem zGH {x a b:Int}(h:a%gr.Q=b%gr.Q):zah gr x a=zah gr x b:=by unfold zah;rw[h]
theorem ztl (a:Int):pg gr (a%gr.Q)=pg gr a:=zpk (Int.emod_emod _ _)
theorem mw (a q:Int):∃m,a%q=a-q*m:=⟨a/q,Int.emod_def a q⟩
theorem zb9 (k:OkG gr) (a b:Int):zao gr [pg gr a,pg gr b]=pg gr (a+b):=by
 have hq:=k.q
 rw[←ztl a,←ztl b]
 unfold pg
 rw[zvr k (Int.emod_nonneg _ (by omega)) (Int.emod_nonneg _ (by omega))]
 exact zpk (Int.add_emod a b gr.Q).symm
theorem zcd (k:OkG gr) (a e:Int):zah gr (pg gr a) e=pg gr (a*e):=by
 have hq:=k.q
 rw[←ztl a,zGH (b:=e%gr.Q) (Int.emod_emod _ _).symm]
 unfold pg
 rw[zqj k (zeI k) (Int.emod_nonneg _ (by omega)) (Int.emod_nonneg _ (by omega))]
 exact zpk (Int.mul_emod a e gr.Q).symm
theorem zvx (k:OkG gr):pg gr 0=1:=zui k
theorem zjZ (k:OkG gr) (a:Int):zal gr (pg gr a)=true:=zdt k (zeI k) a
theorem zyT (k:OkG gr) (a:Int):0≤pg gr a∧pg gr a<gr.P:=by
 have:=zeJ k gr.G a
 exact⟨this.1,by unfold pg;omega⟩
theorem ztF (k:OkG gr) (a b:Int):pg gr a*pg gr b%gr.P=pg gr (a+b):=by
 rw[←zb9 k,zj6 k (zyT k a) (zyT k b).1]
theorem zv9 (k:OkG gr):pg gr 1=gr.G:=by
 have hq:=k.q
 have hp:=k.p
 have hg:=k.g
 unfold pg zah
 rw[Int.emod_eq_of_lt (by omega) (by omega)]
 show((gr.G.toNat^1%gr.P.toNat:Nat):Int)=gr.G
 rw[Nat.pow_one,Nat.mod_eq_of_lt (by omega)];omega
theorem zxr (k:OkG gr) (a b c:Int):zao gr [pg gr a,pg gr b,pg gr c]=pg gr (a+b+c):=by
 have h:zao gr [pg gr a,pg gr b,pg gr c]=zao gr [pg gr a,pg gr b]*pg gr c%gr.P:=rfl
 rw[h,zb9 k,ztF k]
open Classical in
noncomputable def dl (gr:Group) (x:Int):Int:=if h:∃a,x=pg gr a then Classical.choose h else 0
theorem zfm (k:OkG gr) {x:Int}(h:zal gr x=true):x=pg gr (dl gr x):=by
 have hg:=k.g
 have hq:=k.q
 have he:∃a,x=pg gr a:=by
  obtain⟨s,hs⟩:=zzy k (zeI k) (show gr.G≠1 by omega) h
  have hx:=(ziI h).1
  refine⟨s,?_⟩
  unfold pg zah
  obtain⟨n,hn⟩:=Int.eq_ofNat_of_zero_le (show 0≤gr.Q by omega)
  have h3:=(ziI (zeI k)).2.2
  rw[hn]at h3⊢
  rw[Int.toNat_natCast]at h3
  rw[←Int.natCast_emod,Int.toNat_natCast,zj8 h3,hs];omega
 unfold dl
 rw[dif_pos he]
 exact Classical.choose_spec he
theorem zlC (a b:Nat→Int) (T:Int):∀n,smL (fun i=>a i+T*b i) n=smL a n+T*smL b n
 |0=>by simp[smL]
 |n+1=>by
  show smL (fun i=>a i+T*b i) n+(a n+T*b n)=(smL a n+a n)+T*(smL b n+b n)
  rw[zlC a b T n];grind
theorem zyr (a b:Nat→Int) (n:Nat):smL (fun i=>a i+b i) n=smL a n+smL b n:=by
 have:=zlC a b 1 n
 simpa using this
theorem zry (f:Int→Int) (l:List Int):∀n,n≤l.length→(l.take n).foldl (fun a j=>a+f j) 0=smL (fun i=>f (l.getD i 0)) n
 |0,_=>rfl
 |n+1,h=>by
  rw[znh (by omega),zry f l n (by omega)];rfl
theorem zpr (f:Int→Int):∀n,((List.range n).map fun(i:Nat)=>(i:Int)).foldl (fun a j=>a+f j) 0=smL (fun i=>f (i:Nat)) n
 |0=>rfl
 |n+1=>by
  rw[List.range_succ,List.map_append,List.foldl_append,zpr f n];rfl
theorem zsi {l:List Int}(h:zdq l=true) (f:Int→Int):smL (fun i=>f (l.getD i 0)) l.length=smL (fun i=>f (i:Nat)) l.length:=by
 have h1:=zry f l l.length (Nat.le_refl _)
 rw[List.take_length]at h1
 rw[←h1,(zmQ h).foldl_eq' (fun i _ j _ a=>by omega),zpr]
theorem zgp (k:OkG gr) {l m:List Int}{f:Nat→Int}(hl:l.length=m.length) (hf:∀i,i<l.length→l.getD i 0=pg gr (f i)):za0 gr l m 1=pg gr (smL (fun i=>f i*m.getD i 0) l.length):=by
 have key:∀n,n≤l.length→za0 gr (l.take n) (m.take n) 1=pg gr (smL (fun i=>f i*m.getD i 0) n):=by
  intro n
  induction n with
  |zero=>intro _;exact(zvx k).symm
  |succ n ih=>
   intro hn
   have h1:n<l.length:=by omega
   have h2:n<m.length:=by omega
   rw[List.take_succ_eq_append_getElem h1,List.take_succ_eq_append_getElem h2,zlw gr _ _ _ _ _ (by simp;omega),ih (by omega),←zaC h1,←zaC h2,hf n h1,zcd k,ztF k]
   rfl
 have:=key l.length (Nat.le_refl _)
 rw[List.take_length,hl,List.take_length]at this
 rw[this,hl]
theorem zuR (k:OkG gr) {l:List Int}{f:Nat→Int}(hf:∀i,i<l.length→l.getD i 0=pg gr (f i)):zao gr l=pg gr (smL f l.length):=by
 have key:∀n,n≤l.length→(l.take n).foldl (fun o x=>o*x%gr.P) 1=pg gr (smL f n):=by
  intro n
  induction n with
  |zero=>intro _;exact(zvx k).symm
  |succ n ih=>
   intro hn
   have h1:n<l.length:=by omega
   rw[znh h1,ih (by omega),hf n h1,ztF k]
   rfl
 have:=key l.length (Nat.le_refl _)
 rw[List.take_length]at this
 exact this
theorem zpb {q:Int}(hq:0<q) (l m:List Int):∀n,dtN q l m n%q=smL (fun i=>l.getD i 0*m.getD i 0) n%q
 |0=>rfl
 |n+1=>by
  show(dtN q l m n+l.getD n 0*m.getD n 0)%q%q=(smL _ n+l.getD n 0*m.getD n 0)%q
  rw[Int.emod_emod,Int.add_emod,zpb hq l m n,←Int.add_emod]
theorem zwG {q:Int}(hq:0<q) (l:List Int):∀n,smN q l n%q=smL (fun i=>l.getD i 0) n%q
 |0=>rfl
 |n+1=>by
  show(smN q l n+l.getD n 0)%q%q=(smL _ n+l.getD n 0)%q
  rw[Int.emod_emod,Int.add_emod,zwG hq l n,←Int.add_emod]
theorem zBJ {q S0 S1 S2 S3 T b0 f F D m1 m2 m3 m4 m5 m6:Int}(e1:S0-q*m1=S1+T*(S2+b0*S3)-q*m2) (e2:F-q*m3=f+T*D-q*m4) (e3:D-q*m5=S3-q*m6):
 (b0*(0-f)+S1)+S2*T=(b0*(0-F)+S0)+q*(m2-m1+b0*(m3-m4)+T*b0*(m5-m6)):=by
 have a1:S0=S1+T*(S2+b0*S3)-q*m2+q*m1:=by rw[←e1];grind
 have a2:D=S3-q*m6+q*m5:=by rw[←e3];grind
 have a3:F=f+T*D-q*m4+q*m3:=by rw[←e2];grind
 rw[a3,a1,a2]
 grind
theorem zD8 {q:Int}{perm:List Int}(hp:zdq perm=true) {al U o rs kk K:Nat→Int}{b0 f F D T:Int}(ho:∀i,i<perm.length→o i=al (perm.getD i 0).toNat+b0*rs i)
 (hK:∀i,i<perm.length→K i%q=(kk i+T*U (perm.getD i 0).toNat)%q) (hF:F%q=(f+T*D)%q) (hD:D%q=smL (fun i=>rs i*U (perm.getD i 0).toNat) perm.length%q):
 ((b0*(0-f)+smL (fun i=>o i*kk i) perm.length)+smL (fun j=>al j*U j) perm.length*T)%q=(b0*(0-F)+smL (fun i=>o i*K i) perm.length)%q:=by
 have e1:smL (fun i=>o i*K i) perm.length%q=smL (fun i=>o i*kk i+T*(o i*U (perm.getD i 0).toNat)) perm.length%q:=zp5 _ fun i hi=>by
  rw[Int.mul_emod,hK i hi,←Int.mul_emod,show o i*(kk i+T*U (perm.getD i 0).toNat)=o i*kk i+T*(o i*U (perm.getD i 0).toNat)by grind]
 rw[zlC]at e1
 have e2:smL (fun i=>o i*U (perm.getD i 0).toNat) perm.length=smL (fun i=>al (perm.getD i 0).toNat*U (perm.getD i 0).toNat+b0*(rs i*U (perm.getD i 0).toNat)) perm.length:=ziS _ fun i hi=>by rw[ho i hi];grind
 rw[zlC]at e2
 have e3:=zsi hp (fun j=>al j.toNat*U j.toNat)
 have e4:smL (fun i:Nat=>al (i:Int).toNat*U (i:Int).toNat) perm.length=smL (fun j=>al j*U j) perm.length:=rfl
 rw[e4]at e3
 rw[e2,e3]at e1
 generalize smL (fun i=>o i*K i) perm.length=S0 at e1⊢
 generalize smL (fun i=>o i*kk i) perm.length=S1 at e1⊢
 generalize smL (fun j=>al j*U j) perm.length=S2 at e1⊢
 generalize smL (fun i=>rs i*U (perm.getD i 0).toNat) perm.length=S3 at e1 hD
 obtain⟨m1,h1⟩:=mw S0 q
 obtain⟨m2,h2⟩:=mw (S1+T*(S2+b0*S3)) q
 obtain⟨m3,h3⟩:=mw F q
 obtain⟨m4,h4⟩:=mw (f+T*D) q
 obtain⟨m5,h5⟩:=mw D q
 obtain⟨m6,h6⟩:=mw S3 q
 rw[h1,h2]at e1
 rw[h3,h4]at hF
 rw[h5,h6]at hD
 rw[zBJ e1 hF hD,Int.add_mul_emod_self_left]
end
section
variable {gr:Group}
theorem ek {a b q:Int}(h:a%q=b%q):∃m,a=b+q*m:=by
 obtain⟨m,hm⟩:=mw a q
 obtain⟨n,hn⟩:=mw b q
 rw[hm,hn]at h
 exact⟨m-n,by rw[Int.mul_sub];omega⟩
theorem vcp (k:OkG gr) {h eta:Int}(hh:h=pg gr eta) (x r:Int):vc gr h x r=pg gr (x+eta*r):=by
 rw[hh]
 unfold vc
 rw[zcd k]
 exact zb9 k x (eta*r)
theorem zi1 {α:Type}{a b:List α}{i:Nat}{d:α}(h:i<a.length):(a++b).getD i d=a.getD i d:=by
 rw[List.getD_eq_getElem?_getD,List.getD_eq_getElem?_getD,List.getElem?_append_left h]
theorem ziX {α:Type}{a b:List α}{i j:Nat}{d:α}(h:i=a.length+j):(a++b).getD i d=b.getD j d:=by
 rw[List.getD_eq_getElem?_getD,List.getD_eq_getElem?_getD,List.getElem?_append_right (by omega),h,Nat.add_sub_cancel_left]
theorem zHm {q w v T y p e z u ab a b eta n1 n2 n3 n4 s1 s2:Int}(h1:u=y*p+e-z+q*n1) (h2:s1=w+T*u+q*n2) (h3:ab=y*a+b+q*n3) (h4:s2=v+T*ab+q*n4):
 (w+eta*v)+((p+eta*a)*y+(e+eta*b)+(0-z))*T=(s1+eta*s2)+q*(0-(T*n1+n2+eta*T*n3+eta*n4)):=by
 rw[h4,h3,h2,h1];grind
theorem zKh (k:OkG gr) {h eta w v T y p e z u ab a b s1 s2:Int}(hh:h=pg gr eta) (h1:u%gr.Q=(y*p+e-z)%gr.Q) (h2:s1%gr.Q=(w+T*u)%gr.Q) (h3:ab%gr.Q=(y*a+b)%gr.Q) (h4:s2%gr.Q=(v+T*ab)%gr.Q) (hz:IntKind.i64.wrap (0-z)=0-z):
 zao gr [vc gr h w v,zah gr (zao gr [zah gr (vc gr h p a) y,vc gr h e b,zah gr gr.G (IntKind.i64.wrap (0-z))]) T]=vc gr h s1 s2:=by
 obtain⟨n1,h1⟩:=ek h1
 obtain⟨n2,h2⟩:=ek h2
 obtain⟨n3,h3⟩:=ek h3
 obtain⟨n4,h4⟩:=ek h4
 rw[vcp k hh,vcp k hh,vcp k hh,vcp k hh,zcd k,hz,show zah gr gr.G (0-z)=pg gr (0-z)from rfl,zxr k,zcd k,zb9 k]
 exact zln _ (zHm h1 h2 h3 h4)
theorem zGK {q pr ls eta w s T pr1 c u s1 s3 d n1 n2 n3 n4:Int}(h1:pr1=pr*u+q*n1) (h2:s1=w+T*u+q*n2) (h3:d=c-ls*u+q*n3) (h4:s3=s+T*d+q*n4):
 ((pr+eta*ls)*w+eta*s)+(pr1+eta*c)*T=((pr+eta*ls)*s1+eta*s3)+q*(T*n1-(pr+eta*ls)*n2-eta*T*n3-eta*n4):=by
 rw[h4,h3,h2,h1];grind
theorem zJU (k:OkG gr) {h eta bf pr ls w s T pr1 c u s1 s3 d:Int}(hh:h=pg gr eta) (hb:bf=pg gr (pr+eta*ls)) (h1:pr1%gr.Q=(pr*u)%gr.Q) (h2:s1%gr.Q=(w+T*u)%gr.Q) (h3:d%gr.Q=(c-ls*u)%gr.Q) (h4:s3%gr.Q=(s+T*d)%gr.Q):
 zao gr [zao gr [zah gr bf w,zah gr h s],zah gr (vc gr h pr1 c) T]=zao gr [zah gr bf s1,zah gr h s3]:=by
 obtain⟨n1,h1⟩:=ek h1
 obtain⟨n2,h2⟩:=ek h2
 obtain⟨n3,h3⟩:=ek h3
 obtain⟨n4,h4⟩:=ek h4
 rw[vcp k hh,hb,hh,zcd k,zcd k,zcd k,zcd k,zcd k,zb9 k,zb9 k,zb9 k]
 exact zln _ (zGK h1 h2 h3 h4)
theorem zGm {q kk m e b T K M eta n1 n2:Int}(h1:K=kk+T*e+q*n1) (h2:M=m+T*b+q*n2):(kk+eta*m)+(e+eta*b)*T=(K+eta*M)+q*(0-(n1+eta*n2)):=by
 rw[h1,h2];grind
theorem zJ1 (k:OkG gr) {h eta kk m e b T K M:Int}(hh:h=pg gr eta) (h1:K%gr.Q=(kk+T*e)%gr.Q) (h2:M%gr.Q=(m+T*b)%gr.Q):zao gr [vc gr h kk m,zah gr (vc gr h e b) T]=vc gr h K M:=by
 obtain⟨n1,h1⟩:=ek h1
 obtain⟨n2,h2⟩:=ek h2
 rw[vcp k hh,vcp k hh,vcp k hh,zcd k,zb9 k]
 exact zln _ (zGm h1 h2)
theorem zIA {q g pn c tg T G eta n1 n2:Int}(h1:pn=tg+q*n1) (h2:G=g+T*c+q*n2):eta*g+(pn+eta*c+tg*(-1))*T=eta*G+q*(T*n1-eta*n2):=by
 rw[h1,h2];grind
theorem zHf (k:OkG gr) {h eta g pn c tg T G:Int}(hh:h=pg gr eta) (h1:pn%gr.Q=tg%gr.Q) (h2:G%gr.Q=(g+T*c)%gr.Q):zao gr [zah gr h g,zah gr (zao gr [vc gr h pn c,zah gr (zah gr gr.G tg) (-1)]) T]=zah gr h G:=by
 obtain⟨n1,h1⟩:=ek h1
 obtain⟨n2,h2⟩:=ek h2
 rw[vcp k hh,hh,show zah gr gr.G tg=pg gr tg from rfl,zcd k,zcd k,zcd k,zb9 k,zcd k,zb9 k]
 exact zln _ (zIA h1 h2)
theorem ztg (k:OkG gr) {b0 f F D T base:Int}{sIn sOut ups ks Ks perm:List Int}{al U o rs:Nat→Int}(hb:base=pg gr b0) (hp:zdq perm=true) (li:sIn.length=perm.length) (lo:sOut.length=perm.length) (lu:ups.length=perm.length) (lk:ks.length=perm.length) (lK:Ks.length=perm.length)
 (hi:∀j,j<perm.length→sIn.getD j 0=pg gr (al j)) (hu:∀j,j<perm.length→ups.getD j 0=U j) (ho:∀i,i<perm.length→sOut.getD i 0=pg gr (o i)) (ho2:∀i,i<perm.length→o i=al (perm.getD i 0).toNat+b0*rs i)
 (hK:∀i,i<perm.length→Ks.getD i 0%gr.Q=(ks.getD i 0+T*U (perm.getD i 0).toNat)%gr.Q) (hF:F%gr.Q=(f+T*D)%gr.Q) (hD:D%gr.Q=smL (fun i=>rs i*U (perm.getD i 0).toNat) perm.length%gr.Q)
 (hf:IntKind.i64.wrap (0-f)=0-f) (hF2:IntKind.i64.wrap (0-F)=0-F):
 zao gr [zao gr [zah gr base (IntKind.i64.wrap (0-f)),za0 gr sOut ks 1],zah gr (za0 gr sIn ups 1) T]=zao gr [zah gr base (IntKind.i64.wrap (0-F)),za0 gr sOut Ks 1]:=by
 have e1:smL (fun i=>al i*ups.getD i 0) perm.length=smL (fun i=>al i*U i) perm.length:=ziS _ fun i hi=>by rw[hu i hi]
 rw[hf,hF2,hb,zcd k,zcd k,zgp k (l:=sOut) (m:=ks) (f:=o) (by omega) (by rw[lo];exact ho),zgp k (l:=sOut) (m:=Ks) (f:=o) (by omega) (by rw[lo];exact ho),zgp k (l:=sIn) (m:=ups) (f:=al) (by omega) (by rw[li];exact hi),lo,li,e1,zb9 k,zb9 k,zcd k,zb9 k]
 exact zpk (zD8 hp ho2 hK hF hD)
theorem ztN {q x:Int}(hq:1<q) (hx:0≤x):∀i,pxN q x i=((x.toNat^i%q.toNat:Nat):Int)
 |0=>by
  show(1:Int)=_
  rw[Nat.pow_zero,Nat.mod_eq_of_lt (by omega)];rfl
 |i+1=>by
  obtain⟨n,rfl⟩:=Int.eq_ofNat_of_zero_le hx
  obtain⟨m,rfl⟩:=Int.eq_ofNat_of_zero_le (show 0≤q by omega)
  show pxN _ _ i*_%_=_
  rw[ztN hq hx i,Int.toNat_natCast,Int.toNat_natCast,←Int.natCast_mul,←Int.natCast_emod,Nat.pow_succ,Nat.mul_mod,Nat.mod_mod,←Nat.mul_mod]
theorem zsH {q x:Int}{perm:List Int}{i:Nat}(h:0≤perm.getD i 0):eF q x perm i=upN q x (perm.getD i 0).toNat:=by
 unfold eF upN
 rw[show(perm.getD i 0+1).toNat=(perm.getD i 0).toNat+1 by omega]
theorem zC9 {q x y z:Int}(hq:1<q) (hx:0≤x) {perm:List Int}(hp:∀j∈perm,0≤j∧j≤1000) (hb:zdq perm=true):prN q (uF q y z (eF q x perm) perm) perm.length=tgN q x y z perm.length:=by
 have key:∀n,n≤perm.length→prN q (uF q y z (eF q x perm) perm) n=(perm.take n).foldl (stP q x y z) 1:=by
  intro n
  induction n with
  |zero=>intro _;rfl
  |succ n ih=>
   intro hn
   rw[znh (by omega),←ih (by omega)]
   show prN q _ n*uF q y z _ perm n%q=stP q x y z _ _
   have hj:=(zcD hp (show n<perm.length by omega)).1
   unfold stP uF
   rw[ztN hq hx,zsH hj];rfl
 rw[key _ (Nat.le_refl _),List.take_length,zxF hb]
theorem zwT {f:Nat→Bool}:∀{n},(∀i,i<n→f i=true)→alB f n=true
 |0,_=>rfl
 |n+1,h=>by
  show(alB f n&&f n)=true
  rw[zwT fun i hi=>h i (by omega),h n (by omega)];rfl
end
section
variable {gr:Group}{key h:Int}{l:List Cipher}{perm rs:List Int}{C:Pc}
abbrev c0:Cipher:=⟨0,0⟩
theorem znd {l:List Cipher}{j:Nat}(hj:j<l.length):(sdV l).1.getD j 0=(l.getD j c0).A∧(sdV l).2.getD j 0=(l.getD j c0).B:=by
 simp[sdV,List.getD,hj]
theorem znB (hl:∀c∈l,zbg gr c=true) {j:Nat}(hj:j<l.length):zal gr (l.getD j c0).A=true∧zal gr (l.getD j c0).B=true:=by
 have h:=hl _ (List.getElem_mem hj)
 have e:l.getD j c0=l[j]:=by simp[List.getD,hj]
 rw[e]
 simpa only[zbg,Bool.and_eq_true]using h
theorem zEn {i:Nat}(hi:i<perm.length):(za2 gr key l perm rs).getD i c0=reV gr key (l.getD (perm.getD i 0).toNat c0) (rs.getD i 0):=by
 simp[za2,List.getD,hi]
theorem zjv (k:OkG gr) (m:MxOk gr key l perm rs) {i:Nat}(hi:i<perm.length):(sdV (za2 gr key l perm rs)).1.getD i 0=pg gr (dl gr (l.getD (perm.getD i 0).toNat c0).A+1*rs.getD i 0)∧(sdV (za2 gr key l perm rs)).2.getD i 0=pg gr (dl gr (l.getD (perm.getD i 0).toNat c0).B+dl gr key*rs.getD i 0):=by
 have hj:=zcD m.pr hi
 have hc:=znB m.c (show(perm.getD i 0).toNat<l.length by omega)
 have hs:=znd (l:=za2 gr key l perm rs) (j:=i) (by rw[zd6];exact hi)
 rw[hs.1,hs.2,zEn hi]
 unfold reV
 generalize l.getD (perm.getD i 0).toNat c0=c at hc
 have e1:=zfm k hc.1
 have e2:=zfm k hc.2
 have e3:=zfm k m.key
 generalize dl gr c.A=a at e1
 generalize dl gr c.B=b at e2
 generalize dl gr key=kk at e3
 dsimp only
 rw[e1,e2,e3,zcd k]
 refine⟨by rw[show zah gr gr.G (rs.getD i 0)=pg gr (rs.getD i 0)from rfl,zb9 k,Int.one_mul],?_⟩
 rw[←zvx k,zb9 k,zb9 k,Int.zero_add]
theorem zuC (k:OkG gr) {eta:Int}(hh:h=pg gr eta) {u:Nat→Int}{n i:Nat}(hi:i<n):bef gr.G (rg (chF gr h u C) n) i=pg gr (prN gr.Q u i+eta*lsF C i):=by
 unfold bef
 cases i with
 |zero=>
  show gr.G=pg gr (1+eta*0)
  rw[Int.mul_zero,Int.add_zero,zv9 k]
 |succ i=>
  rw[ziX (a:=[gr.G]) (j:=i) (by simp;omega),zeD _ (by omega)]
  exact vcp k hh _ _
theorem wr0 {gr:Group}(k:OkG gr) {z:Int}(hz:E9 gr.Q z):IntKind.i64.wrap (0-z)=0-z:=by
 have h1:=hz.1
 have h2:=hz.2
 have hq:=k.q
 have hp:=k.p
 exact zap (by omega) (by omega)
theorem zJo {out:List Cipher}{ch:List Int}{n i:Nat}(hi:i<n):(cmP gr key h out ch C n).getD i 0=c1F gr h C i:=by
 unfold cmP
 rw[zi1 (by simp[zaH];omega),zi1 (by simp[zaH];omega),zi1 (by simp[zaH];omega),zi1 (by simp[zaH];omega),zeD _ hi]
theorem zIR {out:List Cipher}{ch:List Int}{n i:Nat}(hi:i<n):(cmP gr key h out ch C n).getD (n+i) 0=c2F gr h ch C i:=by
 unfold cmP
 rw[zi1 (by simp[zaH];omega),zi1 (by simp[zaH];omega),zi1 (by simp[zaH];omega),ziX (j:=i) (by simp[zaH]),zeD _ hi]
theorem zIn {out:List Cipher}{ch:List Int}{n:Nat}:(cmP gr key h out ch C n).getD (2*n) 0=zah gr h C.g:=by
 unfold cmP
 rw[zi1 (by simp[zaH];omega),zi1 (by simp[zaH];omega),ziX (j:=0) (by simp[zaH];omega)]
 rfl
theorem zJq {out:List Cipher}{ch:List Int}{n i:Nat}(hi:i<n):(cmP gr key h out ch C n).getD (2*n+1+i) 0=c4F gr h C i:=by
 unfold cmP
 rw[zi1 (by simp[zaH];omega),ziX (j:=i) (by simp[zaH];omega),zeD _ hi]
theorem zzH {out:List Cipher}{ch:List Int}{n:Nat}:(cmP gr key h out ch C n).getD (3*n+1) 0=zao gr [zah gr gr.G (IntKind.i64.wrap (0-C.f)),za0 gr (sdV out).1 C.k 1]∧(cmP gr key h out ch C n).getD (3*n+2) 0=zao gr [zah gr key (IntKind.i64.wrap (0-C.f)),za0 gr (sdV out).2 C.k 1]:=by
 unfold cmP
 rw[ziX (i:=3*n+1) (j:=0) (by simp[zaH];omega),ziX (i:=3*n+2) (j:=1) (by simp[zaH];omega)]
 exact⟨rfl,rfl⟩
def ppR (gr:Group) (key h:Int) (l:List Cipher) (perm rs:List Int) (C:Pc):Rp:=
 let q:=gr.Q;let t:=ppT gr key h l perm rs C;let u:=ppU gr key h l perm rs C;let e:=ppE gr key h l perm rs C;let n:=l.length
 ⟨rg (rF q t C.w u) n,rg (rF q t C.v (abF q (ppY gr key h l perm rs C) C)) n,rg (rF q t C.s (dlF q u C)) n,(C.g+t*C.c.getD (n-1) 0)%q,rg (rF q t C.k e) n,rg (rF q t C.m (fun i=>C.b.getD i 0)) n,(C.f+t*dtN q rs (rg e n) n)%q⟩
theorem zyJ (k:OkG gr) (P:PpOk gr key h l perm rs C):∀z∈ppM gr key h l perm rs C,zal gr z=true:=by
 have hh:=zfm k P.hh
 have hpl:=P.m.pl
 have hkl:=P.c.k.1
 have hml:(za2 gr key l perm rs).length=l.length:=by rw[zd6,P.m.pl]
 have hsl:=zf3 (za2 gr key l perm rs)
 have d1:zal gr (za0 gr (sdV (za2 gr key l perm rs)).1 C.k 1)=true:=by
  rw[zgp k (f:=fun i=>dl gr (l.getD (perm.getD i 0).toNat c0).A+1*rs.getD i 0) (by omega) fun i hi=>(zjv k P.m (by omega)).1]
  exact zjZ k _
 have d2:zal gr (za0 gr (sdV (za2 gr key l perm rs)).2 C.k 1)=true:=by
  rw[zgp k (f:=fun i=>dl gr (l.getD (perm.getD i 0).toNat c0).B+dl gr key*rs.getD i 0) (by omega) fun i hi=>(zjv k P.m (by omega)).2]
  exact zjZ k _
 unfold ppM cmP
 refine zdP (zdP (zdP (zdP (ze6 fun i _=>zlA k P.hh _ _) (ze6 fun i hi=>?_)) ?_) (ze6 fun i _=>zlA k P.hh _ _)) ?_
 ·unfold c2F
  refine zfu k (zdt k ?_ _) (zdt k P.hh _)
  unfold ppH
  rw[zuC k hh hi]
  exact zjZ k _
 ·intro x hx;rw[List.mem_singleton]at hx;rw[hx];exact zdt k P.hh _
 intro x hx
 simp only[List.mem_cons,List.not_mem_nil,or_false]at hx
 rcases hx with rfl|rfl
 ·exact zfu k (zdt k (zeI k) _) d1
 exact zfu k (zdt k P.m.key _) d2
theorem zCm (k:OkG gr) (P:PpOk gr key h l perm rs C):∀z∈(ppR gr key h l perm rs C).cs,E9 gr.Q z:=by
 have hq:=k.q
 have hq2:0<gr.Q:=by omega
 have hr:∀(t:Int) (w:List Int) (u:Nat→Int) (n:Nat),∀z∈rg (rF gr.Q t w u) n,E9 gr.Q z:=fun t w u n=>ze6 fun i _=>by unfold rF;exact zdL hq2 _
 have h1:∀x:Int,∀z∈[x%gr.Q],E9 gr.Q z:=fun x z hz=>by rw[List.mem_singleton]at hz;rw[hz];exact zdL hq2 _
 exact zdP (hr _ _ _ _) (zdP (hr _ _ _ _) (zdP (hr _ _ _ _) (zdP (h1 _) (zdP (hr _ _ _ _) (zdP (hr _ _ _ _) (h1 _))))))
theorem zzc (k:OkG gr) (P:PpOk gr key h l perm rs C):VpOk gr key h l (za2 gr key l perm rs) (ppV gr key h l perm rs C) (ppR gr key h l perm rs C):=
 ⟨P.m.key,P.m.n,P.m.c,zg4 k P.m,by rw[zd6,P.m.pl],P.hh,⟨zaH _ _,ztd k P⟩,⟨zaH _ _,zwN k P⟩,zsD k P,⟨(zsG k P).1,zyJ k P⟩,rfl,rfl,⟨zaH _ _,zaH _ _,zaH _ _,zaH _ _,zaH _ _⟩⟩
theorem zDa (k:OkG gr) (P:PpOk gr key h l perm rs C):spB gr l.length (ppV gr key h l perm rs C)=true:=by
 have V:=zzc k P
 have e1:=V.rs
 have hl:(ppV gr key h l perm rs C).Pi.Responses.length=5*l.length+2:=by
  rw[e1]
  have r:=V.r
  simp only[Rp.cs,List.length_append,List.length_cons,List.length_nil,r.s1,r.s2,r.s3,r.kk,r.mm];omega
 simp only[spB,Bool.and_eq_true,decide_eq_true_eq]
 exact⟨V.pl.1,V.pw.1,V.ch.1,V.cm.1,V.cl,hl,List.all_eq_true.2 V.pl.2,List.all_eq_true.2 V.pw.2,List.all_eq_true.2 V.ch.2,List.all_eq_true.2 V.cm.2,by rw[e1];exact zo8 (zCm k P)⟩
end
section
variable {gr:Group}{key h:Int}{l:List Cipher}{perm rs:List Int}{C:Pc}
theorem zDL (k:OkG gr) (P:PpOk gr key h l perm rs C) {i:Nat}(hi:i<l.length):q1 gr h (ppY gr key h l perm rs C) (ppZ gr key h l perm rs C) (ppT gr key h l perm rs C) (ppV gr key h l perm rs C) (ppR gr key h l perm rs C) i=true:=by
 have hz:E9 gr.Q (ppZ gr key h l perm rs C):=zgn k _ _
 show(zao gr [(ppM gr key h l perm rs C).getD i 0,zah gr (zao gr [zah gr ((ppP gr h perm C l.length).getD i 0) (ppY gr key h l perm rs C),(ppW gr key h l perm rs C).getD i 0,zah gr gr.G (IntKind.i64.wrap (0-ppZ gr key h l perm rs C))]) (ppT gr key h l perm rs C)]==vc gr h ((ppR gr key h l perm rs C).s1.getD i 0) ((ppR gr key h l perm rs C).s2.getD i 0))=true
 unfold ppM ppP ppW ppR
 dsimp only
 rw[zJo hi,zeD _ hi,zeD _ hi,zeD _ hi,zeD _ hi]
 exact beq_iff_eq.2 (zKh k (zfm k P.hh) (u:=ppU gr key h l perm rs C i) (ab:=abF gr.Q (ppY gr key h l perm rs C) C i) (Int.emod_emod _ _) (Int.emod_emod _ _) (Int.emod_emod _ _) (Int.emod_emod _ _) (wr0 k hz))
theorem zCo (k:OkG gr) (P:PpOk gr key h l perm rs C) {i:Nat}(hi:i<l.length):q2 gr h (ppT gr key h l perm rs C) (ppV gr key h l perm rs C) (ppR gr key h l perm rs C) l.length i=true:=by
 show(zao gr [(ppM gr key h l perm rs C).getD (l.length+i) 0,zah gr ((ppH gr key h l perm rs C).getD i 0) (ppT gr key h l perm rs C)]==zao gr [zah gr (bef gr.G (ppH gr key h l perm rs C) i) ((ppR gr key h l perm rs C).s1.getD i 0),zah gr h ((ppR gr key h l perm rs C).s3.getD i 0)])=true
 unfold ppM ppR
 dsimp only
 rw[zIR hi,zeD _ hi,zeD _ hi]
 unfold c2F
 have hb:bef gr.G (ppH gr key h l perm rs C) i=pg gr (prN gr.Q (ppU gr key h l perm rs C) i+dl gr h*lsF C i):=zuC k (zfm k P.hh) hi
 have hc:(ppH gr key h l perm rs C).getD i 0=vc gr h (prN gr.Q (ppU gr key h l perm rs C) (i+1)) (C.c.getD i 0):=zeD _ hi
 rw[hc]
 exact beq_iff_eq.2 (zJU k (zfm k P.hh) hb (u:=ppU gr key h l perm rs C i) (d:=dlF gr.Q (ppU gr key h l perm rs C) C i) (Int.emod_emod _ _) (Int.emod_emod _ _) (Int.emod_emod _ _) (Int.emod_emod _ _))
theorem zCL (k:OkG gr) (P:PpOk gr key h l perm rs C) {i:Nat}(hi:i<l.length):q4 gr h (ppT gr key h l perm rs C) (ppV gr key h l perm rs C) (ppR gr key h l perm rs C) l.length i=true:=by
 show(zao gr [(ppM gr key h l perm rs C).getD (2*l.length+1+i) 0,zah gr ((ppW gr key h l perm rs C).getD i 0) (ppT gr key h l perm rs C)]==vc gr h ((ppR gr key h l perm rs C).kk.getD i 0) ((ppR gr key h l perm rs C).mm.getD i 0))=true
 unfold ppM ppR ppW
 dsimp only
 rw[zJq hi,zeD _ hi,zeD _ hi,zeD _ hi]
 exact beq_iff_eq.2 (zJ1 k (zfm k P.hh) (Int.emod_emod _ _) (Int.emod_emod _ _))
theorem zD5 (k:OkG gr) (P:PpOk gr key h l perm rs C):q3 gr h (tgN gr.Q (ppX gr key h l perm rs C) (ppY gr key h l perm rs C) (ppZ gr key h l perm rs C) l.length) (ppT gr key h l perm rs C) (ppV gr key h l perm rs C) (ppR gr key h l perm rs C) l.length=true:=by
 have hn:=P.m.n
 have hq:=k.q
 have hx:E9 gr.Q (ppX gr key h l perm rs C):=zgn k _ _
 have ht:=zC9 (q:=gr.Q) (y:=ppY gr key h l perm rs C) (z:=ppZ gr key h l perm rs C) (by omega) hx.1 P.pr P.m.pb
 rw[P.m.pl]at ht
 have hc:(ppH gr key h l perm rs C).getD (l.length-1) 0=vc gr h (prN gr.Q (ppU gr key h l perm rs C) (l.length-1+1)) (C.c.getD (l.length-1) 0):=zeD _ (by omega)
 rw[show l.length-1+1=l.length by omega]at hc
 show(zao gr [(ppM gr key h l perm rs C).getD (2*l.length) 0,zah gr (zao gr [(ppH gr key h l perm rs C).getD (l.length-1) 0,zah gr (zah gr gr.G (tgN gr.Q _ _ _ l.length)) (-1)]) (ppT gr key h l perm rs C)]==zah gr h (ppR gr key h l perm rs C).g)=true
 rw[hc]
 unfold ppM ppR
 dsimp only
 rw[zIn]
 exact beq_iff_eq.2 (zHf k (zfm k P.hh) (congrArg (· %gr.Q) ht) (Int.emod_emod _ _))
theorem zAu (k:OkG gr) (P:PpOk gr key h l perm rs C):dtN gr.Q rs (rg (ppE gr key h l perm rs C) l.length) l.length%gr.Q=smL (fun i=>rs.getD i 0*upN gr.Q (ppX gr key h l perm rs C) (perm.getD i 0).toNat) perm.length%gr.Q:=by
 have hq:=k.q
 rw[zpb (by omega),P.m.pl]
 refine congrArg (· %gr.Q) (ziS _ fun i hi=>?_)
 rw[zeD _ hi]
 unfold ppE
 rw[zsH (zcD P.pr (by rw[P.m.pl];exact hi)).1]
theorem zBw (k:OkG gr) (P:PpOk gr key h l perm rs C):qE gr (ppT gr key h l perm rs C) ((ppM gr key h l perm rs C).getD (3*l.length+1) 0) gr.G (rg (upN gr.Q (ppX gr key h l perm rs C)) l.length) (sdV l).1 (sdV (za2 gr key l perm rs)).1 (ppR gr key h l perm rs C)=true∧
 qE gr (ppT gr key h l perm rs C) ((ppM gr key h l perm rs C).getD (3*l.length+2) 0) key (rg (upN gr.Q (ppX gr key h l perm rs C)) l.length) (sdV l).2 (sdV (za2 gr key l perm rs)).2 (ppR gr key h l perm rs C)=true:=by
 have hq:=k.q
 have hpl:=P.m.pl
 have hsl:=zf3 l
 have hso:=zf3 (za2 gr key l perm rs)
 rw[zd6]at hso
 have hk:=P.c.k.1
 have hf:=wr0 k P.c.f
 have hF:IntKind.i64.wrap (0-(ppR gr key h l perm rs C).f)=0-(ppR gr key h l perm rs C).f:=wr0 k (zdL (by omega) _)
 have hK:∀i,i<perm.length→(ppR gr key h l perm rs C).kk.getD i 0%gr.Q=(C.k.getD i 0+ppT gr key h l perm rs C*upN gr.Q (ppX gr key h l perm rs C) (perm.getD i 0).toNat)%gr.Q:=fun i hi=>by
  unfold ppR
  dsimp only
  rw[zeD _ (by omega)]
  unfold rF
  rw[Int.emod_emod]
  unfold ppE
  rw[zsH (zcD P.pr hi).1]
 have hl:(ppR gr key h l perm rs C).kk.length=perm.length:=by unfold ppR;dsimp only;rw[zaH,hpl]
 have lu:(rg (upN gr.Q (ppX gr key h l perm rs C)) l.length).length=perm.length:=by rw[zaH,hpl]
 have hu:∀j,j<perm.length→(rg (upN gr.Q (ppX gr key h l perm rs C)) l.length).getD j 0=upN gr.Q (ppX gr key h l perm rs C) j:=fun j hj=>zeD _ (by omega)
 have hFF:(ppR gr key h l perm rs C).f%gr.Q=(C.f+ppT gr key h l perm rs C*dtN gr.Q rs (rg (ppE gr key h l perm rs C) l.length) l.length)%gr.Q:=Int.emod_emod _ _
 unfold qE ppM
 rw[zzH.1,zzH.2]
 refine⟨beq_iff_eq.2 (ztg k (perm:=perm) (b0:=1) (zv9 k).symm P.m.pb (by omega) hso.1 lu (by omega) hl (al:=fun j=>dl gr (l.getD j c0).A) (o:=fun i=>dl gr (l.getD (perm.getD i 0).toNat c0).A+1*rs.getD i 0) (rs:=fun i=>rs.getD i 0) (fun j hj=>?_) hu (fun i hi=>(zjv k P.m hi).1) (fun _ _=>rfl) hK hFF (zAu k P) hf hF),beq_iff_eq.2 (ztg k (perm:=perm) (b0:=dl gr key) (zfm k P.m.key) P.m.pb (by omega) hso.2 lu (by omega) hl (al:=fun j=>dl gr (l.getD j c0).B) (o:=fun i=>dl gr (l.getD (perm.getD i 0).toNat c0).B+dl gr key*rs.getD i 0) (rs:=fun i=>rs.getD i 0) (fun j hj=>?_) hu (fun i hi=>(zjv k P.m hi).2) (fun _ _=>rfl) hK hFF (zAu k P) hf hF)⟩
 ·rw[(znd (by omega)).1];exact zfm k (znB P.m.c (by omega)).1
 rw[(znd (by omega)).2];exact zfm k (znB P.m.c (by omega)).2
theorem zBI (k:OkG gr) (P:PpOk gr key h l perm rs C):vpB gr key h l (za2 gr key l perm rs) (ppV gr key h l perm rs C) (ppR gr key h l perm rs C) (ppX gr key h l perm rs C) (ppY gr key h l perm rs C) (ppZ gr key h l perm rs C) (ppT gr key h l perm rs C) l.length=true:=by
 unfold vpB
 rw[zwT fun i hi=>by rw[zDL k P hi,zCo k P hi,zCL k P hi];rfl,zD5 k P]
 have h1:=zBw k P
 have e:(ppV gr key h l perm rs C).Pi.Commits=ppM gr key h l perm rs C:=rfl
 rw[e,h1.1,h1.2];rfl
theorem zxm (k:OkG gr) {B:Bases}(P:PpOk gr key B.H l perm rs C):zci gr B key l (za2 gr key l perm rs) (ppV gr key B.H l perm rs C)=some true:=by
 rw[zBW k (zzc k P) (zDa k P)]
 have h1:=zBI k P
 have e1:vpX gr key l (za2 gr key l perm rs) (ppV gr key B.H l perm rs C)=ppX gr key B.H l perm rs C:=rfl
 have e2:vpY gr key l (za2 gr key l perm rs) (ppV gr key B.H l perm rs C)=ppY gr key B.H l perm rs C:=rfl
 have e3:vpZ gr key l (za2 gr key l perm rs) (ppV gr key B.H l perm rs C)=ppZ gr key B.H l perm rs C:=rfl
 have e4:vpT gr key l (za2 gr key l perm rs) (ppV gr key B.H l perm rs C)=ppT gr key B.H l perm rs C:=rfl
 have e5:(ppV gr key B.H l perm rs C).Pi.Challenges.getD 0 0=ppT gr key B.H l perm rs C:=rfl
 rw[e1,e2,e3,e4,e5,h1,beq_self_eq_true];rfl
end
section
variable {gr:Group}{key:Int}{B:Bases}{l:List Cipher}{perm rs s t w x:List Int}{a b d f:Int}
theorem zrN (h:zdq perm=true) {i j:Nat}(hi:i<perm.length) (hj:j<perm.length) (e:perm.getD i 0=perm.getD j 0):i=j:=by
 simp only[zdq,Bool.and_eq_true,zif,decide_eq_true_eq]at h
 rw[zaC hi,zaC hj]at e
 exact(List.getElem_inj h.2).1 e
theorem zAe {Hs ss:List Int}(hp:zdq perm=true) (hr:∀x∈perm,0≤x∧x<perm.length) {i:Nat}(hi:i<perm.length):(zeS gr Hs perm ss).getD (perm.getD i 0).toNat 0=zao gr [zah gr gr.G (ss.getD (perm.getD i 0).toNat 0),Hs.getD i 0]:=by
 have h:=zlQ (f:=zi8 gr Hs perm ss) (I:=fun m s=>s.length=perm.length∧∀i,i<m→i<perm.length→s.getD (perm.getD i 0).toNat 0=zao gr [zah gr gr.G (ss.getD (perm.getD i 0).toNat 0),Hs.getD i 0]) (s0:=List.replicate perm.length 0) (m:=perm.length) ⟨by simp,fun i hi=>by omega⟩ (fun m s hm ⟨h1,h2⟩=>by
  refine⟨by simp[zi8,h1],fun i hi hi2=>?_⟩
  unfold zi8
  have hx:=zcD hr hi2
  have hy:=zcD hr hm
  by_cases e:m=i
  ·subst e
   rw[List.getD_eq_getElem?_getD,List.getElem?_set_self (by omega),Option.getD_some]
  ·have hne:(perm.getD m 0).toNat≠(perm.getD i 0).toNat:=fun e2=>e (zrN hp hm hi2 (by omega))
   rw[List.getD_eq_getElem?_getD,List.getElem?_set_ne hne,←List.getD_eq_getElem?_getD]
   exact h2 i (by omega) hi2) perm.length (Nat.le_refl _)
 exact h.2 i hi hi
theorem zxg (h:zdq perm=true):∃inv:Nat→Nat,∀j,j<perm.length→inv j<perm.length∧perm.getD (inv j) 0=(j:Int):=by
 have key:∀j:Nat,∃i,j<perm.length→i<perm.length∧perm.getD i 0=(j:Int):=by
  intro j
  by_cases hj:j<perm.length
  ·obtain⟨i,hi,e⟩:=List.getElem_of_mem (znT h (j:=(j:Int)) ⟨by omega,by omega⟩)
   exact⟨i,fun _=>⟨hi,by rw[zaC hi,e]⟩⟩
  ·exact⟨0,fun hh=>absurd hh hj⟩
 exact⟨fun j=>Classical.choose (key j),fun j hj=>Classical.choose_spec (key j) hj⟩
theorem zHE (q u v a:Int):a*u%q*v%q=a*v%q*u%q:=by
 rw[Int.mul_emod (a*u%q),Int.emod_emod,←Int.mul_emod,Int.mul_emod (a*v%q),Int.emod_emod,←Int.mul_emod]
 congr 1
 rw[Int.mul_assoc,Int.mul_comm u v,Int.mul_assoc]
theorem zsf (q:Int) (e:List Int):∀n,((List.range n).map fun(i:Nat)=>(i:Int)).foldl (fun a j=>a*e.getD j.toNat 0%q) 1=alN q e n
 |0=>rfl
 |n+1=>by
  rw[List.range_succ,List.map_append,List.foldl_append,zsf q e n];rfl
theorem ztO (q:Int) (e:List Int):∀n,n≤perm.length→alN q (zjR e perm) n=(perm.take n).foldl (fun a j=>a*e.getD j.toNat 0%q) 1
 |0,_=>rfl
 |n+1,h=>by
  rw[znh (by omega),←ztO q e n (by omega)]
  show alN q _ n*(zjR e perm).getD n 0%q=_
  have:(zjR e perm).getD n 0=e.getD (perm.getD n 0).toNat 0:=by simp[zjR,List.getD,show n<perm.length by omega]
  rw[this]
theorem zxM (h:zdq perm=true) (q:Int) (e:List Int):alN q (zjR e perm) perm.length=alN q e perm.length:=by
 rw[ztO q e _ (Nat.le_refl _),List.take_length,(zmQ h).foldl_eq' (fun i _ j _ a=>zHE q _ _ a),zsf]
theorem ztV {e:List Int}{i:Nat}(hi:i<perm.length):(zjR e perm).getD i 0=e.getD (perm.getD i 0).toNat 0:=by simp[zjR,List.getD,hi]
def gmN (eta:Int) (own t:List Int):Nat→Int
 |0=>eta
 |i+1=>t.getD i 0+gmN eta own t i*own.getD i 0
theorem zpe (k:OkG gr) {h eta:Int}(hh:h=pg gr eta) (own t:List Int):∀i,hN gr h own t i=pg gr (gmN eta own t i)
 |0=>hh
 |i+1=>by
  show zao gr [zah gr gr.G (t.getD i 0),zah gr (hN gr h own t i) (own.getD i 0)]=_
  rw[zpe k hh own t i,zcd k]
  exact zb9 k _ _
theorem zAp {q:Int}(eta:Int) (own t:List Int):∀n,gmN eta own t n%q=(yN q own t n+eta*alN q own n)%q
 |0=>by
  show eta%q=(0+eta*1)%q
  rw[Int.mul_one,Int.zero_add]
 |n+1=>by
  obtain⟨m1,h1⟩:=ek (zAp (q:=q) eta own t n)
  obtain⟨m2,h2⟩:=mw (t.getD n 0+own.getD n 0*yN q own t n) q
  obtain⟨m3,h3⟩:=mw (alN q own n*own.getD n 0) q
  show(t.getD n 0+gmN eta own t n*own.getD n 0)%q=((t.getD n 0+own.getD n 0*yN q own t n)%q+eta*(alN q own n*own.getD n 0%q))%q
  rw[h1,h2,h3]
  generalize t.getD n 0=a
  generalize own.getD n 0=c
  generalize yN q own t n=y
  generalize alN q own n=p
  have e:a+(y+eta*p+q*m1)*c=(a+c*y-q*m2+eta*(p*c-q*m3))+q*(m1*c+m2+eta*m3):=by grind
  rw[e,Int.add_mul_emod_self_left]
end
section
variable {gr:Group}{key:Int}{B:Bases}{l:List Cipher}{perm rs s t w x:List Int}{a b d f:Int}
theorem zsl (k:OkG gr) {Hs ss:List Int}(hp:zdq perm=true) (hr:∀x∈perm,0≤x∧x<perm.length) (hl:Hs.length=perm.length) (hH:∀x∈Hs,zal gr x=true):∃cx:Nat→Int,(∀j,j<perm.length→(zeS gr Hs perm ss).getD j 0=pg gr (cx j))∧
 ∀U:Nat→Int,smL (fun j=>cx j*U j) perm.length=smL (fun j=>ss.getD j 0*U j) perm.length+smL (fun i=>dl gr (Hs.getD i 0)*U (perm.getD i 0).toNat) perm.length:=by
 obtain⟨inv,hi⟩:=zxg hp
 refine⟨fun j=>ss.getD j 0+dl gr (Hs.getD (inv j) 0),fun j hj=>?_,fun U=>?_⟩
 ·obtain⟨h1,h2⟩:=hi j hj
  have:=zAe (gr:=gr) (Hs:=Hs) (ss:=ss) hp hr h1
  rw[h2,Int.toNat_natCast]at this
  rw[this]
  have e:=zfm k (zcD hH (show inv j<Hs.length by omega))
  show _=pg gr (ss.getD j 0+dl gr (Hs.getD (inv j) 0))
  generalize Hs.getD (inv j) 0=v at e
  rw[←zb9 k,←e];rfl
 have e1:smL (fun j=>(ss.getD j 0+dl gr (Hs.getD (inv j) 0))*U j) perm.length=smL (fun j=>ss.getD j 0*U j+dl gr (Hs.getD (inv j) 0)*U j) perm.length:=ziS _ fun j _=>Int.add_mul _ _ _
 have e2:=zsi hp (fun j=>dl gr (Hs.getD (inv j.toNat) 0)*U j.toNat)
 have e3:smL (fun i=>dl gr (Hs.getD (inv (perm.getD i 0).toNat) 0)*U (perm.getD i 0).toNat) perm.length=smL (fun i=>dl gr (Hs.getD i 0)*U (perm.getD i 0).toNat) perm.length:=ziS _ fun i hlt=>by
  have hx:=zcD hr hlt
  obtain⟨h1,h2⟩:=hi (perm.getD i 0).toNat (by omega)
  rw[zrN hp h1 hlt (by omega)]
 have e4:smL (fun i:Nat=>dl gr (Hs.getD (inv (i:Int).toNat) 0)*U (i:Int).toNat) perm.length=smL (fun j=>dl gr (Hs.getD (inv j) 0)*U j) perm.length:=rfl
 rw[e1,zyr,←e4,←e2,e3]
theorem zCf {q z:Int}{eta xr xx oo:Nat→Int}{n:Nat}(h:∀i,i<n→xr i%q=(xx i+z*oo i)%q):smL (fun i=>eta i*xr i) n%q=(smL (fun i=>eta i*xx i) n+z*smL (fun i=>eta i*oo i) n)%q:=by
 rw[←zlC]
 exact zp5 _ fun i hi=>by
  rw[Int.mul_emod,h i hi,←Int.mul_emod,show eta i*(xx i+z*oo i)=eta i*xx i+z*(eta i*oo i)by grind]
theorem zDs {q a Sc Ss Se z r0 sm n1 n2:Int}(h1:Sc=Ss+Se) (h2:r0=a+z*sm+q*n1) (h3:sm=Ss+q*n2):a+(Sc+Se*(-1))*z=r0+q*(0-(n1+z*n2)):=by
 rw[h2,h3,h1];grind
theorem zJT (k:OkG gr) {a z r0 sm:Int}{cols Hs:List Int}{cx ex:Nat→Int}{Ss:Int}(hc:∀j,j<cols.length→cols.getD j 0=pg gr (cx j)) (hH:∀j,j<Hs.length→Hs.getD j 0=pg gr (ex j)) (h1:smL cx cols.length=Ss+smL ex Hs.length) (h2:r0%gr.Q=(a+z*sm)%gr.Q) (h3:sm%gr.Q=Ss%gr.Q):
 zao gr [zah gr gr.G a,zah gr (zao gr [zao gr cols,zah gr (zao gr Hs) (-1)]) z]=zah gr gr.G r0:=by
 obtain⟨n1,h2⟩:=ek h2
 obtain⟨n2,h3⟩:=ek h3
 rw[zuR k hc,zuR k hH,zcd k,zb9 k,zcd k,show zah gr gr.G a=pg gr a from rfl,show zah gr gr.G r0=pg gr r0 from rfl,zb9 k]
 exact zln _ (zDs h1 h2 h3)
theorem zCX {q b Sx Sc z r1 D SsU SeU Sr n1 n2 n3:Int}(h1:Sc=SsU+SeU) (h2:r1=b+z*D+q*n1) (h3:D=SsU+q*n2) (h4:Sr=Sx+z*SeU+q*n3):(b+Sx)+Sc*z=(r1+Sr)+q*(0-(n1+z*n2+n3)):=by
 rw[h2,h3,h1,h4];grind
theorem zIJ (k:OkG gr) {b z r1 D SsU SeU:Int}{cols Hs e x xr:List Int}{cx ex:Nat→Int}(hc:∀j,j<cols.length→cols.getD j 0=pg gr (cx j)) (hH:∀j,j<Hs.length→Hs.getD j 0=pg gr (ex j)) (le:cols.length=e.length) (lx:Hs.length=x.length) (lr:Hs.length=xr.length)
 (h1:smL (fun j=>cx j*e.getD j 0) cols.length=SsU+SeU) (h2:r1%gr.Q=(b+z*D)%gr.Q) (h3:D%gr.Q=SsU%gr.Q) (h4:smL (fun i=>ex i*xr.getD i 0) Hs.length%gr.Q=(smL (fun i=>ex i*x.getD i 0) Hs.length+z*SeU)%gr.Q):
 zao gr [zao gr [zah gr gr.G b,za0 gr Hs x 1],zah gr (za0 gr cols e 1) z]=zao gr [zah gr gr.G r1,za0 gr Hs xr 1]:=by
 obtain⟨n1,h2⟩:=ek h2
 obtain⟨n2,h3⟩:=ek h3
 obtain⟨n3,h4⟩:=ek h4
 rw[zgp k (l:=cols) (m:=e) le hc,zgp k (l:=Hs) (m:=x) lx hH,zgp k (l:=Hs) (m:=xr) lr hH,show zah gr gr.G b=pg gr b from rfl,show zah gr gr.G r1=pg gr r1 from rfl,zcd k,zb9 k,zb9 k,zb9 k]
 exact zln _ (zCX h1 h2 h3 h4)
theorem zD6 {q d gm eta al y z r2 n1 n2:Int}(h1:gm=y+eta*al+q*n1) (h2:r2=d+z*y+q*n2):d+(gm+eta*(0-al))*z=r2+q*(z*n1-n2):=by
 rw[h1,h2];grind
theorem zKa (k:OkG gr) {d z r2 gm eta al y h last:Int}(hh:h=pg gr eta) (hl:last=pg gr gm) (h1:gm%gr.Q=(y+eta*al)%gr.Q) (h2:r2%gr.Q=(d+z*y)%gr.Q):
 zao gr [zah gr gr.G d,zah gr (zao gr [last,zah gr h (0-al)]) z]=zah gr gr.G r2:=by
 obtain⟨n1,h1⟩:=ek h1
 obtain⟨n2,h2⟩:=ek h2
 rw[hh,hl,show zah gr gr.G d=pg gr d from rfl,show zah gr gr.G r2=pg gr r2 from rfl,zcd k,zb9 k,zcd k,zb9 k]
 exact zln _ (zD6 h1 h2)
theorem zCD {q w gm x t own z rw_ xr n1 n2:Int}(h1:rw_=w+z*t+q*n1) (h2:xr=x+z*own+q*n2):(w+gm*x)+(t+gm*own)*z=(rw_+gm*xr)+q*(0-(n1+gm*n2)):=by
 rw[h1,h2];grind
theorem zIf (k:OkG gr) {w gm x t own z rw_ xr c0 c1:Int}(h0:c0=pg gr gm) (h1:c1=pg gr (t+gm*own)) (h2:rw_%gr.Q=(w+z*t)%gr.Q) (h3:xr%gr.Q=(x+z*own)%gr.Q):
 zao gr [zao gr [zah gr gr.G w,zah gr c0 x],zah gr c1 z]=zao gr [zah gr gr.G rw_,zah gr c0 xr]:=by
 obtain⟨n1,h2⟩:=ek h2
 obtain⟨n2,h3⟩:=ek h3
 rw[h0,h1,show zah gr gr.G w=pg gr w from rfl,show zah gr gr.G rw_=pg gr rw_ from rfl,zcd k,zcd k,zcd k,zb9 k,zb9 k,zb9 k]
 exact zln _ (zCD h2 h3)
end
section
variable {gr:Group}{key:Int}{B:Bases}{l:List Cipher}{perm rs s t w x:List Int}{a b d f:Int}
theorem zmb {F:Nat→Int}{n i:Nat}(hi:i<n):((List.range n).map F).getD i 0=F i:=zeD F hi
theorem zDv {z:Int}{n i:Nat}{e own:List Int}(hi:i<n):(pmR gr z n e own rs s t w x a b d f).getD (4+i) 0=(w.getD i 0+z*t.getD i 0)%gr.Q:=by
 unfold pmR
 rw[zi1 (by simp;omega),ziX (i:=4+i) (j:=i) rfl,zmb hi];rfl
theorem zD2 {z:Int}{n:Nat}{e own:List Int}:(pmR gr z n e own rs s t w x a b d f).drop (n+4)=(List.range n).map (rsF gr.Q z x own):=by
 unfold pmR
 exact List.drop_left' (by simp)
theorem zpm {h:Int}{es ts:List Int}{i:Nat}(hi:i<es.length):(zdh gr h es ts).getD i 0=hN gr h es ts (i+1):=zmb hi
theorem zx8 {h:Int}{es ts:List Int}{i:Nat}(hi:i≤es.length):bef h (zdh gr h es ts) i=hN gr h es ts i:=by
 unfold bef
 cases i with
 |zero=>rfl
 |succ i=>rw[ziX (a:=[h]) (j:=i) (by simp;omega),zpm (by omega)]
theorem zDp (k:OkG gr) (P:PmOk gr key B l perm rs s t w x a b d f) (z:Int):zao gr [zah gr gr.G a,zah gr (zao gr [zao gr (zeS gr B.Hs perm s),zah gr (zao gr B.Hs) (-1)]) z]=zah gr gr.G ((a+z*smN gr.Q s l.length)%gr.Q):=by
 have hq:=k.q
 have hpl:=P.m.pl
 have hbl:=P.bs.l
 have hcl:=(P.cols k).1
 obtain⟨cx,c1,c2⟩:=zsl k (ss:=s) P.m.pb P.prn (by omega) P.bs.s
 have c3:=c2 (fun _=>1)
 simp only[Int.mul_one]at c3
 refine zJT k (cx:=cx) (ex:=fun i=>dl gr (B.Hs.getD i 0)) (Ss:=smL (fun j=>s.getD j 0) perm.length) (fun j hj=>c1 j (by omega)) (fun j hj=>zfm k (zcD P.bs.s hj)) ?_ (Int.emod_emod _ _) ?_
 ·rw[hcl,hbl,←hpl];exact c3
 rw[←hpl];exact zwG (by omega) s _
theorem zsV (P:PmOk gr key B l perm rs s t w x a b d f) {z:Int}{i:Nat}(hi:i<perm.length):((List.range l.length).map (rsF gr.Q z x (pmO gr key B l perm rs s))).getD i 0%gr.Q=(x.getD i 0+z*(pmE gr key B l perm rs s).getD (perm.getD i 0).toNat 0)%gr.Q:=by
 have hpl:=P.m.pl
 rw[zmb (by omega)]
 unfold rsF pmO
 rw[Int.emod_emod,ztV hi]
theorem zC5 (k:OkG gr) (P:PmOk gr key B l perm rs s t w x a b d f) (z:Int):zao gr [zao gr [zah gr gr.G b,za0 gr B.Hs x 1],zah gr (za0 gr (zeS gr B.Hs perm s) (pmE gr key B l perm rs s) 1) z]=zao gr [zah gr gr.G ((b+z*dtN gr.Q s (pmE gr key B l perm rs s) l.length)%gr.Q),za0 gr B.Hs ((List.range l.length).map (rsF gr.Q z x (pmO gr key B l perm rs s))) 1]:=by
 have hq:=k.q
 have hpl:=P.m.pl
 have hbl:=P.bs.l
 have hcl:=(P.cols k).1
 have hel:=(P.e k).1
 have hxl:=P.c.x.1
 obtain⟨cx,c1,c2⟩:=zsl k (ss:=s) P.m.pb P.prn (by omega) P.bs.s
 have c3:=c2 (fun j=>(pmE gr key B l perm rs s).getD j 0)
 refine zIJ k (cx:=cx) (ex:=fun i=>dl gr (B.Hs.getD i 0)) (D:=dtN gr.Q s (pmE gr key B l perm rs s) l.length) (fun j hj=>c1 j (by omega)) (fun j hj=>zfm k (zcD P.bs.s hj)) (by omega) (by omega) (by simp;omega) (SsU:=smL (fun j=>s.getD j 0*(pmE gr key B l perm rs s).getD j 0) perm.length) (SeU:=smL (fun i=>dl gr (B.Hs.getD i 0)*(pmE gr key B l perm rs s).getD (perm.getD i 0).toNat 0) perm.length) ?_ (Int.emod_emod _ _) ?_ ?_
 ·rw[hcl,←hpl];exact c3
 ·rw[←hpl];exact zpb (by omega) _ _ _
 rw[hbl,←hpl];exact zCf fun i hi=>by rw[hpl];exact zsV P hi
theorem zDH (k:OkG gr) (P:PmOk gr key B l perm rs s t w x a b d f) (z:Int):zao gr [zah gr gr.G d,zah gr (zao gr [(zdh gr B.H (pmO gr key B l perm rs s) t).getD (l.length-1) 0,zah gr B.H (0-alN gr.Q (pmE gr key B l perm rs s) (pmE gr key B l perm rs s).length)]) z]=zah gr gr.G ((d+z*yN gr.Q (pmO gr key B l perm rs s) t l.length)%gr.Q):=by
 have hn:=P.m.n
 have hpl:=P.m.pl
 have hel:=(P.e k).1
 have hol:=(P.o k).1
 have hH:=zfm k P.bs.h
 have hal:=zxM P.m.pb gr.Q (pmE gr key B l perm rs s)
 rw[zpm (by omega),show l.length-1+1=l.length by omega,hel]
 refine zKa k hH (zpe k hH _ _ _) ?_ (Int.emod_emod _ _)
 have:=zAp (q:=gr.Q) (dl gr B.H) (pmO gr key B l perm rs s) t l.length
 rw[this]
 unfold pmO
 rw[←hpl,hal]
theorem zAN (k:OkG gr) (P:PmOk gr key B l perm rs s t w x a b d f):dtN gr.Q rs (pmO gr key B l perm rs s) l.length%gr.Q=smL (fun i=>rs.getD i 0*(pmE gr key B l perm rs s).getD (perm.getD i 0).toNat 0) perm.length%gr.Q:=by
 have hq:=k.q
 rw[zpb (by omega),←P.m.pl]
 refine congrArg (· %gr.Q) (ziS _ fun i hi=>?_)
 unfold pmO
 rw[ztV hi]
theorem zwO (k:OkG gr) (P:PmOk gr key B l perm rs s t w x a b d f) (z:Int):
 zao gr [zao gr [zah gr gr.G (IntKind.i64.wrap (0-f)),za0 gr (sdV (za2 gr key l perm rs)).1 x 1],zah gr (za0 gr (sdV l).1 (pmE gr key B l perm rs s) 1) z]=zao gr [zah gr gr.G (IntKind.i64.wrap (0-(f+z*dtN gr.Q rs (pmO gr key B l perm rs s) l.length)%gr.Q)),za0 gr (sdV (za2 gr key l perm rs)).1 ((List.range l.length).map (rsF gr.Q z x (pmO gr key B l perm rs s))) 1]∧
 zao gr [zao gr [zah gr key (IntKind.i64.wrap (0-f)),za0 gr (sdV (za2 gr key l perm rs)).2 x 1],zah gr (za0 gr (sdV l).2 (pmE gr key B l perm rs s) 1) z]=zao gr [zah gr key (IntKind.i64.wrap (0-(f+z*dtN gr.Q rs (pmO gr key B l perm rs s) l.length)%gr.Q)),za0 gr (sdV (za2 gr key l perm rs)).2 ((List.range l.length).map (rsF gr.Q z x (pmO gr key B l perm rs s))) 1]:=by
 have hq:=k.q
 have hpl:=P.m.pl
 have hel:=(P.e k).1
 have hxl:=P.c.x.1
 have hsl:=zf3 l
 have hso:=zf3 (za2 gr key l perm rs)
 rw[zd6]at hso
 have hf:=wr0 k P.c.f
 have hF:IntKind.i64.wrap (0-(f+z*dtN gr.Q rs (pmO gr key B l perm rs s) l.length)%gr.Q)=0-(f+z*dtN gr.Q rs (pmO gr key B l perm rs s) l.length)%gr.Q:=wr0 k (zdL (by omega) _)
 refine⟨ztg k (perm:=perm) (b0:=1) (zv9 k).symm P.m.pb (by omega) hso.1 (by omega) (by omega) (by simp;omega) (al:=fun j=>dl gr (l.getD j c0).A) (U:=fun j=>(pmE gr key B l perm rs s).getD j 0) (o:=fun i=>dl gr (l.getD (perm.getD i 0).toNat c0).A+1*rs.getD i 0) (rs:=fun i=>rs.getD i 0) (fun j hj=>?_) (fun _ _=>rfl) (fun i hi=>(zjv k P.m hi).1) (fun _ _=>rfl) (fun i hi=>zsV P hi) (Int.emod_emod _ _) (zAN k P) hf hF,ztg k (perm:=perm) (b0:=dl gr key) (zfm k P.m.key) P.m.pb (by omega) hso.2 (by omega) (by omega) (by simp;omega) (al:=fun j=>dl gr (l.getD j c0).B) (U:=fun j=>(pmE gr key B l perm rs s).getD j 0) (o:=fun i=>dl gr (l.getD (perm.getD i 0).toNat c0).B+dl gr key*rs.getD i 0) (rs:=fun i=>rs.getD i 0) (fun j hj=>?_) (fun _ _=>rfl) (fun i hi=>(zjv k P.m hi).2) (fun _ _=>rfl) (fun i hi=>zsV P hi) (Int.emod_emod _ _) (zAN k P) hf hF⟩
 ·rw[(znd (by omega)).1];exact zfm k (znB P.m.c (by omega)).1
 rw[(znd (by omega)).2];exact zfm k (znB P.m.c (by omega)).2
theorem zDZ (k:OkG gr) (P:PmOk gr key B l perm rs s t w x a b d f) (z:Int) {i:Nat}(hi:i<l.length):zao gr [zkJ gr B.H (pmO gr key B l perm rs s) t w x i,zah gr ((zdh gr B.H (pmO gr key B l perm rs s) t).getD i 0) z]=zao gr [zah gr gr.G ((w.getD i 0+z*t.getD i 0)%gr.Q),zah gr (bef B.H (zdh gr B.H (pmO gr key B l perm rs s) t) i) (((List.range l.length).map (rsF gr.Q z x (pmO gr key B l perm rs s))).getD i 0)]:=by
 have hol:=(P.o k).1
 have hH:=zfm k P.bs.h
 rw[zpm (by omega),zx8 (by omega),zmb hi]
 exact zIf k (zpe k hH _ _ _) (zpe k hH _ _ (i+1)) (Int.emod_emod _ _) (Int.emod_emod _ _)
theorem zzp (k:OkG gr) (P:PmOk gr key B l perm rs s t w x a b d f):∀z∈pmC gr key B l perm rs s t w x a b d f,zal gr z=true:=by
 have hpl:=P.m.pl
 have hxl:=P.c.x.1
 have hbl:=P.bs.l
 have hml:(za2 gr key l perm rs).length=l.length:=by rw[zd6,P.m.pl]
 have hsl:=zf3 (za2 gr key l perm rs)
 have d1:zal gr (za0 gr (sdV (za2 gr key l perm rs)).1 x 1)=true:=by
  rw[zgp k (f:=fun i=>dl gr (l.getD (perm.getD i 0).toNat c0).A+1*rs.getD i 0) (by omega) fun i hi=>(zjv k P.m (by omega)).1]
  exact zjZ k _
 have d2:zal gr (za0 gr (sdV (za2 gr key l perm rs)).2 x 1)=true:=by
  rw[zgp k (f:=fun i=>dl gr (l.getD (perm.getD i 0).toNat c0).B+dl gr key*rs.getD i 0) (by omega) fun i hi=>(zjv k P.m (by omega)).2]
  exact zjZ k _
 have d3:zal gr (za0 gr B.Hs x 1)=true:=by
  rw[zgp k (f:=fun i=>dl gr (B.Hs.getD i 0)) (by omega) fun i hi=>zfm k (zcD P.bs.s hi)]
  exact zjZ k _
 have g:=zeI k
 unfold pmC zlu
 refine zdP (zvB (zdt k g _) (zfu k (zdt k g _) d3) (zdt k g _) (zfu k (zdt k g _) d1) (zfu k (zdt k P.m.key _) d2)) (ze6 fun i hi=>?_)
 exact zfu k (zdt k g _) (zdt k (zpK k P.bs.h _ _ _) _)
theorem zCv (k:OkG gr) (P:PmOk gr key B l perm rs s t w x a b d f):shB gr l.length (pmV gr key B l perm rs s t w x a b d f)=true:=by
 have hq:=k.q
 have hq2:0<gr.Q:=by omega
 have hr:∀(z:Int) (w t:List Int) (n:Nat),∀y∈(List.range n).map (rsF gr.Q z w t),E9 gr.Q y:=fun z w t n=>ze6 fun i _=>by unfold rsF;exact zdL hq2 _
 have h4:∀y∈(pmV gr key B l perm rs s t w x a b d f).Pi.Responses,E9 gr.Q y:=by
  refine zdP (zdP (fun y hy=>?_) (hr _ _ _ _)) (hr _ _ _ _)
  simp only[List.mem_cons,List.not_mem_nil,or_false]at hy
  rcases hy with rfl|rfl|rfl|rfl<;>exact zdL hq2 _
 simp only[shB,Bool.and_eq_true,decide_eq_true_eq]
 exact⟨(P.cols k).1,(P.chn k).1,(P.com k).1,rfl,by simp[pmV,pmR];omega,List.all_eq_true.2 (P.cols k).2,List.all_eq_true.2 (P.chn k).2,List.all_eq_true.2 (zzp k P),zo8 h4⟩
theorem zBk (k:OkG gr) (P:PmOk gr key B l perm rs s t w x a b d f):vmB gr key B l (za2 gr key l perm rs) (pmV gr key B l perm rs s t w x a b d f)=true:=by
 have hml:(za2 gr key l perm rs).length=l.length:=by rw[zd6,P.m.pl]
 have e1:wvE gr key l (za2 gr key l perm rs) (pmV gr key B l perm rs s t w x a b d f)=pmE gr key B l perm rs s:=rfl
 have e2:wvZ gr key l (za2 gr key l perm rs) (pmV gr key B l perm rs s t w x a b d f)=pmZ gr key B l perm rs s t w x a b d f:=rfl
 have e3:(pmV gr key B l perm rs s t w x a b d f).Pi.Challenges.getD 0 0=pmZ gr key B l perm rs s t w x a b d f:=rfl
 unfold vmB
 rw[decide_eq_true hml,zCv k P,e1,e2,e3,beq_self_eq_true,Bool.true_and,Bool.true_and,Bool.true_and]
 have hr:(pmV gr key B l perm rs s t w x a b d f).Pi.Responses=pmR gr (pmZ gr key B l perm rs s t w x a b d f) l.length (pmE gr key B l perm rs s) (pmO gr key B l perm rs s) rs s t w x a b d f:=rfl
 have hcm:(pmV gr key B l perm rs s t w x a b d f).Pi.Commits=zlu gr key B.Hs (za2 gr key l perm rs) x a b d f++(List.range l.length).map (zkJ gr B.H (pmO gr key B l perm rs s) t w x):=rfl
 unfold vLf vRt
 rw[hr,hcm,zD2]
 generalize pmZ gr key B l perm rs s t w x a b d f=z
 have hcl:(pmV gr key B l perm rs s t w x a b d f).Columns=zeS gr B.Hs perm s:=rfl
 have hch:(pmV gr key B l perm rs s t w x a b d f).Chain=zdh gr B.H (pmO gr key B l perm rs s) t:=rfl
 rw[hcl,hch]
 refine List.all_eq_true.2 fun i hi=>?_
 have hi:=List.mem_range.1 hi
 unfold vfB hlB
 rw[beq_iff_eq]
 rcases i with _|_|_|_|_|j
 ·exact zDp k P z
 ·exact zC5 k P z
 ·exact zDH k P z
 ·exact(zwO k P z).1
 ·exact(zwO k P z).2
 have hj:j<l.length:=by omega
 rw[ziX (i:=j+1+1+1+1+1) (j:=j) (by simp[zlu];omega),ziX (i:=j+1+1+1+1+1) (j:=j) (by simp[lf5];omega),ziX (i:=j+1+1+1+1+1) (j:=j) (by simp[rt5];omega),zmb hj,zmb hj]
 unfold zkB
 rw[zDv hj]
 exact zDZ k P z hj
theorem zxI (k:OkG gr) (P:PmOk gr key B l perm rs s t w x a b d f):zb7 gr B key l (za2 gr key l perm rs) (pmV gr key B l perm rs s t w x a b d f)=some true:=by
 rw[zDe k P.m.key P.m.n P.m.c (zg4 k P.m) P.bs,zBk k P]
end
theorem zpD (a:List Cipher):(if((a.length:Int) !=(a.length:Int))=true then(
 some false)else(
 ((zaq (σ:=Unit) (fun i6 s5=>
 (ix a i6).bind fun x12=>
 (ix a i6).bind fun x13=>
 if(!(x12.A==x13.A&&x12.B==x13.B))=true then(
 some (.out (.inr false)))else(
 some (.go ()))) (fun s5=>.inl ()) (a.length) 0 ():Option (Unit ⊕ Bool)).bind (Sum.elim (fun x4=>
 some true) some))))=some true:=by
 refine zaw (za1 (by simp) (zae (ψ:=fun v=>v=.inl ()) (zbb (fun _ _=>True) trivial ?_ fun s _=>rfl) ?_))
 ·rintro k s hk _
  exact zaQ hk (zaQ hk (za1 (by simp) (zab trivial)))
 rintro _ rfl
 exact zab rfl
theorem zyz (a:List Cipher):zbR a a=some true:=zpD a
theorem zJY (a:List Cipher):zgj a a=some true:=zpD a
theorem zzT (a b:List Int):zde a b=some (decide (a=b)):=by
 unfold zde
 by_cases hl:a.length=b.length
 ·rw[if_neg (by simp[hl])]
  refine zaw (zae (ψ:=fun x=>(x=.inl ()∧a=b)∨(x=.inr false∧a≠b)) (zbb (fun i _=>a.take i=b.take i) (by simp) ?_ ?_) ?_)
  ·intro i s hi he
   have hb:i<b.length:=by omega
   refine zaQ hi (zaQ hb (zam (fun g=>zab (.inr ⟨rfl,fun e=>?_⟩)) fun g=>zab ?_))
   ·subst e;simp at g
   have g1:a[i]=b[i]:=by simpa using g
   show a.take (i+1)=b.take (i+1)
   rw[List.take_succ_eq_append_getElem hi,List.take_succ_eq_append_getElem hb,he,g1]
  ·intro s he
   rw[List.take_length,hl,List.take_length]at he
   exact .inl ⟨rfl,he⟩
  rintro x (⟨rfl,h⟩|⟨rfl,h⟩)
  ·exact zab (by simp[h])
  exact zab (by simp[h])
 rw[if_pos (by simp<;>omega)]
 have:a≠b:=fun e=>hl (by rw[e])
 simp[this]
theorem zDM {a b:List Int}(h:a.Pairwise (·≤ ·)) (p:a.Perm b):a=srt b:=by
 have h2:(srt b).Pairwise (·≤ ·):=zzC b
 exact List.Perm.eq_of_pairwise (fun x y _ _ h1 h2=>by omega) h h2 (p.trans (List.mergeSort_perm b _).symm)
theorem ztZ {gr:Group}(k:OkG gr) (s:Int) {l:List Cipher}(hl:l.length≤1000) (hc:∀c∈l,zbg gr c=true):zcF gr s l=some (srt (l.map (ziR gr s))):=by
 unfold zcF
 rw[zuv (l:=l) (f:=ziR gr s) []]
 ·rw[List.nil_append,Option.bind_some]
  unfold zdi
  rw[zdJ (by simp<;>omega)];rfl
 intro i hi s' hs
 rw[zed hi,Option.bind_some,zt6 k s (hc _ (List.getElem_mem hi)),Option.bind_some,zdJ (by simp at hs;omega)]
theorem zy0 {L:List Int}{z:Int}{i:Nat}(hi:i≤L.length) (hs:L.Pairwise (·≤ ·)) (h1:∀x∈L.drop i,z<x) (h2:i=0∨L.getD (i-1) 0≤z):(L.take i++z::L.drop i).Pairwise (·≤ ·)∧(L.take i++z::L.drop i).Perm (L++[z]):=by
 refine⟨?_,?_⟩
 ·have hs':=hs
  rw[←List.take_append_drop i L]at hs'
  obtain⟨a1,a2,a3⟩:=List.pairwise_append.1 hs'
  refine List.pairwise_append.2 ⟨a1,List.pairwise_cons.2 ⟨fun x hx=>Int.le_of_lt (h1 x hx),a2⟩,fun x hx y hy=>?_⟩
  rcases List.mem_cons.1 hy with rfl|hy
  ·rcases h2 with rfl|h2
   ·simp at hx
   obtain⟨j,hj,rfl⟩:=List.getElem_of_mem hx
   have hj':j<i:=by simp at hj;omega
   rw[List.getElem_take]
   have hle:L[j]≤L[i-1]:=by
    rcases Nat.lt_or_ge j (i-1)with h|h
    ·exact List.pairwise_iff_getElem.1 hs j (i-1) (by omega) (by omega) h
    ·have:j=i-1:=by omega
     subst this;exact Int.le_refl _
   rw[zaC (show i-1<L.length by omega)]at h2
   omega
  exact a3 x hx y hy
 refine List.perm_middle.trans ?_
 rw[List.take_append_drop]
 exact(List.perm_append_singleton z L).symm
theorem zuz {gr:Group}(k:OkG gr) (s:Int) {l:List Cipher}(hl:l.length≤1000) (hc:∀c∈l,zbg gr c=true):zd4 gr s l=some (srt (l.map (ziR gr s))):=by
 unfold zd4
 refine zaw (zae (ψ:=(· =srt (l.map (ziR gr s)))) (zbb (fun i L=>L.Pairwise (·≤ ·)∧L.Perm ((l.take i).map (ziR gr s))) ⟨by simp,by simp⟩ ?_ fun L ⟨h1,h2⟩=>?_) fun x hx=>zab hx)
 ·rintro i L hi ⟨h1,h2⟩
  have hL:L.length=i:=by have:=h2.length_eq;simp at this;omega
  refine zaQ hi (zaa (zCN k s (hc _ (List.getElem_mem hi))).2 (zau (by omega) ?_))
  generalize hz:ziR gr s l[i]=z
  refine zae (ψ:=fun x=>∃(j:Nat) (v:Int),x=(L.take j++v::L.drop j,(j:Int))∧j≤L.length∧(∀y∈L.drop j,z<y)∧(j=0∨L.getD (j-1) 0≤z)) (zeq (fun x=>∃(j:Nat) (v:Int),x=(L.take j++v::L.drop j,(j:Int))∧j≤L.length∧∀y∈L.drop j,z<y) (fun x=>x.2.toNat) ⟨L.length,z,by simp,Nat.le_refl _,by simp⟩ ?_) ?_
  ·rintro _ ⟨j,v,rfl,hj,hd⟩
   dsimp only
   have hlen:(L.take j++v::L.drop j).length=L.length+1:=by simp<;>omega
   by_cases h0:0<j
   ·obtain⟨m,rfl⟩:∃m,j=m+1:=⟨j-1,by omega⟩
    have hm:m<L.length:=by omega
    have e1:IntKind.i64.wrap (((m+1:Nat):Int)-1)=(m:Int):=by rw[zap (by omega) (by omega)];omega
    have e2:(L.take (m+1)++v::L.drop (m+1))[m]'(by omega)=L[m]:=by
     rw[List.getElem_append_left (by simp<;>omega),List.getElem_take]
    rw[e1]
    refine zae (ψ:=(· =decide (z<L[m]))) (zf0 (by simp<;>omega) (zaQ (k:=m) (by omega) (zab (by rw[e2])))) ?_
    rintro _ rfl
    refine zam (fun g=>?_) fun g=>zab ⟨m+1,v,rfl,hj,hd,.inr ?_⟩
    ·have g:z<L[m]:=by simpa using g
     refine zaQ (k:=m) (by omega) (zaQ (k:=m+1) (by omega) (zab ⟨⟨m,L[m],?_,by omega,?_⟩,?_⟩))
     ·rw[e2,Int.toNat_natCast]
      refine Prod.ext ?_ rfl
      show(L.take (m+1)++v::L.drop (m+1)).set (m+1) L[m]=_
      rw[List.set_append_right _ _ (by simp<;>omega)]
      have:m+1-(L.take (m+1)).length=0:=by simp<;>omega
      rw[this,List.set_cons_zero,List.take_succ_eq_append_getElem hm,List.append_assoc,List.drop_eq_getElem_cons hm]
      rfl
     ·rw[List.drop_eq_getElem_cons hm]
      intro y hy
      rcases List.mem_cons.1 hy with rfl|hy
      ·exact g
      exact hd y hy
     show(m:Int).toNat<((m+1:Nat):Int).toNat
     omega
    have g:¬z<L[m]:=by simpa using g
    rw[show m+1-1=m by omega,zaC hm];omega
   have h0:j=0:=by omega
   subst h0
   refine zae (ψ:=(· =false)) (za1 (by simp) (zab rfl)) ?_
   rintro _ rfl
   exact za1 rfl (zab ⟨0,v,rfl,hj,hd,.inl rfl⟩)
  rintro _ ⟨j,v,rfl,hj,hd,h3⟩
  have hlen:(L.take j++v::L.drop j).length=L.length+1:=by simp<;>omega
  refine zaQ (k:=j) (show j<(L.take j++v::L.drop j).length by omega) (zab ?_)
  obtain⟨p1,p2⟩:=zy0 hj h1 hd h3
  dsimp only
  have hm:j≤(L.take j).length:=by rw[List.length_take];omega
  have hm2:j-(L.take j).length=0:=by omega
  rw[Int.toNat_natCast,List.set_append_right _ _ (by rw[List.length_take];omega),hm2,List.set_cons_zero]
  refine⟨p1,p2.trans ?_⟩
  rw[List.take_succ_eq_append_getElem hi,List.map_append,List.map_cons,List.map_nil,hz]
  exact h2.append_right _
 rw[List.take_length]at h2
 exact zDM h1 h2
theorem zDf {code:List Int}(hb:Bt code):Rn (zdx code) (fun z=>Dg z.1∧z.2.2.1.length≤13):=by
 unfold zdx
 exact zae (zqp hb (cu0 code) (by omega)) fun z ⟨⟨z1,z0⟩,z2,z3⟩=>zab ⟨z0,z2⟩
theorem zDk {code:List Int}(hb:Bt code):Rn (zcX code) (fun z=>Dg z.1∧z.2.2.1.length≤13):=by
 unfold zcX
 refine zae (zqp hb (cu0 code) (by omega)) fun z ⟨⟨z1,z0⟩,z2,z3⟩=>?_
 have g1:=z1.p
 have g2:=z1.q
 refine zae (zua hb z3 (by omega) z1) fun y ⟨_,_,y3⟩=>?_
 refine zae (ψ:=fun x=>x=true→OkG z.1) (zaa (zfV _) (zam (fun g=>zaa (zl3 (by have:=(zhP.1 g).q;omega) (by have:=(zhP.1 g).q;have:=(zhP.1 g).p;omega) _) (zab fun _=>zhP.1 g)) fun _=>zab fun h=>(by cases h))) fun x hx=>?_
 refine zae (ψ:=fun w=>(w.2=true→1≤w.1.length)∧w.1.length≤12) (zam (fun g=>?_) fun _=>zab ⟨fun h=>(by cases h),by simp⟩) fun w ⟨w1,w2⟩=>?_
 ·have k:=hx g
  exact zaa (zy2 k (r_G k).1 (r_G k).2 _) (zae (zCE k _ _ _ _ (by omega)) fun v hv=>zab hv)
 refine zae (ψ:=fun v=>Cu code (0+420) v.1∧(v.2=true→w.2=true)) (zam (fun g=>zae (zne hb y3 (by omega)) fun v hv=>zab ⟨hv.mono (by omega),fun _=>g⟩) fun _=>zab ⟨y3.mono (by omega),fun h=>by cases h⟩) fun v ⟨v1,v2⟩=>?_
 refine zae (ψ:=fun u=>Cu code (0+500) u.1∧u.2.length=w.1.length) (zam (fun g=>?_) fun _=>zab ⟨v1.mono (by omega),rfl⟩) fun u ⟨u1,u2⟩=>?_
 ·refine zae (zvv hb v1 (by omega) (w1 (v2 g))) fun p ⟨⟨i,p1,p2⟩,p3⟩=>zae (zms hb p3 (by omega) z1) fun q hq=>?_
  rw[p1]
  exact zaQ p2 (zab ⟨hq.mono (by omega),by simp⟩)
 refine zae (ψ:=fun t=>t=true→w.2=true) (zam (fun g=>zae (zne hb u1 (by omega)) fun t _=>zab fun _=>g) fun _=>zab fun h=>by cases h) fun t ht=>?_
 refine zae (ψ:=fun _=>True) (zam (fun g=>zau (by have:=w1 (ht g);omega) (zab trivial)) fun _=>zab trivial) fun _ _=>zab ⟨z0,z2⟩
theorem zzr (gr:Group) (hg:Dg gr) (s:Int) {l:List Cipher}(hl:l.length≤13) (out:List Cipher):∃v t,zda gr s l out=some (v,t)∧zc9 gr s l out=some (v,t):=by
 by_cases k:OkG gr
 ·have hq:=k.q
  have hp:=k.p
  obtain⟨B,_,hB,_⟩:=znD k (hg k) (n:=l.length) hl
  unfold zda zc9
  rw[zht k 1 l hB,zhi k,zr7 (by omega) (by omega),zfV,zhP.2 k,zl3 (by omega) (by omega),znS k,znS k,zj5 k]
  have e1:mkB gr 1 l=(inB 1 12 l.length&&l.all (zbg gr)):=by unfold mkB;rw[zj5 k];rfl
  rw[e1]
  have e2:[s].all (zdV gr)=zdV gr s:=by simp
  rw[e2]
  cases h1:(inB 1 12 l.length&&l.all (zbg gr))
  ·refine⟨false,false,rfl,?_⟩
   cases zdV gr s<;>rfl
  cases h2:(inB 1 12 out.length&&out.all (zbg gr))
  ·refine⟨false,false,?_,?_⟩
   ·rfl
   cases zdV gr s<;>rfl
  cases h3:zdV gr s
  ·exact⟨false,false,rfl,rfl⟩
  obtain⟨a1,a2⟩:=Bool.and_eq_true_iff.1 h1
  obtain⟨b1,b2⟩:=Bool.and_eq_true_iff.1 h2
  have ho:out.length≤12:=by simp only[inB,Bool.and_eq_true,decide_eq_true_eq]at b1;omega
  have i1:=ztZ k s (l:=l) (by omega) (List.all_eq_true.1 a2)
  have i2:=ztZ k s (l:=out) (by omega) (List.all_eq_true.1 b2)
  have s1:=zuz k s (l:=l) (by omega) (List.all_eq_true.1 a2)
  have s2:=zuz k s (l:=out) (by omega) (List.all_eq_true.1 b2)
  refine⟨decide (srt (l.map (ziR gr s))=srt (out.map (ziR gr s))),true,?_,?_⟩
  ·refine zaw (zaa rfl (zae (ψ:=(· =false)) (za1 rfl (zaa rfl (za1 rfl (zaa rfl (zab rfl))))) fun b hb=>?_))
   subst hb
   exact za1 rfl (zaa i1 (zaa i2 (zaa (zzT _ _) (zab rfl))))
  refine zaw (zae (ψ:=(· =false)) (zaa rfl (za1 rfl (zaa rfl (za1 rfl (zaa rfl (za1 rfl (zaa rfl (zab rfl)))))))) fun b hb=>?_)
  subst hb
  exact za1 rfl (zaa s1 (zaa s2 (zaa (zvZ _ _ (by rw[zjX];simp;omega)) (zab rfl))))
 refine⟨false,false,?_,?_⟩
 ·unfold zda
  rw[zmu k];rfl
 unfold zc9
 rw[zfV,zfs k];rfl
theorem zGU (gr:Group) (hg:Dg gr) (key:Int) {l:List Cipher}(hl:l.length≤13) (perm rs:List Int):∃out t,zct gr key l perm rs=some (out,t)∧zbE gr key l perm rs=some (out,t)∧(t=true→OkG gr∧MxOk gr key l perm rs∧out=za2 gr key l perm rs):=by
 by_cases k:OkG gr
 ·obtain⟨B,_,hB,_⟩:=znD k (hg k) (n:=l.length) hl
  have h1:=zud k key (l:=l) (by omega) perm rs hB
  have h2:=zAx k key (l:=l) (by omega) perm rs
  rw[Bool.true_and]at h1
  by_cases h:(mkB gr key l&&pkB gr l.length perm rs)=true
  ·rw[if_pos h]at h1 h2
   exact⟨_,_,h1,h2,fun _=>⟨k,zk7.1 h,rfl⟩⟩
  rw[if_neg h]at h1 h2
  exact⟨_,_,h1,h2,fun h=>by cases h⟩
 refine⟨[],false,?_,zxn k key l perm rs,fun h=>by cases h⟩
 unfold zct
 rw[zmu k];rfl
section
variable {gr:Group}{key:Int}{l:List Cipher}{perm rs:List Int}
theorem zzk (m:MxOk gr key l perm rs):mkB gr key l=true∧pkB gr l.length perm rs=true:=Bool.and_eq_true_iff.1 (zk7.2 m)
theorem zsY (k:OkG gr) (m:MxOk gr key l perm rs):(inB 1 12 (za2 gr key l perm rs).length&&(za2 gr key l perm rs).all (zbg gr))=true:=by
 have hn:=m.n
 rw[zd6,m.pl,Bool.and_eq_true]
 exact⟨by simp[inB];omega,List.all_eq_true.2 (zg4 k m)⟩
theorem zCC (k:OkG gr) {B:Bases}(hB:zaG gr (l.length:Int)=some (B,true)) (m:MxOk gr key l perm rs):zfC gr key l (za2 gr key l perm rs) perm rs=some (true,true):=by
 have hn:=m.n
 have h1:=zud k key (l:=l) (by omega) perm rs hB
 rw[Bool.true_and,zk7.2 m,if_pos rfl]at h1
 unfold zfC
 rw[h1,zhi k,zsY k m]
 exact zaw (zaa rfl (zae (ψ:=(· =false)) (za1 rfl (zaa rfl (zab rfl))) fun b hb=>by subst hb;exact za1 rfl (zaa (zyz _) (zab rfl))))
theorem zC2 (k:OkG gr) {B:Bases}(hB:zaG gr (l.length:Int)=some (B,true)) (bs:BsOk gr l.length B) (m:MxOk gr key l perm rs) {coins:List Int}(hl:coins.length=4*l.length+4) (he:coins.all (zdV gr)=true):∃p,zem gr key l perm rs coins=some (p,true)∧zd2 gr key l (za2 gr key l perm rs) p=some (true,true):=by
 have hq:=k.q
 have hp:=k.p
 have hn:=m.n
 obtain⟨h1,h2⟩:=zzk m
 have w4:IntKind.i64.wrap (IntKind.i64.wrap (4*(l.length:Int))+4)=((4*l.length+4:Nat):Int):=by
  rw[zap (n:=4*(l.length:Int)) (by omega) (by omega)];exact zfo (by omega) (by omega)
 have e3:((coins.length:Int) !=((4*l.length+4:Nat):Int))=false:=by rw[hl];simp
 have hex:=zh3 (gr:=gr) (by omega) (by omega) coins
 rw[he]at hex
 obtain⟨s,t,w,x,a,b,d,f,rfl,hC⟩:=zvY hl he
 have P:PmOk gr key B l perm rs s t w x a b d f:=⟨m,bs,hC⟩
 refine⟨pmV gr key B l perm rs s t w x a b d f,?_,?_⟩
 ·unfold zem
  rw[zht k key l hB,h1,zkM k (by omega),show(decide (perm.length=l.length)&&zdq perm&&(decide (rs.length=l.length)&&rs.all (zdV gr)))=pkB gr l.length perm rs from rfl,h2,w4,e3,hex]
  exact zaw (zaa rfl (zae (ψ:=(· =false)) (za1 rfl (zaa rfl (za1 rfl (za1 rfl (zaa rfl (zab rfl)))))) fun b hb=>by subst hb;exact za1 rfl (zaa (zEl k P) (zab rfl))))
 unfold zd2
 rw[zht k key l hB,h1,zhi k,zsY k m]
 exact zaw (zaa rfl (zae (ψ:=(· =false)) (za1 rfl (zaa rfl (zab rfl))) fun b hb=>by subst hb;exact za1 rfl (zaa (zxI k P) (zab rfl))))
theorem zC0 (k:OkG gr) (hd:okD gr=true) (m:MxOk gr key l perm rs) {coins:List Int}(hl:coins.length=8*l.length+2) (he:coins.all (zdV gr)=true):∃p,zeN gr key l perm rs coins=some (p,true)∧zeu gr key l (za2 gr key l perm rs) p=some (true,true):=by
 have hq:=k.q
 have hp:=k.p
 have hn:=m.n
 obtain⟨h1,h2⟩:=zzk m
 obtain⟨B,b1,b2,b3,b4⟩:=zvy k hd key (l:=l) (by omega)
 have w8:IntKind.i64.wrap (IntKind.i64.wrap (8*(l.length:Int))+2)=((8*l.length+2:Nat):Int):=by
  rw[zap (n:=8*(l.length:Int)) (by omega) (by omega)];exact zfo (by omega) (by omega)
 have e3:((coins.length:Int) !=((8*l.length+2:Nat):Int))=false:=by rw[hl];simp
 have hex:=zh3 (gr:=gr) (by omega) (by omega) coins
 rw[he]at hex
 obtain⟨C,rfl,hC⟩:=zCM (q:=gr.Q) hl (zqo he)
 have P:PpOk gr key B.H l perm rs C:=⟨m,b3,hC⟩
 refine⟨ppV gr key B.H l perm rs C,?_,?_⟩
 ·unfold zeN
  rw[b4,h1,zkM k (by omega),show(decide (perm.length=l.length)&&zdq perm&&(decide (rs.length=l.length)&&rs.all (zdV gr)))=pkB gr l.length perm rs from rfl,h2,w8,e3,hex]
  exact zaw (zaa rfl (zae (ψ:=(· =false)) (za1 rfl (zaa rfl (za1 rfl (za1 rfl (zaa rfl (zab rfl)))))) fun b hb=>by subst hb;exact za1 rfl (zaa (zDQ k P) (zab rfl))))
 unfold zeu
 rw[b4,h1,zhi k,zsY k m]
 exact zaw (zaa rfl (zae (ψ:=(· =false)) (za1 rfl (zaa rfl (zab rfl))) fun b hb=>by subst hb;exact za1 rfl (zaa (zxm k P) (zab rfl))))
theorem zxw {q:Int}(hq:0<q∧q≤2000000000) {n:Nat}(hn:n≤1000) {M:Nat}(hM:M≤1048576):zbS (σ:=(List Int)×Int) (fun s21=>
 if decide (s21.2<(n:Int))=true then(
 (zgc (IntKind.i64.wrap ((IntKind.i64.wrap (s21.2*s21.2))+(M:Int))) q).bind fun z27=>
 gd ((s21.1.length+1)*8≤140737488355328∧s21.1.length+1≤4611686018427387904)<|
 some (.go (s21.1++[z27],IntKind.i64.wrap (s21.2+1))))else(
 some (.out s21.1))) ([],0)=some (rg (fun i=>((i:Int)*i+M)%q) n):=by
 refine zaw (zeb n (fun i s=>s=(rg (fun i=>((i:Int)*i+M)%q) i,(i:Int))∧i≤n) ⟨rfl,by omega⟩ ?_ ?_)
 ·rintro i s hi ⟨rfl,_⟩
  have h1:(i:Int)*i≤1000*1000:=Int.mul_le_mul (by omega) (by omega) (by omega) (by omega)
  have h2:0≤(i:Int)*i:=Int.mul_nonneg (by omega) (by omega)
  refine zf0 (by simp;omega) ?_
  dsimp only
  rw[zap (n:=(i:Int)*i) (by omega) (by omega),zap (n:=(i:Int)*i+M) (by omega) (by omega)]
  refine zaa (zDq (by omega) hq) (zau (by rw[zaH];omega) (zab ⟨?_,by omega⟩))
  rw[zap (n:=(i:Int)+1) (by omega) (by omega),zjB];rfl
 rintro s ⟨rfl,_⟩
 exact za1 (by simp) (zab rfl)
end
theorem zEh (a b:List Int) (h0:∀x∈a,0≤x∧x≤255) (h1:∀x∈b,0≤x∧x≤255) (hl0:a.length≤1048576) (hl1:b.length≤1048576):zev a b=some true:=by
 have hba:Bt a:=⟨h0,by omega⟩
 have hbb:Bt b:=⟨h1,by omega⟩
 unfold zev
 refine zaw (zam (fun _=>zab rfl) fun _=>?_)
 refine zae (zDf hba) fun z ⟨hg,z2⟩=>?_
 obtain⟨gr,key,l,perm,rs⟩:=z
 have hg:Dg gr:=hg
 have z2:l.length≤13:=z2
 dsimp only
 obtain⟨out,t,e1,e2,e3⟩:=zGU gr hg key z2 perm rs
 refine zaa e1 (zaa e2 (zae (zDk hbb) fun y ⟨y1,y2⟩=>?_))
 obtain⟨v,u,f1,f2⟩:=zzr y.1 y1 y.2.1 (l:=y.2.2.1) y2 y.2.2.2
 refine zaa f1 (zaa f2 ?_)
 refine zae (ψ:=(· =false)) (za1 (by simp) (zaa (zJY _) (za1 rfl (za1 (by simp) (zab (by simp)))))) ?_
 rintro _ rfl
 refine za1 rfl (zam (fun _=>zab rfl) fun g=>?_)
 have ht:t=true:=by simpa using g
 subst ht
 obtain⟨k,m,rfl⟩:=e3 rfl
 have hq:=k.q
 have hp:=k.p
 have hn:=m.n
 obtain⟨B,_,hB,bs⟩:=znD k (hg k) (n:=l.length) z2
 have w8:IntKind.i64.wrap (IntKind.i64.wrap (8*(l.length:Int))+2)=((8*l.length+2:Nat):Int):=by
  rw[zap (n:=8*(l.length:Int)) (by omega) (by omega)];exact zfo (by omega) (by omega)
 have w4:IntKind.i64.wrap (IntKind.i64.wrap (4*(l.length:Int))+4)=((4*l.length+4:Nat):Int):=by
  rw[zap (n:=4*(l.length:Int)) (by omega) (by omega)];exact zfo (by omega) (by omega)
 have hcs:∀z∈rg (fun i=>((i:Int)*i+(b.length:Nat))%gr.Q) (8*l.length+2),E9 gr.Q z:=ze6 fun i _=>zdL (by omega) _
 have hcl:=zaH (fun i=>((i:Int)*i+(b.length:Nat))%gr.Q) (8*l.length+2)
 have hcv:=zxw (q:=gr.Q) (by omega) (n:=8*l.length+2) (by omega) hl1
 generalize rg (fun i=>((i:Int)*i+(b.length:Nat))%gr.Q) (8*l.length+2)=cs at hcs hcl hcv
 have ht4:((cs.take (4*l.length+4)).drop 0).length=4*l.length+4:=by simp;omega
 obtain⟨p,p1,p2⟩:=zC2 k hB bs m ht4 (zo8 fun z hz=>hcs z (List.mem_of_mem_take (by simpa using hz)))
 obtain⟨r,r1,r2⟩:=zC0 k (hg k) m hcl (zo8 hcs)
 refine zaa (zCC k hB m) ?_
 rw[w8,w4]
 refine zaa hcv (zau (by omega) (zau (by rw[Int.toNat_natCast];omega) ?_))
 rw[Int.toNat_natCast]
 refine zaa p1 (zaa r1 ?_)
 refine zae (ψ:=(· =false)) (za1 rfl (za1 rfl (za1 rfl (zab rfl)))) ?_
 rintro _ rfl
 refine za1 rfl (zaa p2 (zaa r2 (zae (ψ:=(· =true)) (zf0 rfl (zf0 rfl (zf0 rfl (zab rfl)))) ?_)))
 rintro _ rfl
 exact zab rfl
end Go.Pm
