/-
  Plain functions and their walks. Written by wip/tools/lift.py.
-/
import Derived.Test.YtjnidpmkglobfaaGreatM43
open Bool renaming false→Z,true→O
open Option renaming none→aa,some→J
set_option linter.defProp false
open Go.Proofs.Tryz renaming prog→zH
namespace Go.Pm
open Go.Am IntKind
open Go.Proofs
set_option maxRecDepth 100000
attribute [local irreducible] pw pwx pw1 pwg qv qz qf
attribute [-simp] List.map_set
set_option linter.unusedSimpArgs false
set_option linter.unusedVariables false
noncomputable section
def Ui{c d e f h r}(q:Ck c d e f h=J r):aq zH 98 [(.sh,vE c),(.sh,.int .i64 d),(.sh,vJ e),(.sh,vC f),(.sh,vC h)] (Eo (vG r) sU):=by
 apply pF 37 [] [] [] [.tmp 10] q zLx Tryz.func98;intro A m a g;unfold Ck at a
 iterate 3 (try simp[go_sem,g];try intros;refine ba ?_)
 refine wJ a (λl=>[(11,.v (vG l))]) (λl a=>?_) λ_ n a=>?_
 ·exact wl m a
 refine wB ?_;obtain⟨u,t,p⟩:=a;refine bG t [1,2,4,5,14,15] (λk b=>[(11,.v (vG b)),(16,.v (.int .i64 k))]) (λb _ s=>?_) λk b _ _ j i x o a=>?_
 ·exact wn s (n _) p
 refine wW ?_;refine wu j i ?_;refine wW ?_;refine wB ?_;obtain⟨v,g,a⟩:=Rx g a;refine wK [1,2,4,5,11,12,13,14,15,16] ?_;refine wZ (kD 0 [0,42,0,0,0,0,0,0,0,0,0,3,0,5,0]) follows ?_;obtain⟨w,g,a⟩:=Rx g a;obtain⟨y,g,a⟩:=Rx g a;refine wE a zv9 λz a=>?_
 obtain⟨g,a⟩:=Rg g a;refine wK [1,2,4,5,11,14,15,16] ?_;exact wi j i (o _) (ai a)
def EE(b:List Int):Option Bool:=
 ((aO (σ:=Unit) (λa e=>
 (ix b a).bind λc=>
 gd (0<=a)<|
 gd (0<=a.toNat/\a.toNat<=b.length)<|
 (Gj ((b.take a.toNat).drop 0) c).bind λd=>
 if d=O then(
 J (.out (.inr Z)))else(
 J (.go ()))) (λe=>.inl ()) (b.length) 0 ():Option (Unit ⊕ Bool)).bind (Sum.elim (λf=>
 J O) J))
def zqw{b r}(p:EE b=J r):aq zH 178 [(.sh,vC b)] (Eo (.bool r) [.az]):=by
 apply pF 18 [] [] [] [.tmp 2] p zGb Tryz.func178;intro w c a g;unfold EE at a
 iterate 2 (try simp[go_sem,g];try intros;refine ba ?_)
 refine wS a (λs=>[]) (λs a=>?_) λ_ j n a=>?_
 ·exact wl c a
 refine wB ?_;obtain⟨v,o,e⟩:=a;refine bG o [0,5,6] (λh i=>[(7,.v (.int .i64 h))]) (λi _ q=>?_) λh i _ _ f d l k a=>?_
 ·exact wn q (j _) e
 refine wW ?_;refine wu f d ?_;refine wW ?_;refine wB ?_;obtain⟨t,g,a⟩:=Rx g a;refine wK [0,3,4,5,6,7] ?_
 iterate 2 obtain⟨g,a⟩:=Rg g a
 refine wE a ZU λu a=>?_
 refine wW ?_;refine wI a (λm a=>?_) λm a=>?_
 ·cases l _ (ai a);cases c _ (n _ e);refine wW ?_;try simp[go_sem,g]
 refine wW ?_;exact wi f d (k _) (ai a)
def EC(a:List Int)(b:Int):Option Bool:=
 ((if((a.length:Int)==b)=O then(
 (Dc a 0 (i64.wrap (b-1))).bind λd=>
 if d=O then(
 (EE a).bind λe=>
 J e)else(
 J Z))else(
 J Z):Option Bool).bind λc=>
 J c)
def X6{e f r}(j:EC e f=J r):aq zH 145 [(.sh,vC e),(.sh,.int .i64 f)] (Eo (.bool r) cM):=by
 apply pF 19 [] [] [] [.tmp 4] j zE9 Tryz.func145;intro m i a g;unfold EC at a;refine wW ?_;refine wJ a (λh=>[(4,.v (.bool h))]) (λh a=>?_) λ_ d a=>?_
 ·exact wm i a
 try simp[go_sem,g]
 try intros
 refine wG a (λb a=>?_) λb a=>?_
 ·try simp[go_sem,g,b]
  refine wE a RB λk a=>?_
  try simp[go_sem,g,b]
  refine wG a (λc a=>?_) λc a=>?_
  ·try simp[go_sem,g,c]
   refine wE a zqw λl a=>?_
   exact wV c (d _) (ai a)
  exact wV c (d _) (ai a)
 exact wV b (d _) (ai a)
def IE(c:am)(e:ct)(a:List Int)(f:List Int):Option ((List Int)):=
 gd (0<=(a.length:Int)/\(a.length:Int)<=(a.length:Int)/\8*(a.length:Int)<=140737488355328/\(a.length:Int)<=4611686018427387904)<|
 (J (List.replicate a.length 0)).bind λk=>
 ((aO (σ:=(List Int)) (λji b=>
 (ix a ji).bind λd=>
 (ix f d).bind λi=>
 (ix e.Hs ji).bind λg=>
 (cF c c.G i).bind λh=>
 (ep c [h,g]).bind λj=>
 (ix b d).bind λm=>
 J (.go (b.set d.toNat j))) (λb=>b) (a.length) 0 k:Option ((List Int))).bind λl=>
 J l)
def zpL{e f b h r}(t:IE e f b h=J r):aq zH 179 [(.sh,vE e),(.sh,vM f),(.sh,vC b),(.sh,vC h)] (Eo (vD r) jY):=by
 apply pF 43 [] [] [] [.tmp 8] t zE2 Tryz.func179;intro D s a g;unfold IE at a;obtain⟨g,a⟩:=Rg g a;obtain⟨u,d,a⟩:=mn a;have i:List.replicate b.length ([.int .i64 0]:List PV)=u.map ay:=by injection d with d;rw[<-d];simp[go_sem]
 iterate 2 (try simp[go_sem,g,i];try intros;refine ba ?_)
 try simp[go_sem,g,i]
 try intros
 refine wK [3,4,5,9,15,16,17] ?_;refine wJ a (λl=>[(9,.v (vD l))]) (λl a=>?_) λ_ m a=>?_
 ·exact wl s a
 refine wB ?_;obtain⟨x,q,o⟩:=a;refine bG q [3,4,5,15,16] (λji c=>[(9,.v (vD c)),(17,.v (.int .i64 ji))]) (λc _ p=>?_) λji c _ _ k j w n a=>?_
 ·exact wn p (m _) o
 refine wW ?_;refine wu k j ?_;refine wW ?_;refine wB ?_;obtain⟨C,g,a⟩:=Rx g a;refine wW ?_;refine wZ (kE [0,1,2,3,4,5,6,7,8,9,11,12,13,14,15,10,16,17,18,19] [0,0,34,34,33,34,0,0,0,0,41,42,0,0,0,4,0,6,0,0]) follows ?_;obtain⟨A,g,a⟩:=Rx g a;obtain⟨y,g,a⟩:=Rx g a;refine wD a eP λz a=>?_
 refine wE a gW λB a=>?_
 obtain⟨v,g,a⟩:=Rx g a;refine wK [3,4,5,9,15,16,17] ?_;exact wi k j (n _) (ai a)
def sP(i:Int)(e:List ao)(f:List ao)(c:List Int):Option ((List Int)):=
 ((aO (σ:=(List Int)) (λj b=>
 (ix e j).bind λg=>
 gd ((b.length+2)*8<=140737488355328/\b.length+2<=4611686018427387904)<|
 J (.go (b++[g.A,g.B]))) (λb=>b) (e.length) 0 [i]:Option ((List Int))).bind λl=>
 ((aO (σ:=(List Int)) (λk a=>
 (ix f k).bind λh=>
 gd ((a.length+2)*8<=140737488355328/\a.length+2<=4611686018427387904)<|
 J (.go (a++[h.A,h.B]))) (λa=>a) (f.length) 0 l:Option ((List Int))).bind λd=>
 gd ((d.length+c.length)*8<=140737488355328/\d.length+c.length<=4611686018427387904)<|
 J (d++c)))
def E6{f h i b r}(A:sP f h i b=J r):aq zH 165 [(.sh,.int .i64 f),(.sh,vJ h),(.sh,vJ i),(.sh,vC b)] (Eo (vD r) jY):=by
 apply pF 47 [] [] [] [.tmp 8] A zEk Tryz.func165;intro K w a g;unfold sP at a
 iterate 3 (try simp[go_sem,g];try intros;refine ba ?_)
 refine bE a [2,3] (λp=>[(9,.v (vD p))]) (λp a=>?_) λ_ x a=>?_
 ·try simp[go_sem,g]
  try intros
  refine wK [3,9,30,31,32] ?_;refine wJ a (λm=>[(3,.v (vC b)),(9,.v (vD m))]) (λm a=>?_) λ_ s a=>?_
  ·obtain⟨g,a⟩:=Rg g a;exact wl w a
  refine wB ?_;obtain⟨F,q,t⟩:=a;refine bG q [3,30,31] (λo c=>[(9,.v (vD c)),(32,.v (.int .i64 o))]) (λc _ v=>?_) λo c _ _ e n E u a=>?_
  ·exact wn v (s _) t
  refine wW ?_;refine wu e n ?_;refine wW ?_;refine wB ?_;obtain⟨I,g,a⟩:=Rx g a;obtain⟨g,a⟩:=Rg g a;refine wW ?_;refine wK [3,9,30,31,32] ?_;exact wi e n (u _) (ai a)
 refine wB ?_;obtain⟨D,B,z⟩:=a;refine bG B [2,3,16,17] (λl d=>[(9,.v (vD d)),(18,.v (.int .i64 l))]) (λd _ C=>?_) λl d _ _ k j H y a=>?_
 ·exact wn C (x _) z
 refine wW ?_;refine wu k j ?_;refine wW ?_;refine wB ?_;obtain⟨G,g,a⟩:=Rx g a;refine wK [2,3,9,11,16,17,18] ?_;obtain⟨g,a⟩:=Rg g a;refine wW ?_;exact wi k j (y _) (ai a)
def Bl(a:List Int):Option ((List Int)):=
 gd (a.length*8<=140737488355328/\a.length<=4611686018427387904)<|
 J a
def KR{b r}(d:Bl b=J r):aq zH 37 [(.sh,vC b)] (Eo (vD r) [.az]):=by
 apply pF 6 [] [] [] [.tmp 2] d zLS Tryz.func37;intro e c a g;unfold Bl at a;obtain⟨g,a⟩:=Rg g a;cases c _ (ai a)
 iterate 2 refine wW ?_
 try simp[go_sem,g]
def qk(a:am)(c:ByteArray)(b:List Int):Option Int:=
 gd (([a.P,a.Q,a.G].length+b.length)*8<=140737488355328/\[a.P,a.Q,a.G].length+b.length<=4611686018427387904)<|
 (EF c ([a.P,a.Q,a.G]++b)).bind λd=>
 gd (a.Q≠0)<|
 J (d.tmod a.Q)
def Cw{b c d r}(f:qk b c d=J r):aq zH 164 [(.sh,vE b),(.sh,.str c),(.sh,vC d)] (Eo (.int .i64 r) gJ):=by
 apply pF 21 [] [] [] [.tmp 6] f zEX Tryz.func164;intro i e a g;unfold qk at a;refine wW ?_;refine wZ (kE [0,1,2,3,4,5,6,7,8,11,12,9,10,13,14] [0,25,26,25,26,25,26,0,0,25,26,5,3,0,0]) follows ?_;obtain⟨g,a⟩:=Rg g a;refine wE a zkD λh a=>?_
 obtain⟨g,a⟩:=Rz g a;refine wK [6] ?_;exact wm e a
def HH(c:am)(d:ByteArray)(e:List Int)(f:Int):Option ((List Int)):=
 ((dO (σ:=(List Int)×Int) (λa=>
 if decide (a.2<f)=O then(
 (Bl e).bind λb=>
 gd ((b.length+1)*8<=140737488355328/\b.length+1<=4611686018427387904)<|
 (qk c d (b++[a.2])).bind λg=>
 gd ((a.1.length+1)*8<=140737488355328/\a.1.length+1<=4611686018427387904)<|
 J (.go (a.1++[g],i64.wrap (a.2+1))))else(
 J (.out a.1))) ([],0):Option ((List Int))).bind λh=>
 J h)
def zm5{c d e f r}(o:HH c d e f=J r):aq zH 187 [(.sh,vE c),(.sh,.str d),(.sh,vC e),(.sh,.int .i64 f)] (Eo (vD r) jY):=by
 apply pF 28 [] [] [] [.tmp 8] o zGA Tryz.func187;intro u i a g;unfold HH at a
 iterate 3 refine wW ?_
 refine wJ a (λh=>[(9,.v (vD h))]) (λh a=>?_) λ_ j a=>?_
 ·exact wl i a
 refine wB ?_;obtain⟨q,p,l⟩:=a;refine ka p [1,2,3,4] (λb=>[(9,.v (vD b.1)),(10,.v (.int .i64 b.2))]) λb _ _ m k a=>?_
 refine wW ?_;refine wI a (λn a=>?_) λn a=>?_
 ·refine wW ?_;refine wB ?_;refine wZ (kE [0,1,2,3,5,6,4,7,8,9,10,11] [0,34,0,0,0,0,3,5,3,0,5,0]) follows ?_;refine wE a KR λt a=>?_
  obtain⟨g,a⟩:=Rg g a;refine wE a Cw λs a=>?_
  obtain⟨g,a⟩:=Rg g a;refine wK [1,2,3,4,9,10] ?_;exact wT (k _) (ai a)
 cases m _ (ai a);exact wT (j _) l
def Bg(b:am)(c:Int)(a:List ao)(d:List ao)(e:List Int):Option ((List Int)):=
 (sP c a d e).bind λf=>
 (HH b (⟨#[109,105,120,32,99,111,108,117,109,110,115]⟩:ByteArray) f (a.length:Int)).bind λz2=>
 J z2
def ZI{b c d e f r}(i:Bg b c d e f=J r):aq zH 157 [(.sh,vE b),(.sh,.int .i64 c),(.sh,vJ d),(.sh,vJ e),(.sh,vC f)] (Eo (vD r) sU):=by
 apply pF 20 [] [] [] [.tmp 10] i zFp Tryz.func157;intro k h a g;unfold Bg at a;refine wW ?_;refine wZ (kE [0,1,2,3,4,6,7,5,8,9] [42,0,0,0,0,0,0,3,3,0]) follows ?_;try simp[go_sem,g]
 try intros
 refine wE a E6 λj a=>?_
 refine wE a zm5 λz2 a=>?_
 refine wK [10] ?_;exact wm h a
def LX(b:am)(f:ct)(c:List Int)(g:List Int):Option ((List Int)):=
 ((aO (σ:=(List Int)×Int) (λe a=>
 (ix c e).bind λh=>
 (ix g e).bind λj=>
 (cF b b.G j).bind λi=>
 (cF b a.2 h).bind λk=>
 (ep b [i,k]).bind λd=>
 gd ((a.1.length+1)*8<=140737488355328/\a.1.length+1<=4611686018427387904)<|
 J (.go (a.1++[d],d))) (λa=>a.1) (c.length) 0 ([],f.H):Option ((List Int))).bind λl=>
 J l)
def zrp{c d e f r}(s:LX c d e f=J r):aq zH 180 [(.sh,vE c),(.sh,vM d),(.sh,vC e),(.sh,vC f)] (Eo (vD r) jY):=by
 apply pF 43 [] [] [] [.tmp 8] s zEe Tryz.func180;intro A n a g;unfold LX at a
 iterate 3 (try simp[go_sem,g];try intros;refine ba ?_)
 try simp[go_sem,g]
 try intros
 refine wK [3,4,9,10,15,16,17] ?_;refine wJ a (λk=>[(9,.v (vD k))]) (λk a=>?_) λ_ o a=>?_
 ·exact wl n a
 refine wB ?_;obtain⟨t,l,q⟩:=a;refine bG l [3,4,15,16] (λj b=>[(9,.v (vD b.1)),(10,.v (.int .i64 b.2)),(17,.v (.int .i64 j))]) (λb _ m=>?_) λj b _ _ i h x p a=>?_
 ·exact wn m (o _) q
 refine wW ?_;refine wu i h ?_;refine wW ?_;refine wB ?_;obtain⟨u,g,a⟩:=Rx g a;refine wW ?_;refine wZ (kE [0,1,2,3,4,5,6,7,9,10,11,8,12,13,14,15] [34,34,33,34,0,0,0,0,34,0,0,3,3,0,6,0]) follows ?_;obtain⟨w,g,a⟩:=Rx g a;refine wE a eP λv a=>?_
 refine wE a eP λy a=>?_
 refine wE a gW λz a=>?_
 refine wK [3,4,9,10,15,16,17] ?_;obtain⟨g,a⟩:=Rg g a;refine wW ?_;exact wi i h (p _) (ai a)
def vt(b:List ao):Option (List Int×List Int):=
 ((aO (σ:=(List Int)×List Int) (λe a=>
 (ix b e).bind λc=>
 gd ((a.1.length+1)*8<=140737488355328/\a.1.length+1<=4611686018427387904)<|
 gd ((a.2.length+1)*8<=140737488355328/\a.2.length+1<=4611686018427387904)<|
 J (.go (a.1++[c.A],a.2++[c.B]))) (λa=>(a.1,a.2)) (b.length) 0 ([],[]):Option ((List Int×List Int))).bind λd=>
 J (d.1,d.2))
def Fl{d r}(m:vt d=J r):aq zH 158 [(.sh,vJ d)] (Eo (.bR [vD r.1,vD r.2]) [.az]):=by
 apply pF 27 [] [] [] [.tmp 2,.tmp 3] m zEd Tryz.func158;intro t i a g;unfold vt at a
 iterate 3 (try simp[go_sem,g];try intros;refine ba ?_)
 refine wJ a (λc=>[(4,.v (vD c.1)),(5,.v (vD c.2))]) (λc a=>?_) λ_ j a=>?_
 ·refine wK [2,3] ?_;exact wm i a
 refine wB ?_;obtain⟨p,n,l⟩:=a;refine bG n [8,9] (λh b=>[(4,.v (vD b.1)),(5,.v (vD b.2)),(10,.v (.int .i64 h))]) (λb _ o=>?_) λh b _ _ f e s k a=>?_
 ·exact wn o (j _) l
 refine wW ?_;refine wu f e ?_;refine wW ?_;refine wB ?_;obtain⟨q,g,a⟩:=Rx g a;refine wK [4,5,7,8,9,10] ?_
 iterate 2 obtain⟨g,a⟩:=Rg g a
 refine wW ?_;refine wK [4,5,8,9,10] ?_;exact wi f e (k _) (ai a)
def mc(a:am)(c:List Int)(e:List Int):Option Int:=
 ((aO (σ:=Int) (λd b=>
 (ix c d).bind λf=>
 (ix e d).bind λh=>
 (cF a f h).bind λg=>
 gd (a.P≠0)<|
 J (.go ((i64.wrap (b*g)).tmod a.P))) (λb=>b) (c.length) 0 1:Option Int).bind λi=>
 J i)
def ph{c d e r}(p:mc c d e=J r):aq zH 161 [(.sh,vE c),(.sh,vC d),(.sh,vC e)] (Eo (.int .i64 r) gJ):=by
 apply pF 31 [] [] [] [.tmp 6] p zFk Tryz.func161;intro x k a g;unfold mc at a
 iterate 3 (try simp[go_sem,g];try intros;refine ba ?_)
 refine wJ a (λj=>[(7,.v (.int .i64 j))]) (λj a=>?_) λ_ l a=>?_
 ·exact wl k a
 refine wB ?_;obtain⟨w,o,n⟩:=a;refine bG o [2,3,10,11] (λi b=>[(7,.v (.int .i64 b)),(12,.v (.int .i64 i))]) (λb _ q=>?_) λi b _ _ h f v m a=>?_
 ·exact wn q (l _) n
 refine wW ?_;refine wu h f ?_;refine wW ?_;refine wB ?_;obtain⟨s,g,a⟩:=Rx g a;refine wK [2,3,7,8,9,10,11,12] ?_;refine wZ (kE [0,1,2,3,4,5,6,9,10,7,8,11,12] [0,26,0,0,0,0,0,25,26,3,0,0,0]) follows ?_;obtain⟨u,g,a⟩:=Rx g a;refine wE a eP λt a=>?_
 obtain⟨g,a⟩:=Rz g a;refine wK [2,3,7,10,11,12] ?_;exact wi h f (m _) (ai a)
def AX(c:am)(d:Int)(e:List ao)(f:List ao)(a:cO):Option Int:=
 (sP d e f a.cC).bind λb=>
 gd ((b.length+a.aH.length)*8<=140737488355328/\b.length+a.aH.length<=4611686018427387904)<|
 gd (((b++a.aH).length+a.Pi.aF.length)*8<=140737488355328/\(b++a.aH).length+a.Pi.aF.length<=4611686018427387904)<|
 (qk c (⟨#[109,105,120,32,112,114,111,111,102]⟩:ByteArray) (b++a.aH++a.Pi.aF)).bind λz2=>
 J z2
def zjW{b c d e f r}(i:AX b c d e f=J r):aq zH 156 [(.sh,vE b),(.sh,.int .i64 c),(.sh,vJ d),(.sh,vJ e),(.sh,vN f)] (Eo (.int .i64 r) sU):=by
 apply pF 28 [] [] [] [.tmp 10] i zGf Tryz.func156;intro k h a g;unfold AX at a;refine wW ?_;refine wZ (kE [0,1,2,3,4,6,7,5,8,9] [0,0,0,73,74,73,74,3,0,0]) follows ?_;refine wE a E6 λj a=>?_
 obtain⟨g,a⟩:=Rg g a;refine wK [5,9,11] ?_;refine wZ (kD 0 [42,0,73,73,74,0,3,0]) follows ?_;obtain⟨g,a⟩:=Rg g a;refine wE a Cw λz2 a=>?_
 exact wl h a
def Hz(b:List Int)(c:Int):Option Int:=
 ((aO (σ:=Int) (λe a=>
 (ix b e).bind λd=>
 gd (c≠0)<|
 J (.go ((i64.wrap (a+d)).tmod c))) (λa=>a) (b.length) 0 0:Option Int).bind λf=>
 J f)
def ztM{c d r}(n:Hz c d=J r):aq zH 181 [(.sh,vC c),(.sh,.int .i64 d)] (Eo (.int .i64 r) cM):=by
 apply pF 21 [] [] [] [.tmp 4] n zFG Tryz.func181;intro u j a g;unfold Hz at a
 iterate 3 (try simp[go_sem,g];try intros;refine ba ?_)
 refine wJ a (λi=>[(5,.v (.int .i64 i))]) (λi a=>?_) λ_ k a=>?_
 ·exact wl j a
 refine wB ?_;obtain⟨q,o,m⟩:=a;refine bG o [1,8,9] (λh b=>[(5,.v (.int .i64 b)),(10,.v (.int .i64 h))]) (λb _ p=>?_) λh b _ _ f e t l a=>?_
 ·exact wn p (k _) m
 refine wW ?_;refine wu f e ?_;refine wW ?_;refine wB ?_;obtain⟨s,g,a⟩:=Rx g a;obtain⟨g,a⟩:=Rz g a;refine wW ?_;refine wK [1,5,8,9,10] ?_;exact wi f e (l _) (ai a)
def vZ(b:List Int)(e:List Int)(c:Int):Option Int:=
 ((aO (σ:=Int) (λd a=>
 (ix b d).bind λf=>
 (ix e d).bind λg=>
 gd (c≠0)<|
 J (.go ((i64.wrap (a+(i64.wrap (f*g)))).tmod c))) (λa=>a) (b.length) 0 0:Option Int).bind λh=>
 J h)
def Rq{c d e r}(o:vZ c d e=J r):aq zH 182 [(.sh,vC c),(.sh,vC d),(.sh,.int .i64 e)] (Eo (.int .i64 r) gJ):=by
 apply pF 29 [] [] [] [.tmp 6] o zGS Tryz.func182;intro w k a g;unfold vZ at a
 iterate 3 (try simp[go_sem,g];try intros;refine ba ?_)
 refine wJ a (λj=>[(7,.v (.int .i64 j))]) (λj a=>?_) λ_ l a=>?_
 ·exact wl k a
 refine wB ?_;obtain⟨v,p,n⟩:=a;refine bG p [1,2,10,11] (λi b=>[(7,.v (.int .i64 b)),(12,.v (.int .i64 i))]) (λb _ q=>?_) λi b _ _ h f u m a=>?_
 ·exact wn q (l _) n
 refine wW ?_;refine wu h f ?_;refine wW ?_;refine wB ?_;obtain⟨s,g,a⟩:=Rx g a;refine wK [1,2,7,8,9,10,11,12] ?_;obtain⟨t,g,a⟩:=Rx g a;obtain⟨g,a⟩:=Rz g a;refine wK [1,2,7,10,11,12] ?_;exact wi h f (m _) (ai a)
def Gg(b:am)(l:Int)(m:ct)(a:List ao)(n:List Int)(v:List Int)(c:List Int):Option cO:=
 (Ck b l a n v).bind λr=>
 gd (0<=(a.length:Int))<|
 gd (0<=a.length/\a.length<=c.length)<|
 gd (0<=(a.length:Int))<|
 gd (0<=(i64.wrap (2*(a.length:Int))))<|
 gd (a.length<=(i64.wrap (2*(a.length:Int))).toNat/\(i64.wrap (2*(a.length:Int))).toNat<=c.length)<|
 (ix c (i64.wrap (2*(a.length:Int)))).bind λy=>
 (ix c (i64.wrap ((i64.wrap (2*(a.length:Int)))+1))).bind λz=>
 (ix c (i64.wrap ((i64.wrap (2*(a.length:Int)))+2))).bind λA=>
 (ix c (i64.wrap ((i64.wrap (2*(a.length:Int)))+3))).bind λq=>
 gd (0<=(i64.wrap ((i64.wrap (2*(a.length:Int)))+4)))<|
 gd (0<=(i64.wrap ((i64.wrap (3*(a.length:Int)))+4)))<|
 gd ((i64.wrap ((i64.wrap (2*(a.length:Int)))+4)).toNat<=(i64.wrap ((i64.wrap (3*(a.length:Int)))+4)).toNat/\(i64.wrap ((i64.wrap (3*(a.length:Int)))+4)).toNat<=c.length)<|
 gd (0<=(i64.wrap ((i64.wrap (3*(a.length:Int)))+4)))<|
 gd ((i64.wrap ((i64.wrap (3*(a.length:Int)))+4)).toNat<=c.length/\c.length<=c.length)<|
 (IE b m n ((c.take a.length).drop 0)).bind λB=>
 (Bg b l a r B).bind λC=>
 ((aO (σ:=(List Int)×Int) (λs h=>
 (ix n s).bind λL=>
 (ix C L).bind λw=>
 gd ((h.1.length+1)*8<=140737488355328/\h.1.length+1<=4611686018427387904)<|
 (ix ((c.take ((i64.wrap (2*(a.length:Int))).toNat)).drop a.length) s).bind λH=>
 gd (b.Q≠0)<|
 J (.go (h.1++[w],(i64.wrap (H+(i64.wrap (w*h.2)))).tmod b.Q))) (λh=>(h.1,h.2)) (n.length) 0 ([],0):Option ((List Int×Int))).bind λo=>
 (LX b m o.1 ((c.take ((i64.wrap (2*(a.length:Int))).toNat)).drop a.length)).bind λtt=>
 (vt r).bind λx=>
 (cF b b.G y).bind λR=>
 (cF b b.G z).bind λI=>
 (mc b m.Hs ((c.take c.length).drop ((i64.wrap ((i64.wrap (3*(a.length:Int)))+4)).toNat))).bind λF=>
 (ep b [I,F]).bind λK=>
 (cF b b.G A).bind λM=>
 (cF b b.G (i64.wrap (0-q))).bind λyT=>
 (mc b x.1 ((c.take c.length).drop ((i64.wrap ((i64.wrap (3*(a.length:Int)))+4)).toNat))).bind λN=>
 (ep b [yT,N]).bind λsC=>
 (cF b l (i64.wrap (0-q))).bind λQ=>
 (mc b x.2 ((c.take c.length).drop ((i64.wrap ((i64.wrap (3*(a.length:Int)))+4)).toNat))).bind λE=>
 (ep b [Q,E]).bind λD=>
 ((aO (σ:=(List Int)×List Int×List Int×List Int×List Int×Int) (λp d=>
 (ix ((c.take ((i64.wrap ((i64.wrap (3*(a.length:Int)))+4)).toNat)).drop ((i64.wrap ((i64.wrap (2*(a.length:Int)))+4)).toNat)) p).bind λS=>
 (ix ((c.take c.length).drop ((i64.wrap ((i64.wrap (3*(a.length:Int)))+4)).toNat)) p).bind λrN=>
 (cF b b.G S).bind λxQ=>
 (cF b d.2.2.2.2.2 rN).bind λT=>
 (ep b [xQ,T]).bind λX=>
 gd ((d.2.2.1.length+1)*8<=140737488355328/\d.2.2.1.length+1<=4611686018427387904)<|
 (ix d.2.1 p).bind λY=>
 J (.go (d.1,d.2.1,d.2.2.1++[X],d.2.2.2.1,d.2.2.2.2.1,Y))) (λd=>(d.1,d.2.1,d.2.2.1,d.2.2.2.1,d.2.2.2.2.1)) (a.length) 0 (B,tt,[R,K,M,sC,D],[],[],m.H):Option ((List Int×List Int×List Int×List Int×List Int))).bind λg=>
 (AX b l a r (cO.mk g.1 g.2.1 (cQ.mk g.2.2.1 g.2.2.2.1 g.2.2.2.2))).bind λi=>
 gd (b.Q≠0)<|
 (Hz ((c.take a.length).drop 0) b.Q).bind λU=>
 gd (b.Q≠0)<|
 (vZ ((c.take a.length).drop 0) C b.Q).bind λW=>
 gd (b.Q≠0)<|
 (vZ v o.1 b.Q).bind λuI=>
 gd (b.Q≠0)<|
 ((aO (σ:=(List Int)×List Int×List Int×List Int×List Int) (λt e=>
 (ix ((c.take ((i64.wrap ((i64.wrap (3*(a.length:Int)))+4)).toNat)).drop ((i64.wrap ((i64.wrap (2*(a.length:Int)))+4)).toNat)) t).bind λy8=>
 (ix ((c.take ((i64.wrap (2*(a.length:Int))).toNat)).drop a.length) t).bind λyy=>
 gd (b.Q≠0)<|
 gd ((e.2.2.2.2.length+1)*8<=140737488355328/\e.2.2.2.2.length+1<=4611686018427387904)<|
 J (.go (e.1,e.2.1,e.2.2.1,e.2.2.2.1,e.2.2.2.2++[(i64.wrap (y8+(i64.wrap (i*yy)))).tmod b.Q]))) (λe=>(e.1,e.2.1,e.2.2.1,e.2.2.2.1,e.2.2.2.2)) (a.length) 0 (g.1,g.2.1,g.2.2.1,[i],[(i64.wrap (y+(i64.wrap (i*U)))).tmod b.Q,(i64.wrap (z+(i64.wrap (i*W)))).tmod b.Q,(i64.wrap (A+(i64.wrap (i*o.2)))).tmod b.Q,(i64.wrap (q+(i64.wrap (i*uI)))).tmod b.Q]):Option ((List Int×List Int×List Int×List Int×List Int))).bind λj=>
 ((aO (σ:=(List Int)×List Int×List Int×List Int×List Int) (λu f=>
 (ix ((c.take c.length).drop ((i64.wrap ((i64.wrap (3*(a.length:Int)))+4)).toNat)) u).bind λP=>
 (ix o.1 u).bind λG=>
 gd (b.Q≠0)<|
 gd ((f.2.2.2.2.length+1)*8<=140737488355328/\f.2.2.2.2.length+1<=4611686018427387904)<|
 J (.go (f.1,f.2.1,f.2.2.1,f.2.2.2.1,f.2.2.2.2++[(i64.wrap (P+(i64.wrap (i*G)))).tmod b.Q]))) (λf=>(f.1,f.2.1,f.2.2.1,f.2.2.2.1,f.2.2.2.2)) (a.length) 0 (j.1,j.2.1,j.2.2.1,j.2.2.2.1,j.2.2.2.2):Option ((List Int×List Int×List Int×List Int×List Int))).bind λk=>
 J (cO.mk k.1 k.2.1 (cQ.mk k.2.2.1 k.2.2.2.1 k.2.2.2.2))))))
set_option maxHeartbeats 1000000 in
def zrh{t w x y z A B r}(hr:Gg t w x y z A B=J r):aq zH 146 [(.sh,vE t),(.sh,.int .i64 w),(.sh,vM x),(.sh,vJ y),(.sh,vC z),(.sh,vC A),(.sh,vC B)] (Eo (vS r) M0):=by
 apply pF 343 [] [] [] [.cell 14 58] hr zGy Tryz.func146;intro Φ ah a g;unfold Gg at a
 iterate 2 (try simp[go_sem,g];try intros;refine ba ?_)
 try simp[go_sem,g]
 try intros
 refine wE a Ui λz1 a=>?_
 refine wK [1,3,4,5,6,7,9,14,15,16] ?_;refine wZ (kD 0 [0,0,0,0,0,0,0,0,0,0]) follows ?_
 iterate 5 obtain⟨g,a⟩:=Rg g a
 refine wK [1,3,4,5,6,7,9,14,15,16,17,18] ?_;refine wZ (kD 0 [0,0,0,0,0,0,0,0,0,0,0,0,0,0,0,0,0,0,0,0,0,0,0,0,0,0,0]) follows ?_;obtain⟨x2,g,a⟩:=Rx g a;obtain⟨x3,g,a⟩:=Rx g a;obtain⟨x4,g,a⟩:=Rx g a;obtain⟨x5,g,a⟩:=Rx g a;refine wK [1,3,4,5,6,7,9,14,15,16,17,18,19,20,21,22] ?_;refine wZ (kD 0 [0,0,0,0,0,0,0,0,0,0,0,0,0,0,0]) follows ?_
 iterate 5 obtain⟨g,a⟩:=Rg g a
 refine wK [1,3,4,5,7,9,14,16,17,18,19,20,21,22,23,24] ?_;refine wE a zpL λz6 a=>?_
 refine wW ?_;refine wE a ZI λz7 a=>?_
 refine wK [1,3,4,5,7,9,14,16,17,18,19,20,21,22,23,24,25,26] ?_
 iterate 3 (try simp[go_sem,g];try intros;refine ba ?_)
 refine bE a [1,3,5,7,9,14,16,17,18,19,20,21,22,23,24,25,26] (λj=>[(27,.v (vD j.1)),(28,.v (.int .i64 j.2))]) (λj a=>?_) λ_ E a=>?_
 ·refine wE a zrp λtt a=>?_
  refine wK [1,3,5,7,9,14,16,17,18,19,20,21,22,23,24,25,26,27,28] ?_;refine wE a Fl λg9 a=>?_
  refine wW ?_;refine wZ [k2 0 7,k1 1 7,k2 2 7,k0 3,k2 5 7,k2 6 7,k1 7 7,k2 8 7,k0 9,k2 11 7,k1 12 9,k2 13 9,k0 14,k2 18 7,k1 19 7,k2 20 7,k0 21,k2 23 7,k2 24 7,k1 25 7,k2 26 7,k0 27,k0 28,k2 30 7,k0 31,k0 32,k2 36 7,k2 37 7,k0 38,k0 39,k0 40,k2 42 7,k0 43,k0 44,k3 4,k3 10,k3 15,k0 16,λ_=>⟨17,[148,159],[],aa,O,O,O⟩,k3 22,k3 29,k3 33,k0 34,λ_=>⟨35,[166,177],[],aa,O,O,O⟩,k3 41,k3 45,k0 46,λ_=>⟨47,[179,189],[],aa,O,O,O⟩,k0 48,k1 49 25,k1 50 25,λ_=>⟨51,[193,191],[25],J 193,O,O,O⟩] follows ?_;refine wE a eP λmL a=>?_
  refine wE a eP λfZ a=>?_
  refine wE a ph λDT a=>?_
  refine wE a gW λgw a=>?_
  refine wE a eP λkC a=>?_
  refine wE a eP λyT a=>?_
  refine wE a ph λkL a=>?_
  refine wE a gW λsC a=>?_
  refine wE a eP λmB a=>?_
  refine wE a ph λAo a=>?_
  refine wE a gW λAU a=>?_
  refine wK [1,3,5,7,9,14,16,17,18,19,20,21,22,23,24,25,26,27,28] ?_
  iterate 2 (try simp[go_sem,g];try intros;refine ba ?_)
  refine bE a [1,3,5,7,14,16,17,18,19,20,21,22,23,24,26,27,28] (λe=>[(25,.bl [vD e.1,vD e.2.1,vD e.2.2.1,vD e.2.2.2.1,vD e.2.2.2.2])]) (λe a=>?_) λ_ Y a=>?_
  ·refine wE a zjW λv4 a=>?_
   refine wK [3,5,7,14,17,18,19,20,21,22,23,24,25,26,27,28,35] ?_;refine wW ?_;refine wZ [k0 0,k0 1,k0 2,k1 3 7,k2 4 7,k1 8 7,k2 9 7,k0 11,k0 12,k0 13,k0 14,k1 15 7,k2 16 7,k1 20 7,k2 21 7,k0 23,k0 24,k0 25,k0 26,k0 27,k1 28 7,k2 29 7,k0 30,k0 31,k0 32,k0 33,k0 34,k1 35 7,k2 36 7,k1 40 7,k2 41 7,k3 5,k0 6,k0 7,k0 10,k3 17,k0 18,k0 19,k0 22,k3 37,k0 38,k0 39,k0 42,k0 43,k1 44 25,k1 45 25,λ_=>⟨46,[287,285],[25],J 287,O,O,O⟩] follows ?_;obtain⟨g,a⟩:=Rz g a;refine wE a ztM λoq a=>?_
   obtain⟨g,a⟩:=Rz g a;refine wE a Rq λqA a=>?_
   obtain⟨g,a⟩:=Rz g a;refine wE a Rq λuI a=>?_
   obtain⟨g,a⟩:=Rz g a;refine wK [3,7,14,18,23,24,25,27,35] ?_;try simp[go_sem,g]
   try intros
   refine ba ?_;refine bE a [3,7,14,24,27,35] (λf=>[(25,.bl [vD f.1,vD f.2.1,vD f.2.2.1,vD f.2.2.2.1,vD f.2.2.2.2])]) (λf a=>?_) λ_ W a=>?_
   ·try simp[go_sem,g]
    try intros
    refine ba ?_;refine wJ a (λh=>[(14,.bl [.sl O 1 [],.sl O 1 [],.sl O 1 [],.sl O 1 [],.sl O 1 []]),(25,.bl [vD h.1,vD h.2.1,vD h.2.2.1,vD h.2.2.2.1,vD h.2.2.2.2])]) (λh a=>?_) λ_ P a=>?_
    ·exact wl ah a
    refine wB ?_;obtain⟨a4u,M,S⟩:=a;refine bG M [7,14,24,27,35,316] (λn d=>[(25,.bl [vD d.1,vD d.2.1,vD d.2.2.1,vD d.2.2.2.1,vD d.2.2.2.2]),(317,.v (.int .i64 n))]) (λd _ K=>?_) λn d _ _ o v a58 X a=>?_
    ·exact wn K (P _) S
    refine wW ?_;refine wu o v ?_;refine wW ?_;refine wB ?_;refine wW ?_;refine wZ (kD 0 [201,201,202,0,0,0,0,0,0,0,0,0,0,0,57,58,0,0,5,201,201,202]) follows ?_;obtain⟨kV,g,a⟩:=gP g a;obtain⟨a0v,g,a⟩:=Rx g a;obtain⟨g,a⟩:=Rz g a;obtain⟨g,a⟩:=Rg g a;refine wK [7,14,24,25,27,35,316,317] ?_;exact wi o v (X _) (ai a)
   refine wB ?_;obtain⟨b96,L,R⟩:=a;refine bG L [3,7,14,18,23,24,27,35,289] (λm c=>[(25,.bl [vD c.1,vD c.2.1,vD c.2.2.1,vD c.2.2.2.1,vD c.2.2.2.2]),(290,.v (.int .i64 m))]) (λc _ H=>?_) λm c _ _ p s a6o T a=>?_
   ·exact wn H (W _) R
   refine wW ?_;refine wu p s ?_;refine wW ?_;refine wB ?_;refine wW ?_;refine wZ (kD 0 [201,201,202,0,0,0,0,0,0,0,0,0,0,0,57,58,0,0,5,201,201,202]) follows ?_;obtain⟨y8,g,a⟩:=gP g a;obtain⟨yy,g,a⟩:=gP g a;obtain⟨g,a⟩:=Rz g a;obtain⟨g,a⟩:=Rg g a;refine wK [3,7,14,18,23,24,25,27,35,289,290] ?_;exact wi p s (T _) (ai a)
  refine wB ?_;obtain⟨b67,U,I⟩:=a;refine bG U [1,3,5,7,14,16,17,18,19,20,21,22,23,24,26,27,28,197] (λD b=>[(25,.bl [vD b.1,vD b.2.1,vD b.2.2.1,vD b.2.2.2.1,vD b.2.2.2.2.1]),(33,.v (.int .i64 b.2.2.2.2.2)),(198,.v (.int .i64 D))]) (λb _ Q=>?_) λD b _ _ u q a0R N a=>?_
  ·exact wn Q (Y _) I
  refine wW ?_;refine wu u q ?_;refine wW ?_;refine wB ?_;refine wW ?_;refine wZ (kE [0,1,2,3,4,5,6,7,8,9,10,12,13,14,15,16,17,11,18,19,20,21,22,23,24,25] [201,201,202,58,58,57,58,0,0,0,0,58,0,0,0,0,0,4,3,0,6,0,5,201,201,202]) follows ?_;obtain⟨oM,g,a⟩:=gP g a;obtain⟨rN,g,a⟩:=gP g a;refine wD a eP λxQ a=>?_
  refine wE a eP λoX a=>?_
  refine wE a gW λqT a=>?_
  obtain⟨g,a⟩:=Rg g a;refine wK [1,3,5,7,14,16,17,18,19,20,21,22,23,24,25,26,27,28,34,197,198] ?_;obtain⟨qi,g,a⟩:=Rx g a;refine wW ?_;exact wi u q (N _) (ai a)
 refine wB ?_;obtain⟨RM,F,uR⟩:=a;refine bG F [1,3,5,7,9,14,16,17,18,19,20,21,22,23,24,25,26,103,104] (λl i=>[(27,.v (vD i.1)),(28,.v (.int .i64 i.2)),(105,.v (.int .i64 l))]) (λi _ G=>?_) λl i _ _ C k vq yR a=>?_
 ·exact wn G (E _) uR
 refine wW ?_;refine wu C k ?_;refine wW ?_;refine wB ?_;obtain⟨jl,g,a⟩:=Rx g a;refine wK [1,3,5,7,9,14,16,17,18,19,20,21,22,23,24,25,26,27,28,29,30,103,104,105] ?_;obtain⟨dV,g,a⟩:=Rx g a;obtain⟨g,a⟩:=Rg g a;refine wW ?_;refine wZ (kD 0 [0,0,0,0,0,0,0,0,0,0,0,57,58,0,0]) follows ?_;obtain⟨dw,g,a⟩:=gP g a;obtain⟨g,a⟩:=Rz g a;refine wK [1,3,5,7,9,14,16,17,18,19,20,21,22,23,24,25,26,27,28,103,104,105] ?_;exact wi C k (yR _) (ai a)
def wg(b:am)(e:Int)(a:List ao)(f:List Int)(c:List Int)(d:List Int):Option (cO×Bool):=
 (((qj b e a).bind λk=>
 if(!k)=O then(
 J O)else(
 (EC f (a.length:Int)).bind λl=>
 if(!l)=O then(
 J O)else(
 if((c.length:Int) !=(a.length:Int))=O then(
 J O)else(
 (sF b c).bind λm=>
 if(!m)=O then(
 J O)else(
 if((d.length:Int) !=(i64.wrap ((i64.wrap (4*(a.length:Int)))+4)))=O then(
 J O)else(
 (sF b d).bind λh=>
 J (!h)))))):Option Bool).bind λj=>
 if j=O then(
 J ((cO.mk [] [] (cQ.mk [] [] [])),Z))else(
 (pX b (a.length:Int)).bind λg=>
 if(!g.2)=O then(
 J ((cO.mk [] [] (cQ.mk [] [] [])),Z))else(
 (Gg b e g.1 a f c d).bind λi=>
 J (i,O))))
def znh{j k l m n o r}(s:wg j k l m n o=J r):aq zH 99 [(.sh,vE j),(.sh,.int .i64 k),(.sh,vJ l),(.sh,vC m),(.sh,vC n),(.sh,vC o)] (Eo (.bR [vS r.1,.bool r.2]) qr):=by
 apply pF 74 [] [] [] [.cell 12 58,.tmp 13] s zLr Tryz.func99;intro A f a g;unfold wg at a
 iterate 2 (try simp[go_sem,g];try intros;refine ba ?_)
 refine bE a [1,2,3,4,5,6,12,14] (λp=>[(55,.v (.bool p))]) (λp a=>?_) λ_ b a=>?_
 ·refine wI a (λq a=>?_) λq a=>?_
  ·exact wl f a
  refine wW ?_;refine wE a Ps λv a=>?_
  refine wK [1,2,3,4,5,6,12,15,16] ?_;refine wW ?_;refine wI a (λt a=>?_) λt a=>?_
  ·exact wl f a
  refine wW ?_;refine wE a zrh λw a=>?_
  refine wK [12,13] ?_;exact wm f a
 refine wE a D4 λx a=>?_
 refine wG a (λd a=>?_) λd a=>?_
 ·exact wV d (b _) (ai a)
 try simp[go_sem,g,d]
 refine wE a X6 λy a=>?_
 try simp[go_sem,g,d]
 refine wG a (λi a=>?_) λi a=>?_
 ·exact wV i (b _) (ai a)
 try simp[go_sem,g,i]
 try intros
 refine wG a (λe a=>?_) λe a=>?_
 ·exact wV e (b _) (ai a)
 try simp[go_sem,g,e]
 refine wE a Df λz a=>?_
 try simp[go_sem,g,e]
 refine wG a (λh a=>?_) λh a=>?_
 ·exact wV h (b _) (ai a)
 try simp[go_sem,g,h]
 try intros
 refine wG a (λc a=>?_) λc a=>?_
 ·exact wV c (b _) (ai a)
 try simp[go_sem,g,c]
 refine wE a Df λu a=>?_
 exact wV c (b _) (ai a)
def Gq(b:am):Option (Int×Bool):=
 (pX b 0).bind λa=>
 J (a.1.H,a.2)
def zm0{b r}(d:Gq b=J r):aq zH 109 [(.sh,vE b)] (Eo (.bR [.int .i64 r.1,.bool r.2]) [.az]):=by
 apply pF 14 [] [] [] [.tmp 2,.tmp 3] d zGN Tryz.func109;intro f c a g;unfold Gq at a;refine wW ?_;refine wE a Ps λe a=>?_
 refine wK [4,5] ?_;exact wl c a
def oE(a:am)(b:Int)(c:Int)(d:Int):Option Int:=
 (cF a a.G c).bind λe=>
 (cF a b d).bind λz2=>
 (ep a [e,z2]).bind λf=>
 J f
def D2{b c d e r}(h:oE b c d e=J r):aq zH 167 [(.sh,vE b),(.sh,.int .i64 c),(.sh,.int .i64 d),(.sh,.int .i64 e)] (Eo (.int .i64 r) jY):=by
 apply pF 21 [] [] [] [.tmp 8] h zEQ Tryz.func167;intro k f a g;unfold oE at a;refine wW ?_;refine wZ (kE [0,1,2,3,4,6,7,8,5,9,10,11,12] [34,34,33,34,0,34,0,0,3,3,0,6,0]) follows ?_;refine wE a eP λi a=>?_
 refine wE a eP λz2 a=>?_
 refine wE a gW λj a=>?_
 refine wK [8] ?_;exact wm f a
def Lf(d:am)(e:Int)(b:List Int)(f:List Int):Option ((List Int)):=
 ((aO (σ:=(List Int)) (λc a=>
 (ix b c).bind λg=>
 (ix f c).bind λi=>
 (oE d e (i64.wrap (g+1)) i).bind λh=>
 gd ((a.length+1)*8<=140737488355328/\a.length+1<=4611686018427387904)<|
 J (.go (a++[h]))) (λa=>a) (b.length) 0 []:Option ((List Int))).bind λj=>
 J j)
def zqe{c d e f r}(q:Lf c d e f=J r):aq zH 183 [(.sh,vE c),(.sh,.int .i64 d),(.sh,vC e),(.sh,vC f)] (Eo (vD r) jY):=by
 apply pF 33 [] [] [] [.tmp 8] q zEJ Tryz.func183;intro y l a g;unfold Lf at a
 iterate 3 (try simp[go_sem,g];try intros;refine ba ?_)
 refine wJ a (λk=>[(9,.v (vD k))]) (λk a=>?_) λ_ m a=>?_
 ·exact wl l a
 refine wB ?_;obtain⟨x,p,o⟩:=a;refine bG p [1,3,4,12,13] (λj b=>[(9,.v (vD b)),(14,.v (.int .i64 j))]) (λb _ s=>?_) λj b _ _ i h w n a=>?_
 ·exact wn s (m _) o
 refine wW ?_;refine wu i h ?_;refine wW ?_;refine wB ?_;obtain⟨t,g,a⟩:=Rx g a;refine wK [1,3,4,9,10,11,12,13,14] ?_;refine wZ (kD 0 [0,34,0,0,0,0,0,0,0,3,0,5,0]) follows ?_;obtain⟨v,g,a⟩:=Rx g a;refine wE a D2 λu a=>?_
 obtain⟨g,a⟩:=Rg g a;refine wK [1,3,4,9,12,13,14] ?_;exact wi i h (n _) (ai a)
def HY(c:am)(b:List Int)(d:Int):Option ((List Int)):=
 ((aO (σ:=(List Int)) (λg a=>
 (ix b g).bind λe=>
 (l4 d (i64.wrap (e+1)) c.Q).bind λf=>
 gd ((a.length+1)*8<=140737488355328/\a.length+1<=4611686018427387904)<|
 J (.go (a++[f]))) (λa=>a) (b.length) 0 []:Option ((List Int))).bind λh=>
 J h)
def zqg{c d e r}(o:HY c d e=J r):aq zH 184 [(.sh,vE c),(.sh,vC d),(.sh,.int .i64 e)] (Eo (vD r) gJ):=by
 apply pF 27 [] [] [] [.tmp 6] o zHg Tryz.func184;intro w k a g;unfold HY at a
 iterate 3 (try simp[go_sem,g];try intros;refine ba ?_)
 refine wJ a (λj=>[(7,.v (vD j))]) (λj a=>?_) λ_ l a=>?_
 ·exact wl k a
 refine wB ?_;obtain⟨v,p,n⟩:=a;refine bG p [2,3,10,11] (λi b=>[(7,.v (vD b)),(12,.v (.int .i64 i))]) (λb _ q=>?_) λi b _ _ h f u m a=>?_
 ·exact wn q (l _) n
 refine wW ?_;refine wu h f ?_;refine wW ?_;refine wB ?_;obtain⟨s,g,a⟩:=Rx g a;refine wK [2,3,7,9,10,11,12] ?_;refine wE a yF λt a=>?_
 obtain⟨g,a⟩:=Rg g a;refine wK [2,3,7,10,11,12] ?_;exact wi h f (m _) (ai a)
def Az(c:am)(d:Int)(e:List ao)(f:List ao)(g:List Int)(a:List Int):Option (Int×Int):=
 (sP d e f g).bind λb=>
 gd ((b.length+a.length)*8<=140737488355328/\b.length+a.length<=4611686018427387904)<|
 (qk c (⟨#[109,105,120,32,121]⟩:ByteArray) (b++a)).bind λz2=>
 (qk c (⟨#[109,105,120,32,122]⟩:ByteArray) (b++a)).bind λh=>
 J (z2,h)
def zlS{b c d e f h r}(j:Az b c d e f h=J r):aq zH 166 [(.sh,vE b),(.sh,.int .i64 c),(.sh,vJ d),(.sh,vJ e),(.sh,vC f),(.sh,vC h)] (Eo (.bR [.int .i64 r.1,.int .i64 r.2]) qr):=by
 apply pF 28 [] [] [] [.tmp 12,.tmp 13] j zHn Tryz.func166;intro m i a g;unfold Az at a;refine wW ?_;refine wE a E6 λk a=>?_
 obtain⟨g,a⟩:=Rg g a;refine wK [6,14] ?_;refine wZ (kE [0,1,3,4,2,5,6,7] [50,0,50,0,3,3,0,0]) follows ?_;refine wE a Cw λz2 a=>?_
 refine wE a Cw λl a=>?_
 exact wl i a
def Ah(c:am)(d:Int)(e:List ao)(f:List ao)(a:cu):Option Int:=
 (sP d e f a.bX).bind λb=>
 gd ((b.length+a.bN.length)*8<=140737488355328/\b.length+a.bN.length<=4611686018427387904)<|
 gd (((b++a.bN).length+a.aH.length)*8<=140737488355328/\(b++a.bN).length+a.aH.length<=4611686018427387904)<|
 gd (((b++a.bN++a.aH).length+a.Pi.aF.length)*8<=140737488355328/\(b++a.bN++a.aH).length+a.Pi.aF.length<=4611686018427387904)<|
 (qk c (⟨#[109,105,120,32,101,110,100]⟩:ByteArray) (b++a.bN++a.aH++a.Pi.aF)).bind λz2=>
 J z2
def zos{b c d e f r}(i:Ah b c d e f=J r):aq zH 163 [(.sh,vE b),(.sh,.int .i64 c),(.sh,vJ d),(.sh,vJ e),(.sh,vO f)] (Eo (.int .i64 r) sU):=by
 apply pF 32 [] [] [] [.tmp 10] i zF0 Tryz.func163;intro k h a g;unfold Ah at a;refine wW ?_;refine wZ (kE [0,1,2,3,4,6,7,5,8,9] [0,0,0,73,74,73,74,3,0,0]) follows ?_;refine wE a E6 λj a=>?_
 obtain⟨g,a⟩:=Rg g a;refine wK [5,9,11] ?_;refine wZ (kE [0,1,2,4,5,6,3,7,8] [0,73,74,73,73,74,0,0,0]) follows ?_
 iterate 2 obtain⟨g,a⟩:=Rg g a
 refine wW ?_;refine wE a Cw λz2 a=>?_
 refine wK [10] ?_;exact wm h a
def Hc(b:am)(p:Int)(n:Int)(a:List ao)(q:List Int)(Q:List Int)(c:List Int):Option cu:=
 (Ck b p a q Q).bind λy=>
 gd (0<=(a.length:Int))<|
 gd (0<=a.length/\a.length<=c.length)<|
 gd (0<=(a.length:Int))<|
 gd (0<=(i64.wrap (2*(a.length:Int))))<|
 gd (a.length<=(i64.wrap (2*(a.length:Int))).toNat/\(i64.wrap (2*(a.length:Int))).toNat<=c.length)<|
 gd (0<=(i64.wrap (2*(a.length:Int))))<|
 gd (0<=(i64.wrap (3*(a.length:Int))))<|
 gd ((i64.wrap (2*(a.length:Int))).toNat<=(i64.wrap (3*(a.length:Int))).toNat/\(i64.wrap (3*(a.length:Int))).toNat<=c.length)<|
 gd (0<=(i64.wrap (3*(a.length:Int))))<|
 gd (0<=(i64.wrap (4*(a.length:Int))))<|
 gd ((i64.wrap (3*(a.length:Int))).toNat<=(i64.wrap (4*(a.length:Int))).toNat/\(i64.wrap (4*(a.length:Int))).toNat<=c.length)<|
 gd (0<=(i64.wrap (4*(a.length:Int))))<|
 gd (0<=(i64.wrap (5*(a.length:Int))))<|
 gd ((i64.wrap (4*(a.length:Int))).toNat<=(i64.wrap (5*(a.length:Int))).toNat/\(i64.wrap (5*(a.length:Int))).toNat<=c.length)<|
 gd (0<=(i64.wrap (5*(a.length:Int))))<|
 gd (0<=(i64.wrap (6*(a.length:Int))))<|
 gd ((i64.wrap (5*(a.length:Int))).toNat<=(i64.wrap (6*(a.length:Int))).toNat/\(i64.wrap (6*(a.length:Int))).toNat<=c.length)<|
 (ix c (i64.wrap (6*(a.length:Int)))).bind λT=>
 gd (0<=(i64.wrap ((i64.wrap (6*(a.length:Int)))+1)))<|
 gd (0<=(i64.wrap ((i64.wrap (7*(a.length:Int)))+1)))<|
 gd ((i64.wrap ((i64.wrap (6*(a.length:Int)))+1)).toNat<=(i64.wrap ((i64.wrap (7*(a.length:Int)))+1)).toNat/\(i64.wrap ((i64.wrap (7*(a.length:Int)))+1)).toNat<=c.length)<|
 gd (0<=(i64.wrap ((i64.wrap (7*(a.length:Int)))+1)))<|
 gd (0<=(i64.wrap ((i64.wrap (8*(a.length:Int)))+1)))<|
 gd ((i64.wrap ((i64.wrap (7*(a.length:Int)))+1)).toNat<=(i64.wrap ((i64.wrap (8*(a.length:Int)))+1)).toNat/\(i64.wrap ((i64.wrap (8*(a.length:Int)))+1)).toNat<=c.length)<|
 (ix c (i64.wrap ((i64.wrap (8*(a.length:Int)))+1))).bind λG=>
 (Lf b n q ((c.take a.length).drop 0)).bind λU=>
 (sP p a y U).bind λz5=>
 (qk b (⟨#[109,105,120,32,120]⟩:ByteArray) z5).bind λz6=>
 (HY b q z6).bind λw=>
 ((aO (σ:=(List Int)×List Int×List Int×List Int×List Int×List Int) (λkc f=>
 (ix w kc).bind λjW=>
 (ix ((c.take ((i64.wrap (2*(a.length:Int))).toNat)).drop a.length) kc).bind λd4=>
 (oE b n jW d4).bind λgw=>
 gd ((f.2.1.length+1)*8<=140737488355328/\f.2.1.length+1<=4611686018427387904)<|
 J (.go (f.1,f.2.1++[gw],f.2.2.1,f.2.2.2.1,f.2.2.2.2.1,f.2.2.2.2.2))) (λf=>(f.1,f.2.1,f.2.2.1,f.2.2.2.1,f.2.2.2.2.1,f.2.2.2.2.2)) (w.length) 0 (U,[],[],[],[],[]):Option ((List Int×List Int×List Int×List Int×List Int×List Int))).bind λj=>
 (Az b p a y j.1 j.2.1).bind λB=>
 ((aO (σ:=(List Int)×List Int×List Int×List Int×List Int×List Int×List Int×List Int×Int×Int) (λD d=>
 (ix q D).bind λpH=>
 gd (b.Q≠0)<|
 (ix w D).bind λM1=>
 (q9 (i64.wrap ((i64.wrap ((i64.wrap (B.1*((i64.wrap (pH+1)).tmod b.Q)))+M1))-B.2)) b.Q).bind λx=>
 gd ((d.2.2.2.2.2.2.1.length+1)*8<=140737488355328/\d.2.2.2.2.2.2.1.length+1<=4611686018427387904)<|
 gd (b.Q≠0)<|
 (ix ((c.take ((i64.wrap (3*(a.length:Int))).toNat)).drop ((i64.wrap (2*(a.length:Int))).toNat)) D).bind λC=>
 (oE b n ((i64.wrap (d.2.2.2.2.2.2.2.2.1*x)).tmod b.Q) C).bind λxQ=>
 gd ((d.2.2.1.length+1)*8<=140737488355328/\d.2.2.1.length+1<=4611686018427387904)<|
 (q9 (i64.wrap (C-(i64.wrap (d.2.2.2.2.2.2.2.2.2*x)))) b.Q).bind λoX=>
 gd ((d.2.2.2.2.2.2.2.1.length+1)*8<=140737488355328/\d.2.2.2.2.2.2.2.1.length+1<=4611686018427387904)<|
 J (.go (d.1,d.2.1,d.2.2.1++[xQ],d.2.2.2.1,d.2.2.2.2.1,d.2.2.2.2.2.1,d.2.2.2.2.2.2.1++[x],d.2.2.2.2.2.2.2.1++[oX],(i64.wrap (d.2.2.2.2.2.2.2.2.1*x)).tmod b.Q,C))) (λd=>(d.1,d.2.1,d.2.2.1,d.2.2.2.1,d.2.2.2.2.1,d.2.2.2.2.2.1,d.2.2.2.2.2.2.1,d.2.2.2.2.2.2.2.1)) (q.length) 0 (j.1,j.2.1,j.2.2.1,j.2.2.2.1,j.2.2.2.2.1,j.2.2.2.2.2,[],[],1,0):Option ((List Int×List Int×List Int×List Int×List Int×List Int×List Int×List Int))).bind λk=>
 (vt y).bind λR=>
 ((aO (σ:=(List Int)×List Int×List Int×List Int×List Int×List Int) (λH g=>
 (ix ((c.take ((i64.wrap (4*(a.length:Int))).toNat)).drop ((i64.wrap (3*(a.length:Int))).toNat)) H).bind λjm=>
 (ix ((c.take ((i64.wrap (5*(a.length:Int))).toNat)).drop ((i64.wrap (4*(a.length:Int))).toNat)) H).bind λjJ=>
 (oE b n jm jJ).bind λpB=>
 gd ((g.2.2.2.1.length+1)*8<=140737488355328/\g.2.2.2.1.length+1<=4611686018427387904)<|
 J (.go (g.1,g.2.1,g.2.2.1,g.2.2.2.1++[pB],g.2.2.2.2.1,g.2.2.2.2.2))) (λg=>(g.1,g.2.1,g.2.2.1,g.2.2.2.1,g.2.2.2.2.1,g.2.2.2.2.2)) (((c.take ((i64.wrap (4*(a.length:Int))).toNat)).drop ((i64.wrap (3*(a.length:Int))).toNat)).length) 0 (k.1,k.2.1,k.2.2.1,k.2.2.2.1,k.2.2.2.2.1,k.2.2.2.2.2.1):Option ((List Int×List Int×List Int×List Int×List Int×List Int))).bind λo=>
 ((aO (σ:=(List Int)×List Int×List Int×List Int×List Int×List Int×Int) (λE e=>
 (ix ((c.take ((i64.wrap (4*(a.length:Int))).toNat)).drop ((i64.wrap (3*(a.length:Int))).toNat)) E).bind λPt=>
 (ix ((c.take ((i64.wrap (6*(a.length:Int))).toNat)).drop ((i64.wrap (5*(a.length:Int))).toNat)) E).bind λOD=>
 (cF b e.2.2.2.2.2.2 Pt).bind λP2=>
 (cF b n OD).bind λPJ=>
 (ep b [P2,PJ]).bind λLt=>
 gd ((e.2.2.2.1.length+1)*8<=140737488355328/\e.2.2.2.1.length+1<=4611686018427387904)<|
 (ix e.2.2.1 E).bind λJ2=>
 J (.go (e.1,e.2.1,e.2.2.1,e.2.2.2.1++[Lt],e.2.2.2.2.1,e.2.2.2.2.2.1,J2))) (λe=>(e.1,e.2.1,e.2.2.1,e.2.2.2.1,e.2.2.2.2.1,e.2.2.2.2.2.1)) (((c.take ((i64.wrap (4*(a.length:Int))).toNat)).drop ((i64.wrap (3*(a.length:Int))).toNat)).length) 0 (o.1,o.2.1,o.2.2.1,o.2.2.2.1,o.2.2.2.2.1,o.2.2.2.2.2,b.G):Option ((List Int×List Int×List Int×List Int×List Int×List Int))).bind λl=>
 (cF b n T).bind λXP=>
 gd ((l.2.2.2.1.length+1)*8<=140737488355328/\l.2.2.2.1.length+1<=4611686018427387904)<|
 ((aO (σ:=(List Int)×List Int×List Int×List Int×List Int×List Int) (λS h=>
 (ix ((c.take ((i64.wrap ((i64.wrap (7*(a.length:Int)))+1)).toNat)).drop ((i64.wrap ((i64.wrap (6*(a.length:Int)))+1)).toNat)) S).bind λY=>
 (ix ((c.take ((i64.wrap ((i64.wrap (8*(a.length:Int)))+1)).toNat)).drop ((i64.wrap ((i64.wrap (7*(a.length:Int)))+1)).toNat)) S).bind λWK=>
 (oE b n Y WK).bind λTG=>
 gd ((h.2.2.2.1.length+1)*8<=140737488355328/\h.2.2.2.1.length+1<=4611686018427387904)<|
 J (.go (h.1,h.2.1,h.2.2.1,h.2.2.2.1++[TG],h.2.2.2.2.1,h.2.2.2.2.2))) (λh=>(h.1,h.2.1,h.2.2.1,h.2.2.2.1,h.2.2.2.2.1,h.2.2.2.2.2)) (((c.take ((i64.wrap ((i64.wrap (7*(a.length:Int)))+1)).toNat)).drop ((i64.wrap ((i64.wrap (6*(a.length:Int)))+1)).toNat)).length) 0 (l.1,l.2.1,l.2.2.1,l.2.2.2.1++[XP],l.2.2.2.2.1,l.2.2.2.2.2):Option ((List Int×List Int×List Int×List Int×List Int×List Int))).bind λi=>
 (cF b b.G (i64.wrap (0-G))).bind λKt=>
 (mc b R.1 ((c.take ((i64.wrap ((i64.wrap (7*(a.length:Int)))+1)).toNat)).drop ((i64.wrap ((i64.wrap (6*(a.length:Int)))+1)).toNat))).bind λKZ=>
 (ep b [Kt,KZ]).bind λK=>
 (cF b p (i64.wrap (0-G))).bind λKU=>
 (mc b R.2 ((c.take ((i64.wrap ((i64.wrap (7*(a.length:Int)))+1)).toNat)).drop ((i64.wrap ((i64.wrap (6*(a.length:Int)))+1)).toNat))).bind λJU=>
 (ep b [KU,JU]).bind λL=>
 gd ((i.2.2.2.1.length+2)*8<=140737488355328/\i.2.2.2.1.length+2<=4611686018427387904)<|
 (Ah b p a y (cu.mk i.1 i.2.1 i.2.2.1 (cQ.mk (i.2.2.2.1++[K,L]) i.2.2.2.2.1 i.2.2.2.2.2))).bind λm=>
 ((aO (σ:=(List Int)) (λI s=>
 (ix ((c.take ((i64.wrap (4*(a.length:Int))).toNat)).drop ((i64.wrap (3*(a.length:Int))).toNat)) I).bind λIG=>
 (ix k.2.2.2.2.2.2.1 I).bind λLm=>
 gd (b.Q≠0)<|
 gd ((s.length+1)*8<=140737488355328/\s.length+1<=4611686018427387904)<|
 J (.go (s++[(i64.wrap (IG+(i64.wrap (m*Lm)))).tmod b.Q]))) (λs=>s) (((c.take ((i64.wrap (4*(a.length:Int))).toNat)).drop ((i64.wrap (3*(a.length:Int))).toNat)).length) 0 []:Option ((List Int))).bind λM3=>
 ((aO (σ:=(List Int)) (λF r=>
 (ix ((c.take ((i64.wrap (5*(a.length:Int))).toNat)).drop ((i64.wrap (4*(a.length:Int))).toNat)) F).bind λX=>
 (ix ((c.take a.length).drop 0) F).bind λKC=>
 (ix ((c.take ((i64.wrap (2*(a.length:Int))).toNat)).drop a.length) F).bind λIq=>
 gd (b.Q≠0)<|
 gd (b.Q≠0)<|
 gd ((r.length+1)*8<=140737488355328/\r.length+1<=4611686018427387904)<|
 J (.go (r++[(i64.wrap (X+(i64.wrap (m*((i64.wrap ((i64.wrap (B.1*KC))+Iq)).tmod b.Q))))).tmod b.Q]))) (λr=>r) (((c.take ((i64.wrap (4*(a.length:Int))).toNat)).drop ((i64.wrap (3*(a.length:Int))).toNat)).length) 0 M3:Option ((List Int))).bind λQk=>
 ((aO (σ:=(List Int)) (λN u=>
 (ix ((c.take ((i64.wrap (6*(a.length:Int))).toNat)).drop ((i64.wrap (5*(a.length:Int))).toNat)) N).bind λQP=>
 (ix k.2.2.2.2.2.2.2 N).bind λUs=>
 gd (b.Q≠0)<|
 gd ((u.length+1)*8<=140737488355328/\u.length+1<=4611686018427387904)<|
 J (.go (u++[(i64.wrap (QP+(i64.wrap (m*Us)))).tmod b.Q]))) (λu=>u) (((c.take ((i64.wrap (4*(a.length:Int))).toNat)).drop ((i64.wrap (3*(a.length:Int))).toNat)).length) 0 Qk:Option ((List Int))).bind λz=>
 (ix ((c.take ((i64.wrap (3*(a.length:Int))).toNat)).drop ((i64.wrap (2*(a.length:Int))).toNat)) (i64.wrap ((a.length:Int)-1))).bind λW=>
 gd (b.Q≠0)<|
 gd ((z.length+1)*8<=140737488355328/\z.length+1<=4611686018427387904)<|
 ((aO (σ:=(List Int)) (λM t=>
 (ix ((c.take ((i64.wrap ((i64.wrap (7*(a.length:Int)))+1)).toNat)).drop ((i64.wrap ((i64.wrap (6*(a.length:Int)))+1)).toNat)) M).bind λVr=>
 (ix w M).bind λQO=>
 gd (b.Q≠0)<|
 gd ((t.length+1)*8<=140737488355328/\t.length+1<=4611686018427387904)<|
 J (.go (t++[(i64.wrap (Vr+(i64.wrap (m*QO)))).tmod b.Q]))) (λt=>t) (((c.take ((i64.wrap ((i64.wrap (7*(a.length:Int)))+1)).toNat)).drop ((i64.wrap ((i64.wrap (6*(a.length:Int)))+1)).toNat)).length) 0 (z++[(i64.wrap (T+(i64.wrap (m*W)))).tmod b.Q]):Option ((List Int))).bind λQj=>
 ((aO (σ:=(List Int)) (λP v=>
 (ix ((c.take ((i64.wrap ((i64.wrap (8*(a.length:Int)))+1)).toNat)).drop ((i64.wrap ((i64.wrap (7*(a.length:Int)))+1)).toNat)) P).bind λSd=>
 (ix ((c.take ((i64.wrap (2*(a.length:Int))).toNat)).drop a.length) P).bind λU8=>
 gd (b.Q≠0)<|
 gd ((v.length+1)*8<=140737488355328/\v.length+1<=4611686018427387904)<|
 J (.go (v++[(i64.wrap (Sd+(i64.wrap (m*U8)))).tmod b.Q]))) (λv=>v) (((c.take ((i64.wrap ((i64.wrap (7*(a.length:Int)))+1)).toNat)).drop ((i64.wrap ((i64.wrap (6*(a.length:Int)))+1)).toNat)).length) 0 Qj:Option ((List Int))).bind λA=>
 (vZ Q w b.Q).bind λa0B=>
 gd (b.Q≠0)<|
 gd ((A.length+1)*8<=140737488355328/\A.length+1<=4611686018427387904)<|
 J (cu.mk i.1 i.2.1 i.2.2.1 (cQ.mk (i.2.2.2.1++[K,L]) [m] (A++[(i64.wrap (G+(i64.wrap (m*a0B)))).tmod b.Q])))))))))))))
set_option maxHeartbeats 1000000 in
def zrr{i a1 a2 a3 a4 a5 a6 rx1}(hr:Hc i a1 a2 a3 a4 a5 a6=J rx1):aq zH 147 [(.sh,vE i),(.sh,.int .i64 a1),(.sh,.int .i64 a2),(.sh,vJ a3),(.sh,vC a4),(.sh,vC a5),(.sh,vC a6)] (Eo (vT rx1) M0):=by
 apply pF 527 [] [] [] [.cell 14 60] hr zG6 Tryz.func147;intro Φ ah b g;unfold Hc at b
 iterate 3 (try simp[go_sem,g];try intros;refine ba ?_)
 try simp[go_sem,g]
 try intros
 refine wE b Ui λz1 b=>?_
 refine wK [1,2,3,4,5,6,7,14,15,16,17] ?_;refine wZ (kD 0 [0,0,0,0,0,0,0,0,0,0,0,0,0,0,0,0,0]) follows ?_
 iterate 8 obtain⟨g,b⟩:=Rg g b
 refine wK [1,2,3,4,5,6,7,14,15,16,17,18,19,20] ?_;refine wZ (kD 0 [0,0,0,0,0,0,0,0,0,0,0,0,0,0,0,0,0,0,0,0,0]) follows ?_
 iterate 9 obtain⟨g,b⟩:=Rg g b
 refine wK [1,2,3,4,5,6,7,14,15,16,17,18,19,20,21,22,23] ?_;refine wZ (kD 0 [0,0,0,0,0,0,0,0,0,0,0,0,0,0,0,0,0,0,0,0,0,0,0,0,0,0,0,0,0,0,0]) follows ?_;obtain⟨x2,g,b⟩:=Rx g b
 iterate 6 obtain⟨g,b⟩:=Rg g b
 obtain⟨x3,g,b⟩:=Rx g b;refine wK [1,2,3,4,5,7,14,15,16,17,18,19,20,21,22,23,24,25,26,27] ?_;refine wE b zqe λz4 b=>?_
 refine wW ?_;refine wZ (kD 0 [58,0,58,0,0,0,225,226,3,3,3,0]) follows ?_;refine wE b E6 λz5 b=>?_
 refine wE b Cw λz6 b=>?_
 refine wE b zqg λz7 b=>?_
 refine wK [1,2,3,4,5,7,14,15,16,17,18,19,20,21,22,23,24,25,26,27,28,29] ?_;try simp[go_sem,g]
 try intros
 refine ba ?_;refine bE b [1,2,3,4,5,7,14,15,16,17,18,19,20,21,22,23,24,25,26,27,29] (λk=>[(28,.bl [vD k.1,vD k.2.1,vD k.2.2.1,vD k.2.2.2.1,vD k.2.2.2.2.1,vD k.2.2.2.2.2])]) (λk b=>?_) λ_ B3 b=>?_
 ·refine wE b zlS λmB b=>?_
  refine wK [1,2,3,4,5,7,14,15,16,17,18,19,20,21,22,23,24,25,26,27,28,29,31,32] ?_
  iterate 3 (try simp[go_sem,g];try intros;refine ba ?_)
  refine bE b [1,2,3,5,7,14,15,16,17,18,19,20,21,22,23,24,25,26,27,29,31] (λh=>[(28,.bl [vD h.1,vD h.2.1,vD h.2.2.1,vD h.2.2.2.1,vD h.2.2.2.2.1,vD h.2.2.2.2.2.1]),(33,.v (vD h.2.2.2.2.2.2.1)),(34,.v (vD h.2.2.2.2.2.2.2))]) (λh b=>?_) λ_ DR b=>?_
  ·refine wE b Fl λnW b=>?_
   refine wK [1,2,3,5,7,14,15,16,17,18,19,20,21,22,23,24,25,26,27,28,29,31,33,34,40,41] ?_;try simp[go_sem,g]
   try intros
   refine ba ?_;refine bE b [1,2,3,5,7,14,15,16,17,18,19,20,21,22,23,24,25,26,27,29,31,33,34,40,41] (λn=>[(28,.bl [vD n.1,vD n.2.1,vD n.2.2.1,vD n.2.2.2.1,vD n.2.2.2.2.1,vD n.2.2.2.2.2])]) (λn b=>?_) λ_ a4z b=>?_
   ·iterate 2 (try simp[go_sem,g];try intros;refine ba ?_)
    refine bE b [1,2,3,5,7,14,15,16,17,18,19,20,21,22,23,24,25,26,27,29,31,33,34,40,41] (λm=>[(28,.bl [vD m.1,vD m.2.1,vD m.2.2.1,vD m.2.2.2.1,vD m.2.2.2.2.1,vD m.2.2.2.2.2])]) (λm b=>?_) λ_ a46 b=>?_
    ·refine wZ (kD 0 [225,225,226,58,0,0,3,0,5,225,225,226]) follows ?_;refine wE b eP λXP b=>?_
     obtain⟨g,b⟩:=Rg g b;refine wK [1,2,3,5,7,14,15,16,17,18,19,20,21,22,23,24,25,26,27,28,29,31,33,34,40,41] ?_;try simp[go_sem,g]
     try intros
     refine ba ?_;refine bE b [1,3,5,7,14,15,16,17,18,19,20,21,22,23,24,25,26,27,29,31,33,34,40,41] (λl=>[(28,.bl [vD l.1,vD l.2.1,vD l.2.2.1,vD l.2.2.2.1,vD l.2.2.2.2.1,vD l.2.2.2.2.2])]) (λl b=>?_) λ_ a3m b=>?_
     ·refine wZ (kE [0,1,2,3,4,5,6,7,8,10,11,12,16,17,18,19,20,22,23,24,9,13,14,15,21,25,26,27,28,29,30,31,32] [225,225,226,58,58,57,58,0,0,58,0,0,58,58,0,0,0,58,0,0,3,3,0,6,3,3,0,6,0,5,225,225,226]) follows ?_;refine wE b eP λKt b=>?_
      refine wE b ph λKZ b=>?_
      refine wE b gW λDb b=>?_
      refine wE b eP λKU b=>?_
      refine wE b ph λJU b=>?_
      refine wE b gW λEh b=>?_
      obtain⟨g,b⟩:=Rg g b;refine wK [1,3,5,7,14,15,16,17,18,19,20,21,22,23,24,25,26,27,28,29,31,33,34] ?_;refine wE b zos λo b=>?_
      refine wW ?_;refine wK [5,14,15,16,18,19,20,21,22,23,24,25,26,27,28,29,31,33,34,46] ?_
      iterate 2 (try simp[go_sem,g];try intros;refine ba ?_)
      refine bE b [5,14,15,16,18,19,20,21,22,23,24,25,26,27,28,29,31,34,46] (λL=>[(47,.v (vD L))]) (λL b=>?_) λ_ a4I b=>?_
      ·try simp[go_sem,g]
       try intros
       refine ba ?_;refine bE b [5,14,15,16,19,20,21,23,24,25,26,27,28,29,34,46] (λN=>[(47,.v (vD N))]) (λN b=>?_) λ_ a4A b=>?_
       ·try simp[go_sem,g]
        try intros
        refine wK [5,14,15,16,19,20,23,24,25,26,27,28,29,34,46,47,432,433] ?_;refine bE b [5,14,15,16,19,20,24,25,26,27,28,29,46] (λE=>[(47,.v (vD E))]) (λE b=>?_) λ_ a17 b=>?_
        ·obtain⟨D5,g,b⟩:=gP g b;obtain⟨g,b⟩:=Rz g b;obtain⟨g,b⟩:=Rg g b;refine wK [5,14,16,19,25,26,27,28,29,46,47] ?_;try simp[go_sem,g]
         try intros
         refine ba ?_;refine bE b [5,14,16,19,25,26,27,28,29,46] (λM=>[(47,.v (vD M))]) (λM b=>?_) λ_ a19 b=>?_
         ·try simp[go_sem,g]
          try intros
          refine ba ?_;refine bE b [5,14,16,27,28,29,46] (λF=>[(47,.v (vD F))]) (λF b=>?_) λ_ a4i b=>?_
          ·refine wE b Rq λa0B b=>?_
           obtain⟨g,b⟩:=Rz g b;obtain⟨g,b⟩:=Rg g b;refine wK [14,28] ?_;exact wl ah b
          refine wB ?_;obtain⟨a6h,a45,a47⟩:=b;refine bG a45 [5,14,16,19,26,27,28,29,46,490] (λK t=>[(47,.v (vD t)),(491,.v (.int .i64 K))]) (λt _ a2s=>?_) λK t _ _ T y a6G a24 b=>?_
          ·exact wn a2s (a4i _) a47
          have a0Z:=y;try simp at a0Z
          refine wW ?_;refine wt ?_ (hb:=by simp[go_sem,g,T,y,a0Z]<;>omega);refine wW ?_;refine wB ?_;refine wW ?_;refine wZ (kD 0 [0,0,0,0,0,0,0,0,0,0,0,0,0,0,0,5,0]) follows ?_;obtain⟨Sd,g,b⟩:=gP g b;obtain⟨U8,g,b⟩:=gP g b;obtain⟨g,b⟩:=Rz g b;obtain⟨g,b⟩:=Rg g b;refine wK [5,14,16,19,26,27,28,29,46,47,490,491] ?_;exact wT (a24 (t++[(i64.wrap (Sd+(i64.wrap (o*U8)))).tmod i.Q])) (ai b) (a:=by simp[go_sem,g,uS T y (by first|assumption|(simp;assumption)|(simp;omega))])
         refine wB ?_;obtain⟨a6q,a2I,a43⟩:=b;refine bG a2I [5,14,16,19,25,26,27,28,29,46,468] (λG r=>[(47,.v (vD r)),(469,.v (.int .i64 G))]) (λr _ a4M=>?_) λG r _ _ a0W x a6k a2o b=>?_
         ·exact wn a4M (a19 _) a43
         have a0S:=x;try simp at a0S
         refine wW ?_;refine wt ?_ (hb:=by simp[go_sem,g,a0W,x,a0S]<;>omega);refine wW ?_;refine wB ?_;refine wW ?_;refine wZ (kD 0 [0,0,0,0,0,0,0,0,0,0,0,0,0,0,0,5,0]) follows ?_;obtain⟨Vr,g,b⟩:=gP g b;obtain⟨QO,g,b⟩:=Rx g b;obtain⟨g,b⟩:=Rz g b;obtain⟨g,b⟩:=Rg g b;refine wK [5,14,16,19,25,26,27,28,29,46,47,468,469] ?_;exact wT (a2o (r++[(i64.wrap (Vr+(i64.wrap (o*QO)))).tmod i.Q])) (ai b) (a:=by simp[go_sem,g,uS a0W x (by first|assumption|(simp;assumption)|(simp;omega))])
        refine wB ?_;obtain⟨a6c,a25,a4k⟩:=b;refine bG a25 [5,14,15,16,19,20,23,24,25,26,27,28,29,34,46,432] (λI s=>[(47,.v (vD s)),(433,.v (.int .i64 I))]) (λs _ a4w=>?_) λI s _ _ Q A a6D a29 b=>?_
        ·exact wn a4w (a17 _) a4k
        have a1q:=A;try simp at a1q
        refine wW ?_;refine wt ?_ (hb:=by simp[go_sem,g,Q,A,a1q]<;>omega);refine wW ?_;refine wB ?_;refine wW ?_;refine wZ (kD 0 [0,0,0,0,0,0,0,0,0,0,0,0,0,0,0,5,0]) follows ?_;obtain⟨QP,g,b⟩:=gP g b;obtain⟨Us,g,b⟩:=Rx g b;obtain⟨g,b⟩:=Rz g b;obtain⟨g,b⟩:=Rg g b;refine wK [5,14,15,16,19,20,23,24,25,26,27,28,29,34,46,47,432,433] ?_;exact wT (a29 (s++[(i64.wrap (QP+(i64.wrap (o*Us)))).tmod i.Q])) (ai b) (a:=by simp[go_sem,g,uS Q A (by first|assumption|(simp;assumption)|(simp;omega))])
       refine wB ?_;obtain⟨a50,a4p,a2p⟩:=b;refine bG a4p [5,14,15,16,18,19,20,21,22,23,24,25,26,27,28,29,31,34,46,401] (λwU p=>[(47,.v (vD p)),(402,.v (.int .i64 wU))]) (λp _ a3R=>?_) λwU p _ _ R v a6l a5B b=>?_
       ·exact wn a3R (a4A _) a2p
       have X:=v;try simp at X
       refine wW ?_;refine wt ?_ (hb:=by simp[go_sem,g,R,v,X]<;>omega);refine wW ?_;refine wB ?_;refine wK [5,14,15,16,18,19,20,21,22,23,24,25,26,27,28,29,31,34,46,47,49,401,402] ?_;refine wZ (kD 0 [0,0,0,0,0,0,0,0,0,0,0,0,0,0,0,0,0,0,0,0,0,0,0,0,5,0]) follows ?_;obtain⟨H3,g,b⟩:=gP g b;obtain⟨KC,g,b⟩:=gP g b;obtain⟨Iq,g,b⟩:=gP g b
       iterate 2 obtain⟨g,b⟩:=Rz g b
       obtain⟨g,b⟩:=Rg g b;refine wK [5,14,15,16,18,19,20,21,22,23,24,25,26,27,28,29,31,34,46,47,401,402] ?_;exact wT (a5B (p++[(i64.wrap (H3+(i64.wrap (o*((i64.wrap ((i64.wrap (mB.1*KC))+Iq)).tmod i.Q))))).tmod i.Q])) (ai b) (a:=by simp[go_sem,g,uS R v (by first|assumption|(simp;assumption)|(simp;omega))])
      refine wB ?_;obtain⟨a6H,a5E,a5v⟩:=b;refine bG a5E [5,14,15,16,18,19,20,21,22,23,24,25,26,27,28,29,31,33,34,46,379] (λD q=>[(47,.v (vD q)),(380,.v (.int .i64 D))]) (λq _ a5e=>?_) λD q _ _ U w a6g a49 b=>?_
      ·exact wn a5e (a4I _) a5v
      have W:=w;try simp at W
      refine wW ?_;refine wt ?_ (hb:=by simp[go_sem,g,U,w,W]<;>omega);refine wW ?_;refine wB ?_;refine wW ?_;refine wZ (kD 0 [0,0,0,0,0,0,0,0,0,0,0,0,0,0,0,5,0]) follows ?_;obtain⟨IG,g,b⟩:=gP g b;obtain⟨Lm,g,b⟩:=Rx g b;obtain⟨g,b⟩:=Rz g b;obtain⟨g,b⟩:=Rg g b;refine wK [5,14,15,16,18,19,20,21,22,23,24,25,26,27,28,29,31,33,34,46,47,379,380] ?_;exact wT (a49 (q++[(i64.wrap (IG+(i64.wrap (o*Lm)))).tmod i.Q])) (ai b) (a:=by simp[go_sem,g,uS U w (by first|assumption|(simp;assumption)|(simp;omega))])
     refine wB ?_;obtain⟨a54,a4e,VW⟩:=b;refine bG a4e [1,2,3,5,7,14,15,16,17,18,19,20,21,22,23,24,25,26,27,29,31,33,34,40,41,313] (λuA e=>[(28,.bl [vD e.1,vD e.2.1,vD e.2.2.1,vD e.2.2.2.1,vD e.2.2.2.2.1,vD e.2.2.2.2.2]),(314,.v (.int .i64 uA))]) (λe _ a4O=>?_) λuA e _ _ H u a4Z U9 b=>?_
     ·exact wn a4O (a3m _) VW
     have P:=u;try simp at P
     refine wW ?_;refine wt ?_ (hb:=by simp[go_sem,g,H,u,P]<;>omega);refine wW ?_;refine wB ?_;refine wW ?_;refine wZ (kD 0 [225,225,226,58,0,0,0,0,0,0,0,0,0,3,0,5,225,225,226]) follows ?_;obtain⟨IB,g,b⟩:=gP g b;obtain⟨WK,g,b⟩:=gP g b;refine wE b D2 λTG b=>?_
     obtain⟨g,b⟩:=Rg g b;refine wK [1,2,3,5,7,14,15,16,17,18,19,20,21,22,23,24,25,26,27,28,29,31,33,34,40,41,313,314] ?_;exact wT (U9 (e.1,e.2.1,e.2.2.1,e.2.2.2.1++[TG],e.2.2.2.2.1,e.2.2.2.2.2)) (ai b) (a:=by simp[go_sem,g,uS H u (by first|assumption|(simp;assumption)|(simp;omega))])
    refine wB ?_;obtain⟨a6n,a3l,a3K⟩:=b;refine bG a3l [1,2,3,5,7,14,15,16,17,18,19,20,21,22,23,24,25,26,27,29,31,33,34,40,41,267] (λvv c=>[(28,.bl [vD c.1,vD c.2.1,vD c.2.2.1,vD c.2.2.2.1,vD c.2.2.2.2.1,vD c.2.2.2.2.2.1]),(43,.v (.int .i64 c.2.2.2.2.2.2)),(268,.v (.int .i64 vv))]) (λc _ a2L=>?_) λvv c _ _ a0o B a6J a2k b=>?_
    ·exact wn a2L (a46 _) a3K
    have S:=B;try simp at S
    refine wK [1,2,3,5,7,14,15,16,17,18,19,20,21,22,23,24,25,26,27,28,29,31,33,34,40,41,43,267,268,269] ?_;refine wt ?_ (hb:=by simp[go_sem,g,a0o,B,S]<;>omega);refine wW ?_;refine wB ?_;refine wW ?_;refine wZ (kE [0,1,2,3,4,5,6,7,8,9,11,12,13,14,15,16,10,17,18,19,20,21,22,23,24] [225,225,226,58,58,0,0,0,0,0,58,0,0,0,0,0,4,3,0,6,0,5,225,225,226]) follows ?_;obtain⟨Pt,g,b⟩:=gP g b;obtain⟨OD,g,b⟩:=gP g b;refine wD b eP λP2 b=>?_
    refine wE b eP λPJ b=>?_
    refine wE b gW λLt b=>?_
    obtain⟨g,b⟩:=Rg g b;refine wK [1,2,3,5,7,14,15,16,17,18,19,20,21,22,23,24,25,26,27,28,29,31,33,34,40,41,44,267,268] ?_;obtain⟨J2,g,b⟩:=Rx g b;refine wW ?_;exact wT (a2k (c.1,c.2.1,c.2.2.1,c.2.2.2.1++[Lt],c.2.2.2.2.1,c.2.2.2.2.2.1,J2)) (ai b) (a:=by simp[go_sem,g,uS a0o B (by first|assumption|(simp;assumption)|(simp;omega))])
   refine wB ?_;obtain⟨b95,a2t,a3d⟩:=b;refine bG a2t [1,2,3,5,7,14,15,16,17,18,19,20,21,22,23,24,25,26,27,29,31,33,34,40,41,241] (λC d=>[(28,.bl [vD d.1,vD d.2.1,vD d.2.2.1,vD d.2.2.2.1,vD d.2.2.2.2.1,vD d.2.2.2.2.2]),(242,.v (.int .i64 C))]) (λd _ a5d=>?_) λC d _ _ Y z a53 a4q b=>?_
   ·exact wn a5d (a4z _) a3d
   have a07:=z;try simp at a07
   refine wW ?_;refine wt ?_ (hb:=by simp[go_sem,g,Y,z,a07]<;>omega);refine wW ?_;refine wB ?_;refine wW ?_;refine wZ (kD 0 [225,225,226,58,0,0,0,0,0,0,0,0,0,3,0,5,225,225,226]) follows ?_;obtain⟨jm,g,b⟩:=gP g b;obtain⟨jJ,g,b⟩:=gP g b;refine wE b D2 λpB b=>?_
   obtain⟨g,b⟩:=Rg g b;refine wK [1,2,3,5,7,14,15,16,17,18,19,20,21,22,23,24,25,26,27,28,29,31,33,34,40,41,241,242] ?_;exact wT (a4q (d.1,d.2.1,d.2.2.1,d.2.2.2.1++[pB],d.2.2.2.2.1,d.2.2.2.2.2)) (ai b) (a:=by simp[go_sem,g,uS Y z (by first|assumption|(simp;assumption)|(simp;omega))])
  refine wB ?_;obtain⟨b65,a37,a21⟩:=b;refine bG a37 [1,2,3,5,7,14,15,16,17,18,19,20,21,22,23,24,25,26,27,29,31,32,173,174] (λvf f=>[(28,.bl [vD f.1,vD f.2.1,vD f.2.2.1,vD f.2.2.2.1,vD f.2.2.2.2.1,vD f.2.2.2.2.2.1]),(33,.v (vD f.2.2.2.2.2.2.1)),(34,.v (vD f.2.2.2.2.2.2.2.1)),(35,.v (.int .i64 f.2.2.2.2.2.2.2.2.1)),(36,.v (.int .i64 f.2.2.2.2.2.2.2.2.2)),(175,.v (.int .i64 vf))]) (λf _ a5f=>?_) λvf f _ _ a0c a1b a6F a3s b=>?_
  ·exact wn a5f (DR _) a21
  refine wW ?_;refine wu a0c a1b ?_;refine wW ?_;refine wB ?_;obtain⟨pH,g,b⟩:=Rx g b;refine wK [1,2,3,5,7,14,15,16,17,18,19,20,21,22,23,24,25,26,27,28,29,31,32,33,34,35,36,37,38,173,174,175] ?_;refine wZ (kD 0 [0,0,0,0,0,0,0,0,0,0,0,0,0,0,3,0]) follows ?_;obtain⟨g,b⟩:=Rz g b;obtain⟨M1,g,b⟩:=Rx g b;refine wE b HW λrq b=>?_
  refine wK [1,2,3,5,7,14,15,16,17,18,19,20,21,22,23,24,25,26,27,28,29,31,32,33,34,35,36,37,39,173,174,175] ?_;obtain⟨g,b⟩:=Rg g b;obtain⟨g,b⟩:=Rz g b;refine wW ?_;refine wK [1,2,3,5,7,14,15,16,17,18,19,20,21,22,23,24,25,26,27,28,29,31,32,33,34,35,36,37,39,173,174,175] ?_;refine wZ (kD 0 [225,226,58,0,0,0,0,0,0,3,0,5,225,226]) follows ?_;obtain⟨rN,g,b⟩:=gP g b;refine wE b D2 λxQ b=>?_
  obtain⟨g,b⟩:=Rg g b;refine wK [1,2,3,5,7,14,15,16,17,18,19,20,21,22,23,24,25,26,27,28,29,31,32,33,34,35,36,37,39,173,174,175] ?_;refine wE b HW λoX b=>?_
  obtain⟨g,b⟩:=Rg g b;refine wK [1,2,3,5,7,14,15,16,17,18,19,20,21,22,23,24,25,26,27,28,29,31,32,33,34,35,37,173,174,175] ?_;refine wW ?_;exact wi a0c a1b (a3s _) (ai b)
 refine wB ?_;obtain⟨b31,a4V,IX⟩:=b;refine bG a4V [1,2,3,4,5,7,14,15,16,17,18,19,20,21,22,23,24,25,26,27,29,140] (λkc j=>[(28,.bl [vD j.1,vD j.2.1,vD j.2.2.1,vD j.2.2.2.1,vD j.2.2.2.2.1,vD j.2.2.2.2.2]),(141,.v (.int .i64 kc))]) (λj _ a3p=>?_) λkc j _ _ nJ zP a0x Ik b=>?_
 ·exact wn a3p (B3 _) IX
 refine wW ?_;refine wu nJ zP ?_;refine wW ?_;refine wB ?_;refine wW ?_;refine wZ (kD 0 [225,226,58,0,0,0,0,0,0,0,0,0,3,0,5,225,226]) follows ?_;obtain⟨jW,g,b⟩:=Rx g b;obtain⟨d4,g,b⟩:=gP g b;refine wE b D2 λgw b=>?_
 obtain⟨g,b⟩:=Rg g b;refine wK [1,2,3,4,5,7,14,15,16,17,18,19,20,21,22,23,24,25,26,27,28,29,140,141] ?_;exact wi nJ zP (Ik _) (ai b)
def zI(a:am)(e:Int)(b:List ao)(f:List Int)(c:List Int)(d:List Int):Option (cu×Bool):=
 (((qj a e b).bind λk=>
 if(!k)=O then(
 J O)else(
 (EC f (b.length:Int)).bind λl=>
 if(!l)=O then(
 J O)else(
 if((c.length:Int) !=(b.length:Int))=O then(
 J O)else(
 (sF a c).bind λm=>
 if(!m)=O then(
 J O)else(
 if((d.length:Int) !=(i64.wrap ((i64.wrap (8*(b.length:Int)))+2)))=O then(
 J O)else(
 (sF a d).bind λh=>
 J (!h)))))):Option Bool).bind λj=>
 if j=O then(
 J ((cu.mk [] [] [] (cQ.mk [] [] [])),Z))else(
 (Gq a).bind λg=>
 if(!g.2)=O then(
 J ((cu.mk [] [] [] (cQ.mk [] [] [])),Z))else(
 (Hc a e g.1 b f c d).bind λi=>
 J (i,O))))
def zoZ{j k l m n o r}(s:zI j k l m n o=J r):aq zH 100 [(.sh,vE j),(.sh,.int .i64 k),(.sh,vJ l),(.sh,vC m),(.sh,vC n),(.sh,vC o)] (Eo (.bR [vT r.1,.bool r.2]) qr):=by
 apply pF 73 [] [] [] [.cell 12 60,.tmp 13] s zGV Tryz.func100;intro A f a g;unfold zI at a
 iterate 2 (try simp[go_sem,g];try intros;refine ba ?_)
 refine bE a [1,2,3,4,5,6,12] (λp=>[(55,.v (.bool p))]) (λp a=>?_) λ_ b a=>?_
 ·refine wI a (λq a=>?_) λq a=>?_
  ·exact wl f a
  refine wW ?_;refine wE a zm0 λv a=>?_
  refine wK [1,2,3,4,5,6,12,15,16] ?_;refine wW ?_;refine wI a (λt a=>?_) λt a=>?_
  ·exact wl f a
  refine wW ?_;refine wE a zrr λw a=>?_
  refine wK [12,13] ?_;exact wm f a
 refine wE a D4 λx a=>?_
 refine wG a (λd a=>?_) λd a=>?_
 ·exact wV d (b _) (ai a)
 try simp[go_sem,g,d]
 refine wE a X6 λy a=>?_
 try simp[go_sem,g,d]
 refine wG a (λi a=>?_) λi a=>?_
 ·exact wV i (b _) (ai a)
 try simp[go_sem,g,i]
 try intros
 refine wG a (λe a=>?_) λe a=>?_
 ·exact wV e (b _) (ai a)
 try simp[go_sem,g,e]
 refine wE a Df λz a=>?_
 try simp[go_sem,g,e]
 refine wG a (λh a=>?_) λh a=>?_
 ·exact wV h (b _) (ai a)
 try simp[go_sem,g,h]
 try intros
 refine wG a (λc a=>?_) λc a=>?_
 ·exact wV c (b _) (ai a)
 try simp[go_sem,g,c]
 refine wE a Df λu a=>?_
 exact wV c (b _) (ai a)
def AJ(f:am)(g:Int)(a:List ao)(h:Int)(i:List Int)(b:List Int):Option bZ:=
 gd (0<=(a.length:Int))<|
 gd (0<=a.length/\a.length<=b.length)<|
 (Ck f g a i ((b.take a.length).drop 0)).bind λj=>
 ((if(h==1)=O then(
 gd (0<=(a.length:Int))<|
 gd (0<=a.length/\a.length<=b.length)<|
 gd (0<=(a.length:Int))<|
 gd (a.length<=b.length/\b.length<=b.length)<|
 (wg f g a i ((b.take a.length).drop 0) ((b.take b.length).drop a.length)).bind λe=>
 J (h,j,e.1.cC,e.1.aH,e.1.Pi.aF,e.1.Pi.aX,e.1.Pi.aG,[],[],[],[],[],[]))else(
 gd (0<=(a.length:Int))<|
 gd (0<=a.length/\a.length<=b.length)<|
 gd (0<=(a.length:Int))<|
 gd (a.length<=b.length/\b.length<=b.length)<|
 (zI f g a i ((b.take a.length).drop 0) ((b.take b.length).drop a.length)).bind λd=>
 J (h,j,[],[],[],[],[],d.1.bX,d.1.bN,d.1.aH,d.1.Pi.aF,d.1.Pi.aX,d.1.Pi.aG)):Option ((Int×List ao×List Int×List Int×List Int×List Int×List Int×List Int×List Int×List Int×List Int×List Int×List Int))).bind λc=>
 J (bZ.mk c.1 c.2.1 (cO.mk c.2.2.1 c.2.2.2.1 (cQ.mk c.2.2.2.2.1 c.2.2.2.2.2.1 c.2.2.2.2.2.2.1)) (cu.mk c.2.2.2.2.2.2.2.1 c.2.2.2.2.2.2.2.2.1 c.2.2.2.2.2.2.2.2.2.1 (cQ.mk c.2.2.2.2.2.2.2.2.2.2.1 c.2.2.2.2.2.2.2.2.2.2.2.1 c.2.2.2.2.2.2.2.2.2.2.2.2))))
def zrj{c d e f h i r}(m:AJ c d e f h i=J r):aq zH 62 [(.sh,vE c),(.sh,.int .i64 d),(.sh,vJ e),(.sh,.int .i64 f),(.sh,vC h),(.sh,vC i)] (Eo (vU r) qr):=by
 apply pF 60 [] [] [] [.cell 12 62] m zL2 Tryz.func62;intro q k a g;unfold AJ at a
 iterate 2 (try simp[go_sem,g];try intros;refine ba ?_)
 refine wZ (kE [0,1,2,3,4,5,6,7,10,8,9,11] [0,50,0,0,0,0,0,0,0,3,0,114]) follows ?_
 iterate 2 obtain⟨g,a⟩:=Rg g a
 refine wE a Ui λn a=>?_
 refine wK [1,2,3,4,5,6,12,13,14] ?_;refine wW ?_;refine wJ a (λb=>[(12,.bl [.int .i64 0,.sl O 2 [],.sl O 1 [],.sl O 1 [],.sl O 1 [],.sl O 1 [],.sl O 1 [],.sl O 1 [],.sl O 1 [],.sl O 1 [],.sl O 1 [],.sl O 1 [],.sl O 1 []]),(14,.bl [.int .i64 b.1,vG b.2.1,vD b.2.2.1,vD b.2.2.2.1,vD b.2.2.2.2.1,vD b.2.2.2.2.2.1,vD b.2.2.2.2.2.2.1,vD b.2.2.2.2.2.2.2.1,vD b.2.2.2.2.2.2.2.2.1,vD b.2.2.2.2.2.2.2.2.2.1,vD b.2.2.2.2.2.2.2.2.2.2.1,vD b.2.2.2.2.2.2.2.2.2.2.2.1,vD b.2.2.2.2.2.2.2.2.2.2.2.2])]) (λb a=>?_) λ_ j a=>?_
 ·exact wl k a
 refine wI a (λl a=>?_) λl a=>?_
 ·refine wZ (kD 0 [50,0,0,0,0,0,0,0,0,0,3,0,0,0,113,114]) follows ?_
  iterate 4 obtain⟨g,a⟩:=Rg g a
  refine wE a znh λo a=>?_
  exact wT (j _) (ai a)
 refine wZ (kD 0 [50,0,0,0,0,0,0,0,0,0,3,0,0,0,113,114]) follows ?_
 iterate 4 obtain⟨g,a⟩:=Rg g a
 refine wE a zoZ λp a=>?_
 exact wT (j _) (ai a)
def uh(b:am)(e:Int)(a:List ao)(f:Int)(c:List Int)(d:List Int):Option (bZ×Bool):=
 (EJ f (a.length:Int)).bind λg=>
 ((if(!g.2)=O then(
 J O)else(
 (nr b e a).bind λk=>
 if(!k)=O then(
 J O)else(
 if((c.length:Int) !=(a.length:Int))=O then(
 J O)else(
 (Cz c).bind λl=>
 if(!l)=O then(
 J O)else(
 if((d.length:Int) !=g.1)=O then(
 J O)else(
 (sF b d).bind λh=>
 J (!h)))))):Option Bool).bind λj=>
 if j=O then(
 J ((bZ.mk 0 [] (cO.mk [] [] (cQ.mk [] [] [])) (cu.mk [] [] [] (cQ.mk [] [] []))),Z))else(
 (AJ b e a f c d).bind λi=>
 J (i,O)))
def zpr{i j k l m n r}(s:uh i j k l m n=J r):aq zH 22 [(.sh,vE i),(.sh,.int .i64 j),(.sh,vJ k),(.sh,.int .i64 l),(.sh,vC m),(.sh,vC n)] (Eo (.bR [vU r.1,.bool r.2]) qr):=by
 apply pF 64 [] [] [] [.cell 12 62,.tmp 13] s zM5 Tryz.func22;intro y o a g;unfold uh at a;try simp[go_sem,g]
 try intros
 refine ba ?_;try simp[go_sem,g]
 try intros
 refine wE a Xc λv a=>?_
 refine wK [1,2,3,4,5,6,12,14,15] ?_;refine bE a [1,2,3,4,5,6,12] (λp=>[(55,.v (.bool p))]) (λp a=>?_) λ_ b a=>?_
 ·refine wI a (λq a=>?_) λq a=>?_
  ·exact wl o a
  refine wW ?_;refine wE a zrj λu a=>?_
  exact wl o a
 refine wG a (λd a=>?_) λd a=>?_
 ·exact wV d (b _) (ai a)
 try simp[go_sem,g,d]
 refine wE a Ty λw a=>?_
 try simp[go_sem,g,d]
 refine wG a (λh a=>?_) λh a=>?_
 ·exact wV h (b _) (ai a)
 try simp[go_sem,g,h]
 try intros
 refine wG a (λe a=>?_) λe a=>?_
 ·exact wV e (b _) (ai a)
 try simp[go_sem,g,e]
 refine wE a znA λx a=>?_
 try simp[go_sem,g,e]
 refine wG a (λf a=>?_) λf a=>?_
 ·exact wV f (b _) (ai a)
 try simp[go_sem,g,f]
 try intros
 refine wG a (λc a=>?_) λc a=>?_
 ·exact wV c (b _) (ai a)
 try simp[go_sem,g,c]
 refine wE a Df λt a=>?_
 exact wV c (b _) (ai a)
def EQ(e:am)(f:Int)(g:List ao)(b:List Int)(h:(List (List Int)))(i:(List (List Int))):Option (List bZ×Bool):=
 (((nr e f g).bind λo=>
 if(!o)=O then(
 J O)else(
 if decide (6<(b.length:Int))=O then(
 J O)else(
 if((h.length:Int) !=(b.length:Int))=O then(
 J O)else(
 J ((i.length:Int) !=(b.length:Int))))):Option Bool).bind λn=>
 if n=O then(
 J ([],Z))else(
 ((aO (σ:=(List ao)×List bZ) (λd a=>
 (ix b d).bind λk=>
 (ix h d).bind λl=>
 (ix i d).bind λm=>
 (uh e f a.1 k l m).bind λc=>
 if(!c.2)=O then(
 J (.out (.inr ([],Z))))else(
 gd ((a.2.length+1)*296<=140737488355328/\a.2.length+1<=4611686018427387904)<|
 J (.go (c.1.Out,a.2++[c.1])))) (λa=>.inl a.2) (b.length) 0 (g,[]):Option ((List bZ) ⊕ (List bZ×Bool))).bind (Sum.elim (λj=>
 J (j,O)) J))))
def YB{l m n o p q r}(B:EQ l m n o p q=J r):aq zH 7 [(.sh,vE l),(.sh,.int .i64 m),(.sh,vJ n),(.sh,vC o),(.sh,vL p),(.sh,vL q)] (Eo (.bR [vQ r.1,.bool r.2]) qr):=by
 apply pF 76 [] [69] [] [.tmp 12,.tmp 13] B cl7 Tryz.func7;intro L d a g;unfold EQ at a;refine wW ?_;refine bE a [1,2,3,4,5,6] (λu=>[(42,.v (.bool u))]) (λu a=>?_) λ_ b a=>?_
 ·refine wI a (λA a=>?_) λA a=>?_
  ·exact wl d a
  iterate 3 (try simp[go_sem,g];try intros;refine ba ?_)
  refine wS a (λs=>[(14,.v (vQ s))]) (λs a=>?_) λ_ D y a=>?_
  ·refine wK [12,13] ?_;exact wm d a
  refine wB ?_;obtain⟨E,v,j⟩:=a;refine bG v [1,4,5,6,43,44] (λt c=>[(2,.v (vJ c.1)),(14,.v (vQ c.2)),(45,.v (.int .i64 t))]) (λc _ w=>?_) λt c _ _ i k x z a=>?_
  ·exact wn w (D _) j
  refine wW ?_;refine wu i k ?_;refine wW ?_;refine wB ?_;obtain⟨F,g,a⟩:=Rx g a;refine wK [1,2,4,5,6,14,15,16,43,44,45] ?_;refine wZ (kE [0,1,2,3,4,5,6,7,8,9,10,11,16,12,13,14,15,17,18] [50,0,0,0,0,0,0,0,0,0,0,0,0,3,0,0,0,138,0]) follows ?_;obtain⟨G,g,a⟩:=Rx g a;obtain⟨I,g,a⟩:=Rx g a;refine wE a zpr λH a=>?_
  refine wK [1,4,5,6,14,17,18,43,44,45] ?_;refine wW ?_;refine wI a (λC a=>?_) λC a=>?_
  ·cases x _ (ai a);cases d _ (y _ j);refine wW ?_;try simp[go_sem,g]
  obtain⟨g,a⟩:=Rg g a
  iterate 2 refine wW ?_
  refine wK [1,2,4,5,6,14,43,44,45] ?_;exact wi i k (z _) (ai a)
 refine wE a Ty λK a=>?_
 refine wG a (λe a=>?_) λe a=>?_
 ·exact wV e (b _) (ai a)
 try simp[go_sem,g,e]
 try intros
 refine wG a (λf a=>?_) λf a=>?_
 ·exact wV f (b _) (ai a)
 try simp[go_sem,g,f]
 try intros
 refine wG a (λh a=>?_) λh a=>?_
 ·exact wV h (b _) (ai a)
 try simp[go_sem,g,h]
 try intros
 exact wT (b _) (ai a)
def Kv(a:Int)(b:am):Option Bool:=
 (Bw b a).bind λc=>
 J (!c)
def ziL{b c r}(e:Kv b c=J r):aq zH 79 [(.sh,.int .i64 b),(.sh,.fp [.func (.func 50) [vE c] []])] (Eo (.bool r) cM):=by
 apply pF 8 [] [] [] [.tmp 3] e Nm Tryz.func79;intro h d a g;unfold Kv at a;refine wW ?_;refine wE a MZ λf a=>?_
 exact wl d a
def MW(a:List Int)(e:am):Option Int:=
 ((aO (σ:=Unit) (λb f=>
 (ix a b).bind λc=>
 (Kv c e).bind λd=>
 if d=O then(
 J (.out (.inr b)))else(
 J (.go ()))) (λf=>.inl ()) (a.length) 0 ():Option (Unit ⊕ Int)).bind (Sum.elim (λg=>
 J (-1)) J))
def zfa{b i r}(q:MW b i=J r):aq zH 112 [(.sh,vC b),(.sh,.func (.func 79) [] [.fp [.func (.func 50) [vE i] []]])] (Eo (.int .i64 r) cM):=by
 apply pF 19 [] [] [] [.tmp 4] q Nq Tryz.func112;intro x c a g;unfold MW at a
 iterate 2 (try simp[go_sem,g];try intros;refine ba ?_)
 refine wS a (λt=>[]) (λt a=>?_) λ_ k o a=>?_
 ·exact wl c a
 refine wB ?_;obtain⟨w,p,e⟩:=a;refine bG p [0,1,7] (λh j=>[(8,.v (.int .i64 h))]) (λj _ s=>?_) λh j _ _ f d m l a=>?_
 ·exact wn s (k _) e
 refine wW ?_;refine wu f d ?_;refine wW ?_;refine wB ?_;obtain⟨u,g,a⟩:=Rx g a;refine wW ?_;refine wE a ziL λv a=>?_
 refine wK [0,1,5,7,8,16] ?_;refine wI a (λn a=>?_) λn a=>?_
 ·cases m _ (ai a);cases c _ (o _ e);refine wW ?_;try simp[go_sem,g]
 refine wW ?_;exact wi f d (l _) (ai a)
def NT(a:List Int)(b:am):Option Bool:=
 (MW a b).bind λc=>
 J (decide (0<=c))
def zeM{b c r}(e:NT b c=J r):aq zH 78 [(.sh,vC b),(.sh,.func (.func 79) [] [.fp [.func (.func 50) [vE c] []]])] (Eo (.bool r) cM):=by
 apply pF 9 [] [] [] [.tmp 4] e Nh Tryz.func78;intro h d a g;unfold NT at a;refine wW ?_;refine wE a zfa λf a=>?_
 exact wl d a
def Nu(a:List Int)(b:am):Option Bool:=
 (NT a b).bind λc=>
 J (!c)
def zi4{b c r}(e:Nu b c=J r):aq zH 39 [(.sh,vC b),(.sh,.func (.func 50) [vE c] [])] (Eo (.bool r) cM):=by
 apply pF 9 [] [] [1000000] [.tmp 4] e NU Tryz.func39;intro h d a g;unfold Nu at a;refine wW ?_;refine wE a zeM λf a=>?_
 exact wl d a
def t6(a:am)(b:List Int):Option Bool:=
 (Nu b a).bind λc=>
 J c
def D9{b c r}(e:t6 b c=J r):aq zH 185 [(.sh,vE b),(.sh,vC c)] (Eo (.bool r) cM):=by
 apply pF 9 [] [] [] [.tmp 4] e zHl Tryz.func185;intro h d a g;unfold t6 at a;refine wW ?_;refine wE a zi4 λf a=>?_
 exact wl d a
def L6(b:am)(a:cO)(c:Int):Option Bool:=
 ((if((a.cC.length:Int)==c)=O then(
 if((a.aH.length:Int)==c)=O then(
 if((a.Pi.aF.length:Int)==(i64.wrap (c+5)))=O then(
 if((a.Pi.aX.length:Int)==1)=O then(
 if((a.Pi.aG.length:Int)==(i64.wrap ((i64.wrap (2*c))+4)))=O then(
 (t6 b a.cC).bind λh=>
 if h=O then(
 (t6 b a.aH).bind λd=>
 if d=O then(
 (t6 b a.Pi.aF).bind λe=>
 if e=O then(
 (xF b a.Pi.aG).bind λf=>
 J f)else(
 J Z))else(
 J Z))else(
 J Z))else(
 J Z))else(
 J Z))else(
 J Z))else(
 J Z))else(
 J Z):Option Bool).bind λg=>
 J g)
def zj3{l m n r}(q:L6 l m n=J r):aq zH 148 [(.sh,vE l),(.sh,vN m),(.sh,.int .i64 n)] (Eo (.bool r) gJ):=by
 apply pF 71 [] [] [] [.tmp 6] q zGx Tryz.func148;intro w p a g;unfold L6 at a;refine wW ?_;refine wJ a (λo=>[(6,.v (.bool o))]) (λo a=>?_) λ_ b a=>?_
 ·exact wm p a
 try simp[go_sem,g]
 try intros
 refine wG a (λh a=>?_) λh a=>?_
 ·try simp[go_sem,g,h]
  try intros
  refine wG a (λi a=>?_) λi a=>?_
  ·try simp[go_sem,g,i]
   try intros
   refine wG a (λj a=>?_) λj a=>?_
   ·try simp[go_sem,g,j]
    try intros
    refine wG a (λk a=>?_) λk a=>?_
    ·try simp[go_sem,g,k]
     try intros
     refine wG a (λf a=>?_) λf a=>?_
     ·try simp[go_sem,g,f]
      refine wE a D9 λv a=>?_
      try simp[go_sem,g,f]
      refine wG a (λc a=>?_) λc a=>?_
      ·try simp[go_sem,g,c]
       refine wE a D9 λs a=>?_
       try simp[go_sem,g,c]
       refine wG a (λe a=>?_) λe a=>?_
       ·try simp[go_sem,g,e]
        refine wE a D9 λt a=>?_
        try simp[go_sem,g,e]
        refine wG a (λd a=>?_) λd a=>?_
        ·try simp[go_sem,g,d]
         refine wE a Ib λu a=>?_
         exact wV d (b _) (ai a)
        exact wV d (b _) (ai a)
       exact wV e (b _) (ai a)
      exact wV c (b _) (ai a)
     exact wV f (b _) (ai a)
    exact wV k (b _) (ai a)
   exact wV j (b _) (ai a)
  exact wV i (b _) (ai a)
 exact wV h (b _) (ai a)
def Ny(a:am)(b:Int):Option Int:=
 (cW a b (-1)).bind λc=>
 J c
def zoI{b c r}(e:Ny b c=J r):aq zH 186 [(.sh,vE b),(.sh,.int .i64 c)] (Eo (.int .i64 r) cM):=by
 apply pF 8 [] [] [] [.tmp 4] e zGR Tryz.func186;intro h d a g;unfold Ny at a;refine wW ?_;refine wE a eU λf a=>?_
 exact wl d a
def Cp(a:am)(b:Int)(c:Int):Option Int:=
 (Ny a c).bind λd=>
 (eu a [b,d]).bind λz2=>
 J z2
def Vi{b c d r}(f:Cp b c d=J r):aq zH 150 [(.sh,vE b),(.sh,.int .i64 c),(.sh,.int .i64 d)] (Eo (.int .i64 r) gJ):=by
 apply pF 14 [] [] [] [.tmp 6] f zE1 Tryz.func150;intro i e a g;unfold Cp at a;refine wW ?_;refine wZ (kD 0 [26,0,26,0,3,0,6,0]) follows ?_;refine wE a zoI λh a=>?_
 refine wE a iv λz2 a=>?_
 refine wK [6] ?_;exact wm e a
def uq(d:Int)(e:Int)(f:Int)(c:Int)(b:Int)(a:Int)(g:Int):Option Bool:=
 (cW (am.mk c b a) e g).bind λh=>
 (eu (am.mk c b a) [d,h]).bind λz2=>
 J (z2==f)
def Gi{d e f h c b i r}(k:uq d e f h c b i=J r):aq zH 149 [(.sh,.int .i64 d),(.sh,.int .i64 e),(.sh,.int .i64 f),(.sh,.fp [.int .i64 h,.int .i64 c,.int .i64 b]),(.sh,.fp [.int .i64 i])] (Eo (.bool r) sU):=by
 apply pF 19 [] [] [] [.tmp 8] k zGQ Tryz.func149;intro m j a g;unfold uq at a;refine wW ?_;refine wZ (kE [0,1,2,3,4,8,5,6,7,9,10] [0,0,0,0,0,0,4,0,6,0,0]) follows ?_;refine wD a eU λl a=>?_
 refine wE a iv λz2 a=>?_
 refine wK [8] ?_;exact wm j a
def EU(a:am)(e:ct)(k:Int)(c:List ao)(i:List ao)(b:cO):Option Bool:=
 ((if((i.length:Int) !=(c.length:Int))=O then(
 J O)else(
 (L6 a b (c.length:Int)).bind λz5=>
 J (!z5)):Option Bool).bind λx3=>
 if x3=O then(
 J Z)else(
 (q7 k c i b.cC).bind λo=>
 (A1 a (⟨#[109,105,120,32,99,111,108,117,109,110,115]⟩:ByteArray) o (c.length:Int)).bind λf=>
 (se [o,b.aH,b.Pi.aF]).bind λz9=>
 (mW a (⟨#[109,105,120,32,112,114,111,111,102]⟩:ByteArray) z9).bind λd=>
 ((if(!f.2)=O then(
 J O)else(
 if(!d.2)=O then(
 J O)else(
 (ix b.Pi.aX 0).bind λN=>
 J (N !=d.1))):Option Bool).bind λK=>
 if K=O then(
 J Z)else(
 gd (0<=(i64.wrap ((c.length:Int)+4)))<|
 gd ((i64.wrap ((c.length:Int)+4)).toNat<=b.Pi.aG.length/\b.Pi.aG.length<=b.Pi.aG.length)<|
 ((aO (σ:=Int) (λkc j=>
 (ix f.1 kc).bind λS=>
 (fb a (i64.wrap (j*S))).bind λy=>
 J (.go y)) (λj=>j) (f.1.length) 0 1:Option Int).bind λL=>
 (xA c).bind λm=>
 (xA i).bind λl=>
 (((ix b.Pi.aF 0).bind λwF=>
 (ix b.Pi.aG 0).bind λP=>
 (eu a b.cC).bind λnk=>
 (eu a e.Hs).bind λyO=>
 (Cp a nk yO).bind λr=>
 (cW a a.G P).bind λzV=>
 (uq wF r zV a.P a.Q a.G d.1).bind λve=>
 if ve=O then(
 (ix b.Pi.aF 1).bind λx47=>
 (ix b.Pi.aG 1).bind λH=>
 (lT a b.cC f.1).bind λu=>
 (cW a a.G H).bind λX=>
 (lT a e.Hs ((b.Pi.aG.take b.Pi.aG.length).drop ((i64.wrap ((c.length:Int)+4)).toNat))).bind λpA=>
 (eu a [X,pA]).bind λqL=>
 (uq x47 u qL a.P a.Q a.G d.1).bind λp=>
 if p=O then(
 (ix b.Pi.aF 2).bind λQ=>
 (ix b.aH (i64.wrap ((c.length:Int)-1))).bind λT=>
 (ix b.Pi.aG 2).bind λI=>
 (cW a e.H L).bind λs=>
 (Cp a T s).bind λz59=>
 (cW a a.G I).bind λt=>
 (uq Q z59 t a.P a.Q a.G d.1).bind λrq=>
 if rq=O then(
 (ix b.Pi.aF 3).bind λB=>
 (ix b.Pi.aG 3).bind λn=>
 (lT a m.1 f.1).bind λqT=>
 (cW a a.G (i64.wrap (0-n))).bind λz66=>
 (lT a l.1 ((b.Pi.aG.take b.Pi.aG.length).drop ((i64.wrap ((c.length:Int)+4)).toNat))).bind λv=>
 (eu a [z66,v]).bind λw=>
 (uq B qT w a.P a.Q a.G d.1).bind λY=>
 if Y=O then(
 (ix b.Pi.aF 4).bind λC=>
 (lT a m.2 f.1).bind λoq=>
 (cW a k (i64.wrap (0-n))).bind λqA=>
 (lT a l.2 ((b.Pi.aG.take b.Pi.aG.length).drop ((i64.wrap ((c.length:Int)+4)).toNat))).bind λuI=>
 (eu a [qA,uI]).bind λq=>
 (uq C oq q a.P a.Q a.G d.1).bind λA=>
 J A)else(
 J Z))else(
 J Z))else(
 J Z))else(
 J Z):Option Bool).bind λM=>
 gd (([e.H].length+b.aH.length)*8<=140737488355328/\[e.H].length+b.aH.length<=4611686018427387904)<|
 (J ([e.H]++b.aH)).bind λU=>
 ((aO (σ:=Bool) (λg h=>
 ((if h=O then(
 (ix b.Pi.aF (i64.wrap (5+g))).bind λR=>
 (ix b.aH g).bind λy8=>
 (ix b.Pi.aG (i64.wrap (4+g))).bind λyy=>
 (ix U g).bind λG=>
 (ix ((b.Pi.aG.take b.Pi.aG.length).drop ((i64.wrap ((c.length:Int)+4)).toNat)) g).bind λyE=>
 (cW a a.G yy).bind λD=>
 (cW a G yE).bind λF=>
 (eu a [D,F]).bind λz=>
 (uq R y8 z a.P a.Q a.G d.1).bind λx=>
 J x)else(
 J Z):Option Bool).bind λW=>
 J (.go W))) (λh=>h) (c.length) 0 M:Option Bool).bind λE=>
 J E)))))))
set_option maxHeartbeats 1000000 in
def zjZ{x m z A B n r}(hr:EU x m z A B n=J r):aq zH 101 [(.sh,vE x),(.sh,vM m),(.sh,.int .i64 z),(.sh,vJ A),(.sh,vJ B),(.sh,vN n)] (Eo (.bool r) qr):=by
 apply pF 296 [] [955] [1000000] [.tmp 12] hr zEo Tryz.func101;intro Φ o a g;unfold EU at a
 iterate 2 (try simp[go_sem,g];try intros;refine ba ?_)
 refine bE a [2,3,4,6,7,11,13] (λI=>[(45,.v (.bool I))]) (λI a=>?_) λ_ C a=>?_
 ·refine wI a (λY a=>?_) λY a=>?_
  ·exact wl o a
  refine wW ?_;refine wE a EH λz7 a=>?_
  refine wK [2,3,4,6,7,11,13,14] ?_;refine wE a ZB λz8 a=>?_
  refine wW ?_;refine wZ (kE [0,1,2,3,4,5,6,7,13,8,9,10,11,12,14,15] [50,0,89,90,89,89,90,0,0,6,3,0,0,0,138,0]) follows ?_;refine wE a Lv λz9 a=>?_
  refine wE a yU λbY a=>?_
  refine wK [2,3,4,6,7,11,13,15,16,17,18] ?_;refine bE a [2,3,4,6,7,11,13,15,17] (λD=>[(86,.v (.bool D))]) (λD a=>?_) λ_ k a=>?_
  ·refine wI a (λX a=>?_) λX a=>?_
   ·exact wl o a
   refine wW ?_;refine wZ (kD 0 [89,89,90,89,89,90,0,0]) follows ?_
   iterate 2 obtain⟨g,a⟩:=Rg g a
   refine wW ?_;refine wK [2,3,4,6,7,11,13,15,17,19,20,21,22] ?_;try simp[go_sem,g]
   try intros
   refine ba ?_;refine bE a [2,3,4,6,7,11,13,15,17,19,20,21] (λE=>[(22,.v (.int .i64 E))]) (λE a=>?_) λ_ N a=>?_
   ·refine wE a FG λsC a=>?_
    refine wK [2,4,6,7,11,13,15,17,19,20,21,22,25,26] ?_;refine wE a FG λmB a=>?_
    iterate 2 refine wW ?_
    refine bE a [6,7,11,13,19,20,21,29] (λF=>[(30,.v (.bool F))]) (λF a=>?_) λ_ h a=>?_
    ·obtain⟨g,a⟩:=Rg g a;obtain⟨kF,l,a⟩:=mn a;have g:=And.intro g (show[.int .i64 m.H]::(List.map ay n.aH)=kF.map ay by injection l with l;rw[<-l];simp[go_sem]);refine wK [6,11,13,19,20,21,29,30,31] ?_;refine wW ?_;refine wJ a (λu=>[(30,.v (.bool u))]) (λu a=>?_) λ_ T a=>?_
     ·exact wl o a
     refine wB ?_;obtain⟨a42,P,W⟩:=a;refine bG P [6,11,19,20,21,29,31,253] (λt j=>[(30,.v (.bool j)),(254,.v (.int .i64 t))]) (λj _ Q=>?_) λt j _ _ w y a6f U a=>?_
     ·exact wn Q (T _) W
     refine wW ?_;refine wu w y ?_;refine wW ?_;refine bE a [6,11,19,20,21,29,31,253,254] (λG=>[(30,.v (.bool G))]) (λG a=>?_) λ_ v a=>?_
     ·exact wi w y (U _) (ai a)
     refine wB ?_;refine wW ?_;refine wZ (kE [0,1,2,3,4,5,6,7,8,9,10,11,12,13,14,15,16,17,18,19,20,21,23,24,25,26,27,28,29,30,31,22,32,33,34,35,36,37] [0,0,0,0,0,0,0,0,89,90,0,0,0,0,0,0,0,0,0,0,0,0,0,0,0,0,0,0,0,0,0,4,4,0,7,3,0,0]) follows ?_;refine wH a (λe a=>?_) λe a=>?_
     ·obtain⟨jJ,g,a⟩:=Rx g a;obtain⟨y8,g,a⟩:=Rx g a;obtain⟨yy,g,a⟩:=Rx g a;obtain⟨W3,g,a⟩:=Rx g a;obtain⟨yE,g,a⟩:=gP g a;try simp[go_sem,g,e]
      refine wD a eU λMy a=>?_
      try simp[go_sem,g,e]
      refine wD a eU λNj a=>?_
      try simp[go_sem,g,e]
      refine wD a iv λDx a=>?_
      try simp[go_sem,g,e]
      refine wE a Gi λCf a=>?_
      exact wV e (v _) (ai a)
     exact wV e (v _) (ai a)
    refine wZ (kE [0,1,2,3,4,5,6,7,9,10,11,14,15,16,17,18,19,8,12,13,20,21,22,23,24,25,26,27,28,29,30,32,33,34,35,36,37,38,40,41,42,43,31,39,44,45,46,47,48,49,50,51,52,53,54,55,56,57,58,59,60,61,62,63,64,67,68,69,70,71,72,65,66,73,74,75,76,77,78,79,80,81,82,83,85,86,87,88,89,90,91,92,94,95,96,84,93,97,98,99,100,101,102,103,104,105,106,107,108,109,111,112,113,114,115,116,117,119,120,121,110,118,122,123,124,125,126,127] [0,0,0,0,0,0,89,90,0,57,58,0,0,0,0,0,0,4,4,4,4,3,0,0,0,0,0,0,89,90,0,0,0,0,0,0,0,0,0,57,58,0,4,4,4,0,7,3,0,0,0,0,0,0,0,89,90,0,0,0,0,0,57,58,0,0,0,0,0,0,0,4,4,4,3,0,0,0,0,0,0,0,0,0,0,0,0,0,0,0,0,0,0,0,0,4,4,4,0,7,3,0,0,0,0,0,0,0,0,0,0,0,0,0,0,0,0,0,0,0,4,4,4,0,7,3,0,0]) follows ?_;obtain⟨wF,g,a⟩:=hO g 0 a;obtain⟨gK,g,a⟩:=hO g 0 a;refine wD a iv λnk a=>?_
    refine wD a iv λyO a=>?_
    refine wD a Vi λBL a=>?_
    refine wD a eU λzV a=>?_
    refine wE a Gi λve a=>?_
    refine wH a (λc a=>?_) λc a=>?_
    ·obtain⟨x47,g,a⟩:=hO g 1 a;obtain⟨YP,g,a⟩:=hO g 1 a;try simp[go_sem,g,c]
     refine wD a pG λBm a=>?_
     try simp[go_sem,g,c]
     refine wD a eU λme a=>?_
     try simp[go_sem,g,c]
     refine wD a pG λpA a=>?_
     try simp[go_sem,g,c]
     refine wD a iv λqL a=>?_
     try simp[go_sem,g,c]
     refine wE a Gi λAa a=>?_
     try simp[go_sem,g,c]
     refine wH a (λf a=>?_) λf a=>?_
     ·obtain⟨iH,g,a⟩:=hO g 2 a;obtain⟨jo,g,a⟩:=Rx g a;obtain⟨Z7,g,a⟩:=hO g 2 a;try simp[go_sem,g,f]
      refine wD a eU λBP a=>?_
      try simp[go_sem,g,f]
      refine wD a Vi λz59 a=>?_
      try simp[go_sem,g,f]
      refine wD a eU λBe a=>?_
      try simp[go_sem,g,f]
      refine wE a Gi λrq a=>?_
      try simp[go_sem,g,f]
      refine wH a (λd a=>?_) λd a=>?_
      ·obtain⟨Iw,g,a⟩:=hO g 3 a;obtain⟨xi,g,a⟩:=hO g 3 a;try simp[go_sem,g,d]
       refine wD a pG λqT a=>?_
       try simp[go_sem,g,d]
       refine wD a eU λz66 a=>?_
       try simp[go_sem,g,d]
       refine wD a pG λC7 a=>?_
       try simp[go_sem,g,d]
       refine wD a iv λCI a=>?_
       try simp[go_sem,g,d]
       refine wE a Gi λnW a=>?_
       try simp[go_sem,g,d]
       refine wH a (λb a=>?_) λb a=>?_
       ·obtain⟨JG,g,a⟩:=hO g 4 a;try simp[go_sem,g,b]
        refine wD a pG λoq a=>?_
        try simp[go_sem,g,b]
        refine wD a eU λqA a=>?_
        try simp[go_sem,g,b]
        refine wD a pG λuI a=>?_
        try simp[go_sem,g,b]
        refine wD a iv λBA a=>?_
        try simp[go_sem,g,b]
        refine wE a Gi λI6 a=>?_
        exact wV b (h _) (ai a)
       exact wV b (h _) (ai a)
      exact wV d (h _) (ai a)
     exact wV f (h _) (ai a)
    exact wV c (h _) (ai a)
   refine wB ?_;obtain⟨b30,R,L⟩:=a;refine bG R [2,3,4,6,7,11,13,15,17,19,20,21,97,98] (λkc p=>[(22,.v (.int .i64 p)),(99,.v (.int .i64 kc))]) (λp _ S=>?_) λkc p _ _ H K a0x M a=>?_
   ·exact wn S (N _) L
   refine wW ?_;refine wu H K ?_;refine wW ?_;refine wB ?_;obtain⟨jW,g,a⟩:=Rx g a;refine wW ?_;refine wE a lG λDT a=>?_
   refine wK [2,3,4,6,7,11,13,15,17,19,20,21,22,97,98,99] ?_;exact wi H K (M _) (ai a)
  refine wZ (kD 0 [0,0,0,0,0,0,0,89,89,90,0,0,138,0,0]) follows ?_;refine wH a (λq a=>?_) λq a=>?_
  ·exact wV q (k _) (ai a)
  try simp[go_sem,g,q]
  refine wH a (λs a=>?_) λs a=>?_
  ·exact wV s (k _) (ai a)
  obtain⟨fw,g,a⟩:=hO g 0 a;exact wV s (k _) (ai a)
 try simp[go_sem,g]
 try intros
 refine wG a (λi a=>?_) λi a=>?_
 ·exact wV i (C _) (ai a)
 try simp[go_sem,g,i]
 refine wE a zj3 λz5 a=>?_
 exact wV i (C _) (ai a)
def t7(a:am)(b:Int)(c:List ao)(d:List ao)(f:cO):Option (Bool×Bool):=
 (qq a b c).bind λe=>
 ((if(!e.2)=O then(
 J O)else(
 (Ay a d).bind λh=>
 J (!h)):Option Bool).bind λg=>
 if g=O then(
 J (Z,Z))else(
 (EU a e.1 b c d f).bind λi=>
 J (i,O)))
def zmF{c d e f h r}(m:t7 c d e f h=J r):aq zH 63 [(.sh,vE c),(.sh,.int .i64 d),(.sh,vJ e),(.sh,vJ f),(.sh,vN h)] (Eo (.bR [.bool r.1,.bool r.2]) sU):=by
 apply pF 36 [] [] [] [.tmp 10,.tmp 11] m zLX Tryz.func63;intro q i a g;unfold t7 at a;refine wW ?_;refine wE a Kd λn a=>?_
 refine wK [1,2,3,5,9,12,13] ?_;refine bE a [1,2,3,5,9,12] (λk=>[(28,.v (.bool k))]) (λk a=>?_) λ_ j a=>?_
 ·refine wI a (λl a=>?_) λl a=>?_
  ·exact wl i a
  refine wW ?_;refine wE a zjZ λp a=>?_
  exact wl i a
 refine wG a (λb a=>?_) λb a=>?_
 ·exact wV b (j _) (ai a)
 try simp[go_sem,g,b]
 refine wE a Py λo a=>?_
 exact wV b (j _) (ai a)
def Hr(a:cQ):Option Bool:=
 ((if((a.aF.length:Int)==0)=O then(
 if((a.aX.length:Int)==0)=O then(
 J ((a.aG.length:Int)==0))else(
 J Z))else(
 J Z):Option Bool).bind λb=>
 J b)
def ziR{e r}(i:Hr e=J r):aq zH 102 [(.sh,vW e)] (Eo (.bool r) [.az]):=by
 apply pF 19 [] [] [] [.tmp 2] i zFN Tryz.func102;intro j h a g;unfold Hr at a;refine wW ?_;refine wJ a (λf=>[(2,.v (.bool f))]) (λf a=>?_) λ_ b a=>?_
 ·exact wm h a
 try simp[go_sem,g]
 try intros
 refine wG a (λc a=>?_) λc a=>?_
 ·try simp[go_sem,g,c]
  try intros
  refine wG a (λd a=>?_) λd a=>?_
  ·try simp[go_sem,g,d]
   try intros
   exact wT (b _) (ai a)
  exact wV d (b _) (ai a)
 exact wV c (b _) (ai a)
def IU(a:cu):Option Bool:=
 ((if((a.bX.length:Int)==0)=O then(
 if((a.bN.length:Int)==0)=O then(
 if((a.aH.length:Int)==0)=O then(
 (Hr a.Pi).bind λc=>
 J c)else(
 J Z))else(
 J Z))else(
 J Z):Option Bool).bind λb=>
 J b)
def zkF{f r}(j:IU f=J r):aq zH 64 [(.sh,vO f)] (Eo (.bool r) [.az]):=by
 apply pF 24 [] [] [] [.tmp 2] j zMZ Tryz.func64;intro l i a g;unfold IU at a;refine wW ?_;refine wJ a (λh=>[(2,.v (.bool h))]) (λh a=>?_) λ_ b a=>?_
 ·exact wm i a
 try simp[go_sem,g]
 try intros
 refine wG a (λd a=>?_) λd a=>?_
 ·try simp[go_sem,g,d]
  try intros
  refine wG a (λe a=>?_) λe a=>?_
  ·try simp[go_sem,g,e]
   try intros
   refine wG a (λc a=>?_) λc a=>?_
   ·try simp[go_sem,g,c]
    refine wE a ziR λk a=>?_
    exact wV c (b _) (ai a)
   exact wV c (b _) (ai a)
  exact wV e (b _) (ai a)
 exact wV d (b _) (ai a)
def JO(b:am)(a:cu)(c:Int):Option Bool:=
 ((if((a.bX.length:Int)==c)=O then(
 if((a.bN.length:Int)==c)=O then(
 if((a.aH.length:Int)==c)=O then(
 if((a.Pi.aF.length:Int)==(i64.wrap ((i64.wrap (3*c))+3)))=O then(
 if((a.Pi.aX.length:Int)==1)=O then(
 if((a.Pi.aG.length:Int)==(i64.wrap ((i64.wrap (5*c))+2)))=O then(
 (t6 b a.bX).bind λe=>
 if e=O then(
 (t6 b a.bN).bind λd=>
 if d=O then(
 (t6 b a.aH).bind λf=>
 if f=O then(
 (t6 b a.Pi.aF).bind λh=>
 if h=O then(
 (xF b a.Pi.aG).bind λg=>
 J g)else(
 J Z))else(
 J Z))else(
 J Z))else(
 J Z))else(
 J Z))else(
 J Z))else(
 J Z))else(
 J Z))else(
 J Z))else(
 J Z):Option Bool).bind λi=>
 J i)
def zkV{n o p r}(t:JO n o p=J r):aq zH 151 [(.sh,vE n),(.sh,vO o),(.sh,.int .i64 p)] (Eo (.bool r) gJ):=by
 apply pF 85 [] [] [] [.tmp 6] t zGJ Tryz.func151;intro z s a g;unfold JO at a;refine wW ?_;refine wJ a (λq=>[(6,.v (.bool q))]) (λq a=>?_) λ_ b a=>?_
 ·exact wm s a
 try simp[go_sem,g]
 try intros
 refine wG a (λi a=>?_) λi a=>?_
 ·try simp[go_sem,g,i]
  try intros
  refine wG a (λj a=>?_) λj a=>?_
  ·try simp[go_sem,g,j]
   try intros
   refine wG a (λk a=>?_) λk a=>?_
   ·try simp[go_sem,g,k]
    try intros
    refine wG a (λl a=>?_) λl a=>?_
    ·try simp[go_sem,g,l]
     try intros
     refine wG a (λm a=>?_) λm a=>?_
     ·try simp[go_sem,g,m]
      try intros
      refine wG a (λf a=>?_) λf a=>?_
      ·try simp[go_sem,g,f]
       refine wE a D9 λv a=>?_
       try simp[go_sem,g,f]
       refine wG a (λd a=>?_) λd a=>?_
       ·try simp[go_sem,g,d]
        refine wE a D9 λu a=>?_
        try simp[go_sem,g,d]
        refine wG a (λc a=>?_) λc a=>?_
        ·try simp[go_sem,g,c]
         refine wE a D9 λw a=>?_
         try simp[go_sem,g,c]
         refine wG a (λh a=>?_) λh a=>?_
         ·try simp[go_sem,g,h]
          refine wE a D9 λy a=>?_
          try simp[go_sem,g,h]
          refine wG a (λe a=>?_) λe a=>?_
          ·try simp[go_sem,g,e]
           refine wE a Ib λx a=>?_
           exact wV e (b _) (ai a)
          exact wV e (b _) (ai a)
         exact wV h (b _) (ai a)
        exact wV c (b _) (ai a)
       exact wV d (b _) (ai a)
      exact wV f (b _) (ai a)
     exact wV m (b _) (ai a)
    exact wV l (b _) (ai a)
   exact wV k (b _) (ai a)
  exact wV j (b _) (ai a)
 exact wV i (b _) (ai a)
def rC(e:Int)(f:Int)(g:Int)(h:Bool)(c:Int)(a:Int)(b:Int)(d:Int):Option Bool:=
 if h=O then(
 (cW (am.mk c a b) f d).bind λz2=>
 (eu (am.mk c a b) [e,z2]).bind λi=>
 J (i==g))else(
 J Z)
def FX{f h i k l c d e r}(m:rC f h i k l c d e=J r):aq zH 152 [(.sh,.int .i64 f),(.sh,.int .i64 h),(.sh,.int .i64 i),(.io,.bx [.bool k]),(.sh,.fp [.int .i64 l,.int .i64 c,.int .i64 d]),(.sh,.fp [.int .i64 e])] (Eo (.az) [.az,.az,.az,.bx [.bool r],.az,.az]):=by
 apply pF 22 [3] [] [] [] m zFT Tryz.func152;intro o j a g;unfold rC at a;refine wZ (kE [0,1,2,3,4,5,6,10,7,8,9,11,12,13] [0,0,0,0,0,0,0,0,4,0,6,0,0,0]) follows ?_;refine wH a (λb a=>?_) λb a=>?_
 ·try simp[go_sem,g,b]
  refine wD a eU λz2 a=>?_
  try simp[go_sem,g,b]
  refine wE a iv λn a=>?_
  cases j _ (ai a);try simp[go_sem,g,b]
  try simp[go_sem,g]
 cases j _ (ai a);try simp[go_sem,g,b]
 try simp[go_sem,g]
def Jq(a:Int)(d:Int)(c:Int)(e:Int)(f:Int):Option Int:=
 ((dO (σ:=Int×Int×Int) (λb=>
 if decide (b.2.2<=d)=O then(
 gd (a≠0)<|
 gd (a≠0)<|
 (Bf (i64.wrap ((i64.wrap (((i64.wrap (e*b.2.2)).tmod a)+((i64.wrap (b.2.1*c)).tmod a)))-f)) a).bind λg=>
 gd (a≠0)<|
 J (.go ((i64.wrap (b.1*g)).tmod a,(i64.wrap (b.2.1*c)).tmod a,i64.wrap (b.2.2+1))))else(
 J (.out b.1))) (1,1,1):Option Int).bind λh=>
 J h)
def zl5{c d e f h r}(p:Jq c d e f h=J r):aq zH 153 [(.sh,.int .i64 c),(.sh,.int .i64 d),(.sh,.int .i64 e),(.sh,.int .i64 f),(.sh,.int .i64 h)] (Eo (.int .i64 r) sU):=by
 apply pF 40 [] [] [] [.tmp 10] p zFA Tryz.func153;intro u j a g;unfold Jq at a
 iterate 3 refine wW ?_
 refine wJ a (λi=>[(11,.v (.int .i64 i))]) (λi a=>?_) λ_ k a=>?_
 ·exact wl j a
 refine wB ?_;obtain⟨s,q,m⟩:=a;refine ka q [0,1,2,3,4] (λb=>[(11,.v (.int .i64 b.1)),(12,.v (.int .i64 b.2.1)),(13,.v (.int .i64 b.2.2))]) λb _ _ n l a=>?_
 refine wW ?_;refine wI a (λo a=>?_) λo a=>?_
 ·refine wW ?_;refine wB ?_;obtain⟨g,a⟩:=Rz g a;refine wK [0,1,2,3,4,11,12,13] ?_;obtain⟨g,a⟩:=Rz g a;refine wE a T8 λt a=>?_
  obtain⟨g,a⟩:=Rz g a;refine wK [0,1,2,3,4,11,12,13] ?_;exact wT (l _) (ai a)
 cases n _ (ai a);exact wT (k _) m
def Bq(a:am)(h:ct)(l:Int)(c:List ao)(i:List ao)(b:cu):Option Bool:=
 ((if((i.length:Int) !=(c.length:Int))=O then(
 J O)else(
 (JO a b (c.length:Int)).bind λz5=>
 J (!z5)):Option Bool).bind λx3=>
 if x3=O then(
 J Z)else(
 (q7 l c i b.bX).bind λz7=>
 (mW a (⟨#[109,105,120,32,120]⟩:ByteArray) z7).bind λm=>
 (yk b.bX).bind λn=>
 gd ((n.length+b.bN.length)*8<=140737488355328/\n.length+b.bN.length<=4611686018427387904)<|
 (q7 l c i (n++b.bN)).bind λs=>
 (DA a s).bind λg=>
 (se [s,b.aH,b.Pi.aF]).bind λbK=>
 (mW a (⟨#[109,105,120,32,101,110,100]⟩:ByteArray) bK).bind λe=>
 ((if(!m.2)=O then(
 J O)else(
 if(!g.2.2)=O then(
 J O)else(
 if(!e.2)=O then(
 J O)else(
 (ix b.Pi.aX 0).bind λdw=>
 J (dw !=e.1)))):Option Bool).bind λfw=>
 if fw=O then(
 J Z)else(
 (jn b.Pi.aG (c.length:Int)).bind λt=>
 (jn t.2 (c.length:Int)).bind λx=>
 (jn x.2 (c.length:Int)).bind λq=>
 (ti q.2).bind λw=>
 (jn w.2 (c.length:Int)).bind λj=>
 (jn j.2 (c.length:Int)).bind λv=>
 (ti v.2).bind λu=>
 gd (([a.G].length+b.aH.length)*8<=140737488355328/\[a.G].length+b.aH.length<=4611686018427387904)<|
 (J ([a.G]++b.aH)).bind λd4=>
 ((aO (σ:=(List Int)×Bool) (λd f=>
 (ou m.1 (i64.wrap (d+1)) a.Q).bind λoq=>
 gd ((f.1.length+1)*8<=140737488355328/\f.1.length+1<=4611686018427387904)<|
 (ix b.Pi.aF d).bind λP=>
 (ix b.bX d).bind λI=>
 (ix b.bN d).bind λo=>
 (ix t.1 d).bind λy=>
 (ix x.1 d).bind λkF=>
 (cW a I g.1).bind λD=>
 (cW a a.G (i64.wrap (0-g.2.1))).bind λB=>
 (eu a [D,o,B]).bind λwR=>
 (pi a h y kF).bind λnI=>
 (rC P wR nI f.2 a.P a.Q a.G e.1).bind λz=>
 (ix b.Pi.aF (i64.wrap ((c.length:Int)+d))).bind λM=>
 (ix b.aH d).bind λA=>
 (ix d4 d).bind λC=>
 (ix q.1 d).bind λpx=>
 (cW a C y).bind λwL=>
 (cW a h.H px).bind λoa=>
 (eu a [wL,oa]).bind λF=>
 (rC M A F z a.P a.Q a.G e.1).bind λK=>
 (ix b.Pi.aF (i64.wrap ((i64.wrap ((i64.wrap (2*(c.length:Int)))+1))+d))).bind λmG=>
 (ix j.1 d).bind λjm=>
 (ix v.1 d).bind λjJ=>
 (pi a h jm jJ).bind λpB=>
 (rC mG o pB K a.P a.Q a.G e.1).bind λQ=>
 J (.go (f.1++[oq],Q))) (λf=>(f.1,f.2)) (c.length) 0 ([],O):Option ((List Int×Bool))).bind λk=>
 (ix b.Pi.aF (i64.wrap (2*(c.length:Int)))).bind λa0D=>
 (ix b.aH (i64.wrap ((c.length:Int)-1))).bind λmj=>
 (Jq a.Q (c.length:Int) m.1 g.1 g.2.1).bind λa1c=>
 (cW a a.G a1c).bind λa0a=>
 (Cp a mj a0a).bind λY=>
 (cW a h.H w.1).bind λa0P=>
 (rC a0D Y a0P k.2 a.P a.Q a.G e.1).bind λa1h=>
 (xA c).bind λr=>
 (xA i).bind λp=>
 (ix b.Pi.aF (i64.wrap ((i64.wrap (3*(c.length:Int)))+1))).bind λN=>
 (lT a r.1 k.1).bind λL=>
 (cW a a.G (i64.wrap (0-u.1))).bind λR=>
 (lT a p.1 j.1).bind λH=>
 (eu a [R,H]).bind λS=>
 (rC N L S a1h a.P a.Q a.G e.1).bind λE=>
 (ix b.Pi.aF (i64.wrap ((i64.wrap (3*(c.length:Int)))+2))).bind λT=>
 (lT a r.2 k.1).bind λU=>
 (cW a l (i64.wrap (0-u.1))).bind λW=>
 (lT a p.2 j.1).bind λa0Q=>
 (eu a [W,a0Q]).bind λX=>
 (rC T U X E a.P a.Q a.G e.1).bind λG=>
 J G)))))
set_option maxHeartbeats 1000000 in
def zkT{h n q s t i r}(G:Bq h n q s t i=J r):aq zH 103 [(.sh,vE h),(.sh,vM n),(.sh,.int .i64 q),(.sh,vJ s),(.sh,vJ t),(.sh,vO i)] (Eo (.bool r) qr):=by
 apply pF 352 [] [727,738,1145,1555,1881] [33,1000000] [.tmp 12] G zDR Tryz.func103;intro Φ j a g;unfold Bq at a
 iterate 2 (try simp[go_sem,g];try intros;refine ba ?_)
 refine bE a [2,3,4,6,7,11,13] (λx=>[(52,.v (.bool x))]) (λx a=>?_) λ_ u a=>?_
 ·refine wI a (λF a=>?_) λF a=>?_
  ·exact wl j a
  refine wW ?_;refine wZ (kD 0 [50,0,0,0,89,90,3,3,0,0,0,0,0]) follows ?_;refine wE a EH λz7 a=>?_
  refine wE a yU λz8 a=>?_
  refine wK [2,3,4,6,7,11,13,14,15] ?_;refine wZ (kE [0,1,2,3,4,6,7,5,8,9,10] [0,0,0,89,90,89,90,3,0,3,0]) follows ?_;refine wE a OS λz9 a=>?_
  obtain⟨g,a⟩:=Rg g a;refine wE a EH λbY a=>?_
  refine wK [2,3,4,6,7,11,13,14,15,16] ?_;refine wE a Yg λbM a=>?_
  refine wK [2,3,4,6,7,11,13,14,15,16,17,18,19] ?_;refine wZ (kE [0,1,2,3,4,5,6,7,13,8,9,10,11,12,14,15] [50,0,89,90,89,89,90,0,0,6,3,0,0,0,162,0]) follows ?_;refine wE a Lv λbK a=>?_
  refine wE a yU λcA a=>?_
  refine wK [2,3,4,6,7,11,13,14,15,17,18,19,20,21] ?_;refine bE a [2,3,4,6,7,11,13,14,17,18,20] (λv=>[(112,.v (.bool v))]) (λv a=>?_) λ_ d a=>?_
  ·refine wI a (λA a=>?_) λA a=>?_
   ·exact wl j a
   refine wW ?_;refine wZ (kD 0 [89,89,90,89,89,90,0,0,0,961]) follows ?_;refine wK [2,3,4,6,7,11,13,14,17,18,20,22,23,120] ?_;refine wC a [.io,.sh] mY λer a=>?_
   refine wC a [.io,.sh] mY λuC a=>?_
   refine wC a [.io,.sh] mY λTw a=>?_
   refine wK [2,3,4,6,7,11,13,14,17,18,20,22,23,24,25,26,120] ?_;refine wC a [.io] Aq λtt a=>?_
   refine wW ?_;refine wC a [.io,.sh] mY λg9 a=>?_
   refine wC a [.io,.sh] mY λmL a=>?_
   refine wK [2,3,4,6,7,11,13,14,17,18,20,22,23,24,25,26,27,28,29,120] ?_;refine wC a [.io] Aq λfZ a=>?_
   obtain⟨g,a⟩:=Rg g a;obtain⟨E,f,a⟩:=mn a;have g:=And.intro g (show[.int .i64 h.G]::(List.map ay i.aH)=E.map ay by injection f with f;rw[<-f];simp[go_sem]);refine wW ?_;refine wK [2,3,4,6,7,11,13,14,17,18,20,22,24,25,26,27,28,29,30,31] ?_
   iterate 3 refine wW ?_
   refine bE a [2,3,4,6,7,11,13,14,17,18,22,27,28,30,34] (λe=>[(32,.v (vD e.1)),(33,.v (.bx [.bool e.2]))]) (λe a=>?_) λ_ D a=>?_
   ·refine wZ (kE [0,1,2,3,4,5,6,7,8,9,10,11,12,13,14,15,16,17,18,19,20,21,25,26,27,28,22,23,24,29,30] [0,0,0,0,0,0,0,89,90,0,0,0,0,0,0,0,0,0,0,0,0,0,0,57,58,0,4,4,4,4,3]) follows ?_;obtain⟨a0D,g,a⟩:=Rx g a;obtain⟨mj,g,a⟩:=Rx g a;refine wD a zl5 λa1c a=>?_
    refine wD a eU λa0a a=>?_
    refine wD a Vi λa06 a=>?_
    refine wD a eU λa0P a=>?_
    refine wY a [.sh,.sh,.sh] FX λa1h a=>?_
    refine wK [2,3,4,6,13,22,28,30,32,33,34] ?_;refine wE a FG λUD a=>?_
    refine wW ?_;refine wE a FG λSQ a=>?_
    refine wK [2,6,13,22,28,30,32,33,34,36,37,38,39] ?_;refine wZ (kE [0,1,2,3,4,5,6,7,8,9,11,12,13,14,15,16,18,19,20,10,17,21,22,23,24] [0,0,0,0,0,0,0,0,0,0,0,0,0,0,0,0,0,0,0,4,4,4,0,7,3]) follows ?_;obtain⟨Y,g,a⟩:=Rx g a;refine wD a pG λW a=>?_
    refine wD a eU λYF a=>?_
    refine wD a pG λS a=>?_
    refine wD a iv λYX a=>?_
    refine wY a [.sh,.sh,.sh] FX λN a=>?_
    refine wK [2,6,13,22,28,30,32,33,34,37,39] ?_;refine wZ (kE [0,1,2,3,4,5,6,7,8,9,11,12,13,14,15,17,18,19,10,16,20,21,22,23] [0,0,0,0,0,0,0,0,0,0,0,0,0,0,0,0,0,0,4,4,4,0,7,3]) follows ?_;obtain⟨Zk,g,a⟩:=Rx g a;refine wD a pG λa00 a=>?_
    refine wD a eU λa01 a=>?_
    refine wD a pG λa0Q a=>?_
    refine wD a iv λa04 a=>?_
    refine wY a [.sh,.sh,.sh] FX λQ a=>?_
    refine wK [33] ?_;exact wl j a
   refine wB ?_;obtain⟨b96,z,B⟩:=a;refine bG z [2,3,4,6,7,11,13,14,17,18,22,24,25,26,27,28,29,30,31,34,148] (λw c=>[(32,.v (vD c.1)),(33,.v (.bx [.bool c.2])),(149,.v (.int .i64 w))]) (λc _ y=>?_) λw c _ _ p o a6x C a=>?_
   ·exact wn y (D _) B
   refine wW ?_;refine wu p o ?_;refine wW ?_;refine wB ?_;refine wK [2,3,4,6,7,11,13,14,17,18,22,24,25,26,27,28,29,30,31,32,33,34,35,148,149] ?_;refine wE a Fw λoq a=>?_
   obtain⟨g,a⟩:=Rg g a;refine wK [2,3,4,6,7,11,13,14,17,18,22,24,25,26,27,28,29,30,31,32,33,34,35,148,149] ?_;refine wZ (kE [0,1,2,3,4,5,6,7,8,9,10,11,12,14,15,16,17,18,19,20,21,22,23,27,28,29,30,31,32,33,34,35,36,13,24,25,26,37,38] [0,0,0,0,0,0,0,89,90,0,0,0,0,89,90,0,0,0,0,0,0,0,0,0,58,0,0,0,0,0,0,0,0,4,4,0,7,4,3]) follows ?_;obtain⟨PO,g,a⟩:=Rx g a;obtain⟨T,g,a⟩:=Rx g a;obtain⟨R,g,a⟩:=Rx g a;obtain⟨zj,g,a⟩:=Rx g a;obtain⟨kF,g,a⟩:=Rx g a;refine wD a eU λM a=>?_
   refine wD a eU λK a=>?_
   refine wD a iv λwR a=>?_
   refine wD a Di λnI a=>?_
   refine wY a [.sh,.sh,.sh] FX λH a=>?_
   refine wK [2,3,4,6,7,11,13,14,17,18,22,24,25,26,27,28,29,30,31,32,33,34,35,148,149] ?_;refine wZ (kE [0,1,2,3,4,5,6,7,8,9,10,11,12,13,14,15,16,17,18,19,20,21,23,24,25,26,27,28,29,22,30,31,32,33] [0,0,0,0,0,0,0,89,90,0,0,0,0,0,0,0,0,0,0,0,0,0,0,57,58,0,0,0,0,4,4,0,7,3]) follows ?_;obtain⟨X,g,a⟩:=Rx g a;obtain⟨I,g,a⟩:=Rx g a;obtain⟨L,g,a⟩:=Rx g a;obtain⟨px,g,a⟩:=Rx g a;refine wD a eU λwL a=>?_
   refine wD a eU λoa a=>?_
   refine wD a iv λP a=>?_
   refine wY a [.sh,.sh,.sh] FX λU a=>?_
   refine wK [2,3,4,6,7,11,13,14,17,18,22,24,25,26,27,28,29,30,31,32,33,34,35,148,149] ?_;refine wZ (kD 0 [0,0,0,0,0,0,0,0,0,89,90,0,0,0,0,58,0,0,0,0,0,0,0,0,4,3]) follows ?_;obtain⟨mG,g,a⟩:=Rx g a;obtain⟨jm,g,a⟩:=Rx g a;obtain⟨jJ,g,a⟩:=Rx g a;refine wD a Di λpB a=>?_
   refine wY a [.sh,.sh,.sh] FX λQo a=>?_
   refine wK [2,3,4,6,7,11,13,14,17,18,22,24,25,26,27,28,29,30,31,32,33,34,148,149] ?_;exact wi p o (C _) (ai a)
  refine wZ (kD 0 [0,0,0,0,0,0,0,0,0,0,0,89,89,90,0,0,162,0,0]) follows ?_;refine wH a (λk a=>?_) λk a=>?_
  ·exact wV k (d _) (ai a)
  try simp[go_sem,g,k]
  refine wH a (λl a=>?_) λl a=>?_
  ·exact wV l (d _) (ai a)
  try simp[go_sem,g,l]
  refine wH a (λm a=>?_) λm a=>?_
  ·exact wV m (d _) (ai a)
  obtain⟨dw,g,a⟩:=hO g 0 a;exact wV m (d _) (ai a)
 try simp[go_sem,g]
 try intros
 refine wG a (λb a=>?_) λb a=>?_
 ·exact wV b (u _) (ai a)
 try simp[go_sem,g,b]
 refine wE a zkV λz5 a=>?_
 exact wV b (u _) (ai a)
def ut(a:am)(b:Int)(c:List ao)(d:List ao)(f:cu):Option (Bool×Bool):=
 (qu a b c).bind λe=>
 ((if(!e.2)=O then(
 J O)else(
 (Ay a d).bind λh=>
 J (!h)):Option Bool).bind λg=>
 if g=O then(
 J (Z,Z))else(
 (Bq a e.1 b c d f).bind λi=>
 J (i,O)))
def zn7{c d e f h r}(m:ut c d e f h=J r):aq zH 65 [(.sh,vE c),(.sh,.int .i64 d),(.sh,vJ e),(.sh,vJ f),(.sh,vO h)] (Eo (.bR [.bool r.1,.bool r.2]) sU):=by
 apply pF 36 [] [] [] [.tmp 10,.tmp 11] m zKF Tryz.func65;intro q i a g;unfold ut at a;refine wW ?_;refine wE a IA λn a=>?_
 refine wK [1,2,3,5,9,12,13] ?_;refine bE a [1,2,3,5,9,12] (λk=>[(28,.v (.bool k))]) (λk a=>?_) λ_ j a=>?_
 ·refine wI a (λl a=>?_) λl a=>?_
  ·exact wl i a
  refine wW ?_;refine wE a zkT λp a=>?_
  exact wl i a
 refine wG a (λb a=>?_) λb a=>?_
 ·exact wV b (j _) (ai a)
 try simp[go_sem,g,b]
 refine wE a Py λo a=>?_
 exact wV b (j _) (ai a)
def Lh(a:cO):Option Bool:=
 ((if((a.cC.length:Int)==0)=O then(
 if((a.aH.length:Int)==0)=O then(
 (Hr a.Pi).bind λc=>
 J c)else(
 J Z))else(
 J Z):Option Bool).bind λb=>
 J b)
def zjK{e r}(i:Lh e=J r):aq zH 66 [(.sh,vN e)] (Eo (.bool r) [.az]):=by
 apply pF 18 [] [] [] [.tmp 2] i zIW Tryz.func66;intro k h a g;unfold Lh at a;refine wW ?_;refine wJ a (λf=>[(2,.v (.bool f))]) (λf a=>?_) λ_ c a=>?_
 ·exact wm h a
 try simp[go_sem,g]
 try intros
 refine wG a (λd a=>?_) λd a=>?_
 ·try simp[go_sem,g,d]
  try intros
  refine wG a (λb a=>?_) λb a=>?_
  ·try simp[go_sem,g,b]
   refine wE a ziR λj a=>?_
   exact wV b (c _) (ai a)
  exact wV b (c _) (ai a)
 exact wV d (c _) (ai a)
def mS(b:am)(c:Int)(d:List ao)(a:bZ):Option (Bool×Bool):=
 (qu b c d).bind λk=>
 if(!k.2)=O then(
 J (Z,Z))else(
 (Ay b a.Out).bind λl=>
 if(!l)=O then(
 J (Z,O))else(
 if(a.e9==1)=O then(
 (t7 b c d a.Out a.be).bind λf=>
 ((if f.2=O then(
 if f.1=O then(
 (IU a.Poly).bind λg=>
 J g)else(
 J Z))else(
 J Z):Option Bool).bind λj=>
 J (j,O)))else(
 if(a.e9==2)=O then(
 (ut b c d a.Out a.Poly).bind λe=>
 ((if e.2=O then(
 if e.1=O then(
 (Lh a.be).bind λi=>
 J i)else(
 J Z))else(
 J Z):Option Bool).bind λh=>
 J (h,O)))else(
 J (Z,O)))))
def zjx{j k l m r}(u:mS j k l m=J r):aq zH 24 [(.sh,vE j),(.sh,.int .i64 k),(.sh,vJ l),(.sh,vP m)] (Eo (.bR [.bool r.1,.bool r.2]) jY):=by
 apply pF 76 [] [] [] [.tmp 8,.tmp 9] u zLT Tryz.func24;intro B b a g;unfold mS at a;refine wW ?_;refine wE a IA λy a=>?_
 refine wK [1,2,4,7,11] ?_;refine wW ?_;refine wI a (λq a=>?_) λq a=>?_
 ·exact wl b a
 refine wW ?_;refine wE a Py λz a=>?_
 refine wW ?_;refine wI a (λs a=>?_) λs a=>?_
 ·exact wl b a
 iterate 2 refine wW ?_
 refine wB ?_;refine wK [1,2,4,7,31,32] ?_;refine wI a (λt a=>?_) λt a=>?_
 ·refine wE a zmF λA a=>?_
  refine wK [7,12,13] ?_;refine wJ a (λo=>[(8,.v (.bool o)),(9,.v (.bool O))]) (λo a=>?_) λ_ i a=>?_
  ·exact wm b a
  refine wG a (λf a=>?_) λf a=>?_
  ·try simp[go_sem,g,f]
   refine wG a (λc a=>?_) λc a=>?_
   ·try simp[go_sem,g,c]
    refine wE a zkF λv a=>?_
    exact wV c (i _) (ai a)
   exact wV c (i _) (ai a)
  exact wV f (i _) (ai a)
 refine wW ?_;refine wI a (λp a=>?_) λp a=>?_
 ·refine wE a zn7 λw a=>?_
  refine wK [7,14,15] ?_;refine wJ a (λn=>[(8,.v (.bool n)),(9,.v (.bool O))]) (λn a=>?_) λ_ e a=>?_
  ·exact wm b a
  refine wG a (λh a=>?_) λh a=>?_
  ·try simp[go_sem,g,h]
   refine wG a (λd a=>?_) λd a=>?_
   ·try simp[go_sem,g,d]
    refine wE a zjK λx a=>?_
    exact wV d (e _) (ai a)
   exact wV d (e _) (ai a)
  exact wV h (e _) (ai a)
 cases b _ (ai a)
 iterate 2 refine wW ?_
 try simp[go_sem,g]
def Hm(b:am)(c:Int)(d:List ao)(a:List bZ):Option (Int×Bool):=
 (qu b c d).bind λi=>
 ((if(!i.2)=O then(
 J O)else(
 J (decide (6<(a.length:Int)))):Option Bool).bind λh=>
 if h=O then(
 J (0,Z))else(
 ((aO (σ:=(List ao)) (λfH e=>
 (ix a fH).bind λf=>
 (mS b c e f).bind λg=>
 if(!g.2)=O then(
 J (.out (.inr (0,Z))))else(
 if(!g.1)=O then(
 J (.out (.inr (fH,O))))else(
 J (.go f.Out)))) (λe=>.inl ()) (a.length) 0 d:Option (Unit ⊕ (Int×Bool))).bind (Sum.elim (λj=>
 J ((a.length:Int),O)) J))))
def zi1{j k l c r}(v:Hm j k l c=J r):aq zH 8 [(.sh,vE j),(.sh,.int .i64 k),(.sh,vJ l),(.sh,vV c)] (Eo (.bR [.int .i64 r.1,.bool r.2]) jY):=by
 apply pF 55 [] [] [] [.tmp 8,.tmp 9] v cl8 Tryz.func8;intro E b a g;unfold Hm at a;refine wW ?_;refine wE a IA λD a=>?_
 refine wK [1,2,3,4,11] ?_;refine bE a [1,2,3,4] (λo=>[(29,.v (.bool o))]) (λo a=>?_) λ_ m a=>?_
 ·refine wI a (λu a=>?_) λu a=>?_
  ·exact wl b a
  iterate 2 (try simp[go_sem,g];try intros;refine ba ?_)
  refine wS a (λy=>[(3,.v (vV c))]) (λy a=>?_) λ_ x i a=>?_
  ·cases b _ (ai a);try simp[go_sem,g]
   try intros
   refine ba ?_;try simp[go_sem,g]
   try intros
   try simp[go_sem,g]
  refine wB ?_;obtain⟨A,q,f⟩:=a;refine bG q [1,3,4,30,31] (λfH d=>[(2,.v (vJ d)),(32,.v (.int .i64 fH))]) (λd _ s=>?_) λfH d _ _ h n p z a=>?_
  ·exact wn s (x _) f
  refine wW ?_;refine wu h n ?_;refine wW ?_;refine wB ?_;obtain⟨B,g,a⟩:=Rx g a;refine wK [1,2,3,4,12,13,30,31,32] ?_;refine wE a zjx λC a=>?_
  refine wK [1,3,4,12,13,14,15,30,31,32] ?_;refine wW ?_;refine wI a (λw a=>?_) λw a=>?_
  ·cases p _ (ai a);cases b _ (i _ f);refine wW ?_;try simp[go_sem,g]
  iterate 2 refine wW ?_
  refine wI a (λt a=>?_) λt a=>?_
  ·cases p _ (ai a);cases b _ (i _ f);refine wW ?_;try simp[go_sem,g]
  iterate 2 refine wW ?_
  exact wi h n (z _) (ai a)
 refine wG a (λe a=>?_) λe a=>?_
 ·exact wV e (m _) (ai a)
 try simp[go_sem,g,e]
 try intros
 exact wT (m _) (ai a)
def FL(e:List Int)(f:Int)(g:Int)(d:am):Option (Int×(List Int×Int×Int)):=
 (rU e f g 20).bind λa=>
 if a.1=O then(
 (rc a.2.1 a.2.2.1 a.2.2.2 [0,1,i64.wrap (d.P-1),d.P,(-1),5]).bind λb=>
 J (b.1,(b.2.1,b.2.2.1,b.2.2.2)))else(
 (Ag a.2.1 a.2.2.1 a.2.2.2 d).bind λc=>
 J (c.1,(c.2.1,c.2.2.1,c.2.2.2)))
def zgW{c e f b r}(i:FL c e f b=J r):aq zH 104 [(.io,vB c e f),(.sh,vE b)] (Eo (.int .i64 r.1) [vB r.2.1 r.2.2.1 r.2.2.2,.az]):=by
 apply pF 18 [0] [] [] [.tmp 4] i zEf Tryz.func104;intro m d a g;unfold FL at a;refine wW ?_;refine wC a [.io,.sh] yJ λj a=>?_
 refine wW ?_;refine wI a (λh a=>?_) λh a=>?_
 ·refine wC a [.io,.mv] yd λk a=>?_
  refine wK [0,4] ?_;exact wm d a
 refine wW ?_;refine wC a [.io,.sh] PA λl a=>?_
 exact wl d a
def GL(e:List Int)(f:Int)(g:Int)(d:am):Option (Int×(List Int×Int×Int)):=
 (rU e f g 24).bind λa=>
 if a.1=O then(
 (rc a.2.1 a.2.2.1 a.2.2.2 [d.Q,(-1),i64.wrap (d.Q-1)]).bind λb=>
 J (b.1,(b.2.1,b.2.2.1,b.2.2.2)))else(
 (DC a.2.1 a.2.2.1 a.2.2.2 d).bind λc=>
 J (c.1,(c.2.1,c.2.2.1,c.2.2.2)))
def Zz{c e f b r}(i:GL c e f b=J r):aq zH 154 [(.io,vB c e f),(.sh,vE b)] (Eo (.int .i64 r.1) [vB r.2.1 r.2.2.1 r.2.2.2,.az]):=by
 apply pF 18 [0] [] [] [.tmp 4] i zGv Tryz.func154;intro m d a g;unfold GL at a;refine wW ?_;refine wC a [.io,.sh] yJ λj a=>?_
 refine wW ?_;refine wI a (λh a=>?_) λh a=>?_
 ·refine wC a [.io,.mv] yd λk a=>?_
  refine wK [0,4] ?_;exact wm d a
 refine wW ?_;refine wC a [.io,.sh] Ru λl a=>?_
 exact wl d a
def Gx(m:List Int)(n:Int)(o:Int)(k:am)(l:cQ):Option (cQ×(List Int×Int×Int)):=
 (Bl l.aF).bind λc=>
 (Bl l.aX).bind λz2=>
 (Bl l.aG).bind λb=>
 (fu m n o 12).bind λa=>
 ((if(a.1==0)=O then(
 if decide (0<(b.length:Int))=O then(
 (fu a.2.1 a.2.2.1 a.2.2.2 (b.length:Int)).bind λe=>
 (GL e.2.1 e.2.2.1 e.2.2.2 k).bind λh=>
 (ix b e.1).bind λq=>
 J (.inl ((h.2.1,h.2.2.1,h.2.2.2),c,z2,b.set e.1.toNat h.1)))else(
 J (.inl ((a.2.1,a.2.2.1,a.2.2.2),c,z2,b))))else(
 if(a.1==1)=O then(
 if decide (0<(c.length:Int))=O then(
 (fu a.2.1 a.2.2.1 a.2.2.2 (c.length:Int)).bind λf=>
 (FL f.2.1 f.2.2.1 f.2.2.2 k).bind λj=>
 (ix c f.1).bind λr=>
 J (.inl ((j.2.1,j.2.2.1,j.2.2.2),c.set f.1.toNat j.1,z2,b)))else(
 J (.inl ((a.2.1,a.2.2.1,a.2.2.2),c,z2,b))))else(
 if(a.1==2)=O then(
 if decide (0<(z2.length:Int))=O then(
 (fu a.2.1 a.2.2.1 a.2.2.2 (z2.length:Int)).bind λg=>
 (GL g.2.1 g.2.2.1 g.2.2.2 k).bind λi=>
 (ix z2 g.1).bind λp=>
 J (.inl ((i.2.1,i.2.2.1,i.2.2.2),c,z2.set g.1.toNat i.1,b)))else(
 J (.inl ((a.2.1,a.2.2.1,a.2.2.2),c,z2,b))))else(
 if(a.1==3)=O then(
 gd ((b.length+1)*8<=140737488355328/\b.length+1<=4611686018427387904)<|
 J (.inl ((a.2.1,a.2.2.1,a.2.2.2),c,z2,b++[0])))else(
 if(a.1==4)=O then(
 J (.inr ((cQ.mk [] [] []),(a.2.1,a.2.2.1,a.2.2.2))))else(
 J (.inl ((a.2.1,a.2.2.1,a.2.2.2),c,z2,b))))))):Option (((List Int×Int×Int)×List Int×List Int×List Int) ⊕ (cQ×(List Int×Int×Int)))).bind (Sum.elim (λd=>
 J ((cQ.mk d.2.1 d.2.2.1 d.2.2.2),(d.1.1,d.1.2.1,d.1.2.2))) J))
def zgB{f i j d e r}(p:Gx f i j d e=J r):aq zH 105 [(.io,vB f i j),(.sh,vE d),(.sh,vW e)] (Eo (vX r.1) [vB r.2.1 r.2.2.1 r.2.2.2,.az,.az]):=by
 apply pF 81 [0] [] [] [.cell 6 56] p zFR Tryz.func105;intro H h a g;unfold Gx at a;refine wW ?_;refine wZ (kE [0,1,3,4,6,7,2,5,8,9,10] [41,42,41,42,41,42,3,3,3,0,42]) follows ?_;refine wE a KR λE a=>?_
 refine wE a KR λz2 a=>?_
 refine wE a KR λF a=>?_
 refine wK [0,4,5,6] ?_;refine wC a [.io,.sh] gA λG a=>?_
 refine wW ?_;refine wS a (λc=>[(0,.v (vB c.1.1 c.1.2.1 c.1.2.2)),(5,.bl [vD c.2.1,vD c.2.2.1,vD c.2.2.2]),(6,.bl [.sl O 1 [],.sl O 1 [],.sl O 1 []])]) (λc a=>?_) λ_ b q a=>?_
 ·exact wl h a
 refine wB ?_;refine wW ?_;refine wI a (λn a=>?_) λn a=>?_
 ·try simp[go_sem,g]
  try intros
  refine ba ?_;try simp[go_sem,g]
  try intros
  refine wK [0,4,5,6,7,28] ?_;refine wI a (λo a=>?_) λo a=>?_
  ·refine wZ (kE [0,1,2,3,5,6,4,7,8,9] [41,42,0,0,0,34,3,3,0,0]) follows ?_;refine wC a [.io,.sh] gA λx a=>?_
   refine wC a [.io,.sh] Zz λw a=>?_
   obtain⟨y,g,a⟩:=Rx g a;exact wT (b _) (ai a)
  exact wT (b _) (ai a)
 refine wW ?_;refine wI a (λl a=>?_) λl a=>?_
 ·try simp[go_sem,g]
  try intros
  refine wK [0,4,5,6,8] ?_;refine wW ?_;refine wI a (λm a=>?_) λm a=>?_
  ·refine wZ (kE [0,1,2,3,5,6,4,7,8,9] [41,42,0,0,0,34,3,3,0,0]) follows ?_;refine wC a [.io,.sh] gA λA a=>?_
   refine wC a [.io,.sh] zgW λC a=>?_
   obtain⟨z,g,a⟩:=Rx g a;exact wT (b _) (ai a)
  exact wT (b _) (ai a)
 refine wW ?_;refine wI a (λs a=>?_) λs a=>?_
 ·try simp[go_sem,g]
  try intros
  refine wK [0,4,5,6,9] ?_;refine wW ?_;refine wI a (λt a=>?_) λt a=>?_
  ·refine wZ (kE [0,1,2,3,5,6,4,7,8,9] [41,42,0,0,0,34,3,3,0,0]) follows ?_;refine wC a [.io,.sh] gA λD a=>?_
   refine wC a [.io,.sh] Zz λB a=>?_
   obtain⟨v,g,a⟩:=Rx g a;exact wT (b _) (ai a)
  exact wT (b _) (ai a)
 refine wK [0,5,6,21,70] ?_;refine wI a (λu a=>?_) λu a=>?_
 ·obtain⟨g,a⟩:=Rg g a;exact wT (b _) (ai a)
 refine wW ?_;refine wI a (λk a=>?_) λk a=>?_
 ·cases h _ (q _ (ai a));refine wW ?_;try simp[go_sem,g]
 exact wT (b _) (ai a)
def Il(k:List Int)(l:Int)(m:Int)(i:am)(a:bZ):Option (bZ×(List Int×Int×Int)):=
 gd (a.Out.length*16<=140737488355328/\a.Out.length<=4611686018427387904)<|
 (fu k l m 9).bind λb=>
 ((if(b.1==0)=O then(
 if decide (0<(a.Out.length:Int))=O then(
 (fu b.2.1 b.2.2.1 b.2.2.2 (a.Out.length:Int)).bind λf=>
 (FL f.2.1 f.2.2.1 f.2.2.2 i).bind λh=>
 (ix a.Out f.1).bind λo=>
 J ((h.2.1,h.2.2.1,h.2.2.2),a.e9,a.Out.set f.1.toNat (ao.mk o.A h.1),a.be.cC,a.be.aH,a.be.Pi.aF,a.be.Pi.aX,a.be.Pi.aG,a.Poly.bX,a.Poly.bN,a.Poly.aH,a.Poly.Pi.aF,a.Poly.Pi.aX,a.Poly.Pi.aG))else(
 J ((b.2.1,b.2.2.1,b.2.2.2),a.e9,a.Out,a.be.cC,a.be.aH,a.be.Pi.aF,a.be.Pi.aX,a.be.Pi.aG,a.Poly.bX,a.Poly.bN,a.Poly.aH,a.Poly.Pi.aF,a.Poly.Pi.aX,a.Poly.Pi.aG)))else(
 if(b.1==1)=O then(
 (Gx b.2.1 b.2.2.1 b.2.2.2 i a.be.Pi).bind λd=>
 J ((d.2.1,d.2.2.1,d.2.2.2),a.e9,a.Out,a.be.cC,a.be.aH,d.1.aF,d.1.aX,d.1.aG,a.Poly.bX,a.Poly.bN,a.Poly.aH,a.Poly.Pi.aF,a.Poly.Pi.aX,a.Poly.Pi.aG))else(
 if(b.1==2)=O then(
 (Gx b.2.1 b.2.2.1 b.2.2.2 i a.Poly.Pi).bind λe=>
 J ((e.2.1,e.2.2.1,e.2.2.2),a.e9,a.Out,a.be.cC,a.be.aH,a.be.Pi.aF,a.be.Pi.aX,a.be.Pi.aG,a.Poly.bX,a.Poly.bN,a.Poly.aH,e.1.aF,e.1.aX,e.1.aG))else(
 if(b.1==3)=O then(
 (fu b.2.1 b.2.2.1 b.2.2.2 4).bind λg=>
 J ((g.2.1,g.2.2.1,g.2.2.2),g.1,a.Out,a.be.cC,a.be.aH,a.be.Pi.aF,a.be.Pi.aX,a.be.Pi.aG,a.Poly.bX,a.Poly.bN,a.Poly.aH,a.Poly.Pi.aF,a.Poly.Pi.aX,a.Poly.Pi.aG))else(
 if(b.1==4)=O then(
 if decide (1<(a.Out.length:Int))=O then(
 (ix a.Out 0).bind λn=>
 (ix a.Out 1).bind λj=>
 (ix (a.Out.set 0 j) 1).bind λp=>
 J ((b.2.1,b.2.2.1,b.2.2.2),a.e9,(a.Out.set 0 j).set 1 n,a.be.cC,a.be.aH,a.be.Pi.aF,a.be.Pi.aX,a.be.Pi.aG,a.Poly.bX,a.Poly.bN,a.Poly.aH,a.Poly.Pi.aF,a.Poly.Pi.aX,a.Poly.Pi.aG))else(
 J ((b.2.1,b.2.2.1,b.2.2.2),a.e9,a.Out,a.be.cC,a.be.aH,a.be.Pi.aF,a.be.Pi.aX,a.be.Pi.aG,a.Poly.bX,a.Poly.bN,a.Poly.aH,a.Poly.Pi.aF,a.Poly.Pi.aX,a.Poly.Pi.aG)))else(
 J ((b.2.1,b.2.2.1,b.2.2.2),a.e9,a.Out,a.be.cC,a.be.aH,a.be.Pi.aF,a.be.Pi.aX,a.be.Pi.aG,a.Poly.bX,a.Poly.bN,a.Poly.aH,a.Poly.Pi.aF,a.Poly.Pi.aX,a.Poly.Pi.aG)))))):Option (((List Int×Int×Int)×Int×List ao×List Int×List Int×List Int×List Int×List Int×List Int×List Int×List Int×List Int×List Int×List Int))).bind λc=>
 J ((bZ.mk c.2.1 c.2.2.1 (cO.mk c.2.2.2.1 c.2.2.2.2.1 (cQ.mk c.2.2.2.2.2.1 c.2.2.2.2.2.2.1 c.2.2.2.2.2.2.2.1)) (cu.mk c.2.2.2.2.2.2.2.2.1 c.2.2.2.2.2.2.2.2.2.1 c.2.2.2.2.2.2.2.2.2.2.1 (cQ.mk c.2.2.2.2.2.2.2.2.2.2.2.1 c.2.2.2.2.2.2.2.2.2.2.2.2.1 c.2.2.2.2.2.2.2.2.2.2.2.2.2))),(c.1.1,c.1.2.1,c.1.2.2)))
def zi3{f h i d e r}(q:Il f h i d e=J r):aq zH 67 [(.io,vB f h i),(.sh,vE d),(.sh,vP e)] (Eo (vY r.1) [vB r.2.1 r.2.2.1 r.2.2.2,.az,.az]):=by
 apply pF 80 [0] [] [] [.cell 6 62] q zLn Tryz.func67;intro D j a g;unfold Il at a;obtain⟨g,a⟩:=Rg g a
 iterate 2 refine wW ?_
 refine wK [0,4,5,6,7] ?_;try simp[go_sem,g]
 try intros
 refine ba ?_;try simp[go_sem,g]
 try intros
 refine wC a [.io,.sh] gA λA a=>?_
 refine wW ?_;refine wJ a (λb=>[(0,.v (vB b.1.1 b.1.2.1 b.1.2.2)),(6,.bl [.int .i64 0,.sl O 2 [],.sl O 1 [],.sl O 1 [],.sl O 1 [],.sl O 1 [],.sl O 1 [],.sl O 1 [],.sl O 1 [],.sl O 1 [],.sl O 1 [],.sl O 1 [],.sl O 1 []]),(7,.bl [.int .i64 b.2.1,vG b.2.2.1,vC b.2.2.2.1,vC b.2.2.2.2.1,vC b.2.2.2.2.2.1,vC b.2.2.2.2.2.2.1,vC b.2.2.2.2.2.2.2.1,vC b.2.2.2.2.2.2.2.2.1,vC b.2.2.2.2.2.2.2.2.2.1,vC b.2.2.2.2.2.2.2.2.2.2.1,vC b.2.2.2.2.2.2.2.2.2.2.2.1,vC b.2.2.2.2.2.2.2.2.2.2.2.2.1,vC b.2.2.2.2.2.2.2.2.2.2.2.2.2])]) (λb a=>?_) λ_ c a=>?_
 ·exact wl j a
 refine wB ?_;refine wW ?_;refine wI a (λo a=>?_) λo a=>?_
 ·refine wK [0,4,6,7,8,24] ?_;refine wI a (λp a=>?_) λp a=>?_
  ·refine wZ (kE [0,1,2,3,5,6,4,7,8,9,10] [57,58,0,0,0,34,3,3,0,0,0]) follows ?_;refine wC a [.io,.sh] gA λB a=>?_
   refine wC a [.io,.sh] zgW λC a=>?_
   obtain⟨z,g,a⟩:=Rx g a;exact wT (c _) (ai a)
  exact wT (c _) (ai a)
 refine wK [0,4,5,6,7,8,20,35] ?_;refine wI a (λk a=>?_) λk a=>?_
 ·refine wC a [.io,.sh,.sh] zgB λt a=>?_
  try simp[go_sem,g]
  refine nA 7 4 (by simp[go_sem,g];rfl) rfl (by simp[go_sem]) ?_;refine nA 7 5 (by simp[go_sem,g];rfl) rfl (by simp[go_sem]) ?_;refine nA 7 6 (by simp[go_sem,g];rfl) rfl (by simp[go_sem]) ?_;exact wT (c _) (ai a)
 refine wW ?_;refine wI a (λm a=>?_) λm a=>?_
 ·refine wC a [.io,.sh,.sh] zgB λu a=>?_
  try simp[go_sem,g]
  refine nA 7 10 (by simp[go_sem,g];rfl) rfl (by simp[go_sem]) ?_;refine nA 7 11 (by simp[go_sem,g];rfl) rfl (by simp[go_sem]) ?_;refine nA 7 12 (by simp[go_sem,g];rfl) rfl (by simp[go_sem]) ?_;exact wT (c _) (ai a)
 refine wW ?_;refine wI a (λl a=>?_) λl a=>?_
 ·refine wC a [.io,.sh] gA λv a=>?_
  exact wT (c _) (ai a)
 refine wW ?_;refine wI a (λs a=>?_) λs a=>?_
 ·refine wW ?_;refine wI a (λn a=>?_) λn a=>?_
  ·obtain⟨y,g,a⟩:=hO g 0 a;refine wK [0,6,7,9] ?_;refine wZ (kD 0 [57,58,57,58,0,0,0,0]) follows ?_;obtain⟨w,g,a⟩:=hO g 1 a;obtain⟨x,g,a⟩:=hO g 1 a;try simp only[zu]at g
   refine wW ?_;exact wT (c _) (ai a)
  exact wT (c _) (ai a)
 exact wT (c _) (ai a)
def NV(i:List Int):Option (am×Int×List ao×List bZ):=
 (FJ i).bind λc=>
 (EQ c.1 c.2.1 c.2.2.1 c.2.2.2.1 c.2.2.2.2.1 c.2.2.2.2.2).bind λz2=>
 ((aO (σ:=(List Int×Int×Int)×List bZ) (λji b=>
 (((rU b.1.1 b.1.2.1 b.1.2.2 4).bind λd=>
 if d.1=O then(
 (ix b.2 ji).bind λj=>
 (Il d.2.1 d.2.2.1 d.2.2.2 c.1 j).bind λh=>
 J ((h.2.1,h.2.2.1,h.2.2.2),b.2.set ji.toNat h.1))else(
 J ((d.2.1,d.2.2.1,d.2.2.2),b.2)):Option (((List Int×Int×Int)×List bZ))).bind λg=>
 J (.go ((g.1.1,g.1.2.1,g.1.2.2),g.2)))) (λb=>((b.1.1,b.1.2.1,b.1.2.2),b.2)) (z2.1.length) 0 ((i,0,0),z2.1):Option (((List Int×Int×Int)×List bZ))).bind λa=>
 (fu a.1.1 a.1.2.1 a.1.2.2 12).bind λe=>
 ((if(e.1==0)=O then(
 gd ((a.2.length+1)*296<=140737488355328/\a.2.length+1<=4611686018427387904)<|
 J (a.2++[(bZ.mk 0 [] (cO.mk [] [] (cQ.mk [] [] [])) (cu.mk [] [] [] (cQ.mk [] [] [])))]))else(
 if(e.1==1)=O then(
 if decide (1<(a.2.length:Int))=O then(
 gd (1<=a.2.length/\a.2.length<=a.2.length)<|
 J ((a.2.take a.2.length).drop 1))else(
 J a.2))else(
 if(e.1==2)=O then(
 (fu e.2.1 e.2.2.1 e.2.2.2 2).bind λk=>
 dO (σ:=(List bZ)) (λf=>
 if decide ((f.length:Int)<(i64.wrap (6+k.1)))=O then(
 gd ((f.length+1)*296<=140737488355328/\f.length+1<=4611686018427387904)<|
 J (.go (f++[(bZ.mk 1 [] (cO.mk [] [] (cQ.mk [] [] [])) (cu.mk [] [] [] (cQ.mk [] [] [])))])))else(
 J (.out f))) a.2)else(
 J a.2))):Option ((List bZ))).bind λl=>
 J (c.1,c.2.1,c.2.2.1,l)))
def zkx{i r}(D:NV i=J r):aq zH 25 [(.sh,vA i)] (Eo (.bR [vE r.1,.int .i64 r.2.1,vJ r.2.2.1,vV r.2.2.2]) [.az]):=by
 apply pF 89 [] [32,33,34,35,54,62,82] [28] [.cell 2 25,.tmp 3,.tmp 4,.tmp 5] D zLA Tryz.func25;intro P y a g;unfold NV at a;refine wW ?_;refine wE a YW λN a=>?_
 refine wK [0,2,6,7,8,9,10,11] ?_;refine wW ?_;refine wE a YB λz2 a=>?_
 refine wK [2,6,7,8,12,13] ?_;try simp[go_sem,g]
 try intros
 refine ba ?_;refine bE a [2,6,7,8] (λe=>[(12,.v (vB e.1.1 e.1.2.1 e.1.2.2)),(13,.v (vQ e.2))]) (λe a=>?_) λ_ z a=>?_
 ·refine wC a [.io,.sh] gA λK a=>?_
  refine wW ?_;refine bE a [2,6,7,8] (λk=>[(13,.v (vV k))]) (λk a=>?_) λ_ c a=>?_
  ·refine wK [2,3,4,5] ?_;exact wm y a
  refine wB ?_;refine wW ?_;refine wI a (λp a=>?_) λp a=>?_
  ·obtain⟨g,a⟩:=Rg g a;try simp[go_sem,g]
   refine ME 13 (by simp[go_sem,g];rfl) (by simp[go_sem]) ?_;exact wT (c _) (ai a)
  refine wW ?_;refine wI a (λA a=>?_) λA a=>?_
  ·try simp[go_sem,g]
   try intros
   refine wK [2,6,7,8,13,69] ?_;refine wI a (λB a=>?_) λB a=>?_
   ·obtain⟨g,a⟩:=Rg g a;exact wT (c _) (ai a)
   try simp[go_sem,g]
   refine ME 13 (by simp[go_sem,g];rfl) (by simp[go_sem]) ?_;exact wT (c _) (ai a)
  refine wK [2,6,7,8,12,13,72] ?_;refine wI a (λo a=>?_) λo a=>?_
  ·refine wC a [.io,.sh] gA λM a=>?_
   refine wW ?_;refine wB ?_;obtain⟨H,t,w⟩:=a;refine ka t [2,6,7,8,16] (λf=>[(13,.v (vQ f))]) λf _ _ v x a=>?_
   try simp[go_sem,g]
   try intros
   refine ba ?_;refine wI a (λC a=>?_) λC a=>?_
   ·refine wW ?_;refine wB ?_;obtain⟨g,a⟩:=Rg g a;exact wT (x _) (ai a)
   cases v _ (ai a);try simp[go_sem,g]
   refine ME 13 (by simp[go_sem,g];rfl) (by simp[go_sem]) ?_;exact wT (c _) w
  try simp[go_sem,g]
  refine ME 13 (by simp[go_sem,g];rfl) (by simp[go_sem]) ?_;exact wT (c _) (ai a)
 refine wB ?_;obtain⟨G,u,n⟩:=a;refine bG u [2,6,7,8,40] (λji b=>[(12,.v (vB b.1.1 b.1.2.1 b.1.2.2)),(13,.v (vQ b.2)),(41,.v (.int .i64 ji))]) (λb _ s=>?_) λji b _ _ l j F m a=>?_
 ·exact wn s (z _) n
 refine wW ?_;refine wu l j ?_;refine wW ?_;refine bE a [2,6,7,8,40,41] (λd=>[(12,.v (vB d.1.1 d.1.2.1 d.1.2.2)),(13,.v (vQ d.2))]) (λd a=>?_) λ_ h a=>?_
 ·exact wi l j (m _) (ai a)
 refine wB ?_;refine wW ?_;refine wC a [.io,.sh] yJ λI a=>?_
 refine wW ?_;refine wI a (λq a=>?_) λq a=>?_
 ·refine wZ (kD 0 [0,0,0,50,0,0,0,0,3,0,0]) follows ?_;obtain⟨E,g,a⟩:=Rx g a;refine wC a [.io,.sh,.sh] zi3 λL a=>?_
  exact wT (h _) (ai a)
 exact wT (h _) (ai a)
def I4(b:List Int):Option (am×Int×List ao×List bZ):=
 (NV b).bind λa=>
 J (a.1,a.2.1,a.2.2.1,a.2.2.2)
def zkc{b r}(d:I4 b=J r):aq zH 9 [(.sh,vA b)] (Eo (.bR [vE r.1,.int .i64 r.2.1,vJ r.2.2.1,vV r.2.2.2]) [.az]):=by
 apply pF 12 [] [] [] [.cell 2 25,.tmp 3,.tmp 4,.tmp 5] d cl9 Tryz.func9;intro f c a g;unfold I4 at a;refine wW ?_;refine wE a zkx λe a=>?_
 refine wK [2,3,4,5] ?_;exact wm c a
def KE(c:am)(d:Int)(e:List ao)(b:List bZ):Option (List Int×List ao×Bool):=
 (qu c d e).bind λl=>
 ((if(!l.2)=O then(
 J O)else(
 J (decide (6<(b.length:Int)))):Option Bool).bind λk=>
 if k=O then(
 J ([],[],Z))else(
 ((aO (σ:=(List ao)×List Int) (λfH a=>
 (((ix b fH).bind λg=>
 (mS c d a.1 g).bind λh=>
 if(!h.2)=O then(
 J (.inr (.out (.inr ([],[],Z)))))else(
 if h.1=O then(
 gd ((a.2.length+1)*8<=140737488355328/\a.2.length+1<=4611686018427387904)<|
 J (.inl (g.Out,a.2++[fH])))else(
 J (.inl (a.1,a.2)))):Option ((List ao×List Int) ⊕ (fi (List ao×List Int) ((List ao×List Int) ⊕ (List Int×List ao×Bool))))).bind (Sum.elim (λf=>
 J (.go (f.1,f.2))) J))) (λa=>.inl (a.1,a.2)) (b.length) 0 (e,[]):Option ((List ao×List Int) ⊕ (List Int×List ao×Bool))).bind (Sum.elim (λi=>
 (Hu i.1).bind λj=>
 J (i.2,j,O)) J))))
def zlV{j k l m r}(y:KE j k l m=J r):aq zH 10 [(.sh,vE j),(.sh,.int .i64 k),(.sh,vJ l),(.sh,vV m)] (Eo (.bR [vD r.1,vG r.2.1,.bool r.2.2]) jY):=by
 apply pF 61 [] [] [] [.tmp 8,.tmp 9,.tmp 10] y zJm Tryz.func10;intro I c a g;unfold KE at a;refine wW ?_;refine wE a IA λH a=>?_
 refine wK [1,2,3,4,12] ?_;refine bE a [1,2,3,4] (λq=>[(31,.v (.bool q))]) (λq a=>?_) λ_ n a=>?_
 ·refine wI a (λx a=>?_) λx a=>?_
  ·exact wl c a
  iterate 3 (try simp[go_sem,g];try intros;refine ba ?_)
  refine wS a (λf=>[(2,.v (vJ f.1)),(13,.v (vD f.2))]) (λf a=>?_) λ_ z u a=>?_
  ·refine wE a ze1 λG a=>?_
   refine wK [8,9,10] ?_;exact wm c a
  refine wB ?_;obtain⟨D,s,p⟩:=a;refine bG s [1,4,33,34] (λfH b=>[(2,.v (vJ b.1)),(13,.v (vD b.2)),(35,.v (.int .i64 fH))]) (λb _ t=>?_) λfH b _ _ h o B C a=>?_
  ·exact wn t (z _) p
  refine wW ?_;refine wu h o ?_;refine wW ?_;refine Z6 a [1,4,33,34,35] (λd=>[(2,.v (vJ d.1)),(13,.v (vD d.2))]) (λd a=>?_) λ_ i w a=>?_
  ·exact wi h o (C _) (ai a)
  refine wB ?_;obtain⟨E,g,a⟩:=Rx g a;refine wK [1,2,4,13,14,15,33,34,35] ?_;refine wE a zjx λF a=>?_
  refine wK [1,2,4,13,14,15,16,17,33,34,35] ?_;refine wW ?_;refine wI a (λv a=>?_) λv a=>?_
  ·cases B _ (w _ (ai a));cases c _ (u _ p);refine wW ?_;try simp[go_sem,g]
  iterate 2 refine wW ?_
  refine wI a (λA a=>?_) λA a=>?_
  ·refine wZ (kE [0,1,2,4,5,3,6,7] [0,0,0,121,122,5,0,0]) follows ?_;obtain⟨g,a⟩:=Rg g a;exact wT (i _) (ai a)
  exact wT (i _) (ai a)
 refine wG a (λe a=>?_) λe a=>?_
 ·exact wV e (n _) (ai a)
 try simp[go_sem,g,e]
 try intros
 exact wT (n _) (ai a)
def KB(b:am)(c:Int)(a:cO):Option Bool:=
 ((if((a.cC.length:Int)==c)=O then(
 if((a.aH.length:Int)==c)=O then(
 if((a.Pi.aF.length:Int)==(i64.wrap (c+5)))=O then(
 if((a.Pi.aX.length:Int)==1)=O then(
 if((a.Pi.aG.length:Int)==(i64.wrap ((i64.wrap (2*c))+4)))=O then(
 (p7 b a.cC).bind λh=>
 if h=O then(
 (p7 b a.aH).bind λd=>
 if d=O then(
 (p7 b a.Pi.aF).bind λe=>
 if e=O then(
 (sF b a.Pi.aG).bind λf=>
 J f)else(
 J Z))else(
 J Z))else(
 J Z))else(
 J Z))else(
 J Z))else(
 J Z))else(
 J Z))else(
 J Z):Option Bool).bind λg=>
 J g)
def zre{l m n r}(q:KB l m n=J r):aq zH 155 [(.sh,vE l),(.sh,.int .i64 m),(.sh,vN n)] (Eo (.bool r) gJ):=by
 apply pF 71 [] [] [] [.tmp 6] q zHo Tryz.func155;intro w p a g;unfold KB at a;refine wW ?_;refine wJ a (λo=>[(6,.v (.bool o))]) (λo a=>?_) λ_ b a=>?_
 ·exact wm p a
 try simp[go_sem,g]
 try intros
 refine wG a (λh a=>?_) λh a=>?_
 ·try simp[go_sem,g,h]
  try intros
  refine wG a (λi a=>?_) λi a=>?_
  ·try simp[go_sem,g,i]
   try intros
   refine wG a (λj a=>?_) λj a=>?_
   ·try simp[go_sem,g,j]
    try intros
    refine wG a (λk a=>?_) λk a=>?_
    ·try simp[go_sem,g,k]
     try intros
     refine wG a (λf a=>?_) λf a=>?_
     ·try simp[go_sem,g,f]
      refine wE a ye λv a=>?_
      try simp[go_sem,g,f]
      refine wG a (λc a=>?_) λc a=>?_
      ·try simp[go_sem,g,c]
       refine wE a ye λs a=>?_
       try simp[go_sem,g,c]
       refine wG a (λe a=>?_) λe a=>?_
       ·try simp[go_sem,g,e]
        refine wE a ye λt a=>?_
        try simp[go_sem,g,e]
        refine wG a (λd a=>?_) λd a=>?_
        ·try simp[go_sem,g,d]
         refine wE a Df λu a=>?_
         exact wV d (b _) (ai a)
        exact wV d (b _) (ai a)
       exact wV e (b _) (ai a)
      exact wV c (b _) (ai a)
     exact wV f (b _) (ai a)
    exact wV k (b _) (ai a)
   exact wV j (b _) (ai a)
  exact wV i (b _) (ai a)
 exact wV h (b _) (ai a)
def L9(a:am)(b:Int):Option Int:=
 (l4 b (i64.wrap (a.Q-1)) a.P).bind λc=>
 J c
def ztF{b c r}(e:L9 b c=J r):aq zH 160 [(.sh,vE b),(.sh,.int .i64 c)] (Eo (.int .i64 r) cM):=by
 apply pF 12 [] [] [] [.tmp 4] e zFL Tryz.func160;intro h d a g;unfold L9 at a;refine wW ?_;refine wE a yF λf a=>?_
 refine wK [4] ?_;exact wm d a
def Jm(a:am)(i:Int)(f:ct)(c:List ao)(g:List ao)(b:cO):Option Bool:=
 ((if((g.length:Int) !=(c.length:Int))=O then(
 J O)else(
 (KB a (c.length:Int) b).bind λz5=>
 if(!z5)=O then(
 J O)else(
 (ix b.Pi.aX 0).bind λx7=>
 (AX a i c g b).bind λz8=>
 J (x7 !=z8))):Option Bool).bind λx3=>
 if x3=O then(
 J Z)else(
 (ix b.Pi.aX 0).bind λD=>
 gd (0<=(i64.wrap ((c.length:Int)+4)))<|
 gd ((i64.wrap ((c.length:Int)+4)).toNat<=b.Pi.aG.length/\b.Pi.aG.length<=b.Pi.aG.length)<|
 (Bg a i c g b.cC).bind λe=>
 ((aO (σ:=Int) (λi16 k=>
 (ix e i16).bind λz=>
 gd (a.Q≠0)<|
 J (.go ((i64.wrap (k*z)).tmod a.Q))) (λk=>k) (e.length) 0 1:Option Int).bind λP=>
 (vt c).bind λo=>
 (vt g).bind λn=>
 (ix b.aH (i64.wrap ((c.length:Int)-1))).bind λC=>
 (ep a b.cC).bind λF=>
 (ep a f.Hs).bind λH=>
 (L9 a H).bind λyT=>
 (ep a [F,yT]).bind λI=>
 (mc a b.cC e).bind λY=>
 (cF a f.H (i64.wrap (0-P))).bind λK=>
 (ep a [C,K]).bind λs=>
 (mc a o.1 e).bind λq=>
 (mc a o.2 e).bind λG=>
 (ix b.Pi.aG 0).bind λwF=>
 (ix b.Pi.aG 1).bind λE=>
 (ix b.Pi.aG 2).bind λS=>
 (ix b.Pi.aG 3).bind λm=>
 (cF a a.G wF).bind λt=>
 (cF a a.G E).bind λzV=>
 (mc a f.Hs ((b.Pi.aG.take b.Pi.aG.length).drop ((i64.wrap ((c.length:Int)+4)).toNat))).bind λve=>
 (ep a [zV,ve]).bind λM=>
 (cF a a.G S).bind λv6=>
 (cF a a.G (i64.wrap (0-m))).bind λT=>
 (mc a n.1 ((b.Pi.aG.take b.Pi.aG.length).drop ((i64.wrap ((c.length:Int)+4)).toNat))).bind λu=>
 (ep a [T,u]).bind λL=>
 (cF a i (i64.wrap (0-m))).bind λR=>
 (mc a n.2 ((b.Pi.aG.take b.Pi.aG.length).drop ((i64.wrap ((c.length:Int)+4)).toNat))).bind λW=>
 (ep a [R,W]).bind λr=>
 ((aO (σ:=(List Int)×List Int×Int) (λl d=>
 (ix b.aH l).bind λp=>
 gd ((d.1.length+1)*8<=140737488355328/\d.1.length+1<=4611686018427387904)<|
 (ix b.Pi.aG (i64.wrap (4+l))).bind λB=>
 (ix ((b.Pi.aG.take b.Pi.aG.length).drop ((i64.wrap ((c.length:Int)+4)).toNat)) l).bind λX=>
 (cF a a.G B).bind λv=>
 (cF a d.2.2 X).bind λx=>
 (ep a [v,x]).bind λN=>
 gd ((d.2.1.length+1)*8<=140737488355328/\d.2.1.length+1<=4611686018427387904)<|
 J (.go (d.1++[p],d.2.1++[N],p))) (λd=>(d.1,d.2.1)) (b.aH.length) 0 ([I,Y,s,q,G],[t,M,v6,L,r],f.H):Option ((List Int×List Int))).bind λj=>
 ((aO (σ:=Unit) (λh A=>
 (ix j.1 h).bind λw=>
 (ix b.Pi.aF h).bind λy=>
 (ix j.2 h).bind λU=>
 (cF a w D).bind λwL=>
 (ep a [y,wL]).bind λQ=>
 if(Q !=U)=O then(
 J (.out (.inr Z)))else(
 J (.go ()))) (λA=>.inl ()) (j.1.length) 0 ():Option (Unit ⊕ Bool)).bind (Sum.elim (λzj=>
 J O) J))))))
set_option maxHeartbeats 1000000 in
def zql{n s v w x y r}(X:Jm n s v w x y=J r):aq zH 107 [(.sh,vE n),(.sh,.int .i64 s),(.sh,vM v),(.sh,vJ w),(.sh,vJ x),(.sh,vN y)] (Eo (.bool r) qr):=by
 apply pF 268 [] [] [] [.tmp 12] X zEi Tryz.func107;intro Φ e a g;unfold Jm at a
 iterate 2 (try simp[go_sem,g];try intros;refine ba ?_)
 refine bE a [1,3,4,6,8,11,13] (λB=>[(59,.v (.bool B))]) (λB a=>?_) λ_ f a=>?_
 ·refine wI a (λW a=>?_) λW a=>?_
  ·exact wl e a
  obtain⟨en,g,a⟩:=hO g 0 a;refine wW ?_;refine wK [1,3,4,6,8,11,13,14] ?_;refine wZ (kD 0 [89,89,90,89,89,90,0,0]) follows ?_
  iterate 2 obtain⟨g,a⟩:=Rg g a
  refine wW ?_;refine wK [1,3,4,6,8,11,13,14,15,16,17] ?_;refine wE a ZI λbM a=>?_
  iterate 2 (try simp[go_sem,g];try intros;refine ba ?_)
  try simp[go_sem,g]
  try intros
  refine wK [1,3,4,6,8,11,13,14,15,16,17,18,19,82,83,84] ?_;refine bE a [1,3,4,6,8,11,13,14,15,16,17,18] (λz=>[(19,.v (.int .i64 z))]) (λz a=>?_) λ_ E a=>?_
  ·refine wE a Fl λmL a=>?_
   refine wW ?_;refine wE a Fl λfZ a=>?_
   refine wK [1,6,8,11,13,14,15,16,17,18,19,22,23,24,25] ?_;refine wZ (kE [0,1,2,3,5,6,7,8,13,14,15,16,18,19,20,21,22,23,24,25,26,27,28,29,33,34,35,37,38,39,4,9,10,11,12,17,30,31,32,36,40,41,42] [50,50,89,90,50,50,65,66,50,89,90,0,50,89,90,0,0,0,0,50,65,66,0,0,50,0,0,50,0,0,4,4,4,0,7,4,4,0,6,3,3,0,7]) follows ?_;obtain⟨d4,g,a⟩:=Rx g a;refine wD a gW λgw a=>?_
   refine wD a gW λkC a=>?_
   refine wD a ztF λyT a=>?_
   refine wD a gW λkL a=>?_
   refine wD a ph λsC a=>?_
   refine wD a eP λmB a=>?_
   refine wE a gW λAo a=>?_
   refine wE a ph λAU a=>?_
   refine wE a ph λk7 a=>?_
   refine wK [1,6,8,11,14,15,16,17,24,25,26] ?_;refine wZ (kE [0,1,2,3,4,5,7,8,9,10,11,12,13,15,16,17,18,22,23,24,25,26,27,29,30,31,32,33,34,35,36,38,39,40,44,45,46,47,48,49,50,52,53,54,6,14,19,20,21,28,37,41,42,43,51,55,56,57,58,59] [50,49,50,0,0,0,50,50,49,50,0,0,0,50,65,66,0,50,49,50,0,0,0,50,50,49,50,0,0,0,0,50,0,0,50,50,0,0,0,0,0,50,0,0,4,4,4,0,7,4,4,4,0,7,3,3,0,6,0,7]) follows ?_;obtain⟨wF,g,a⟩:=hO g 0 a;obtain⟨gK,g,a⟩:=hO g 1 a;obtain⟨pQ,g,a⟩:=hO g 2 a;obtain⟨Hw,g,a⟩:=hO g 3 a;refine wD a eP λBL a=>?_
   refine wD a eP λzV a=>?_
   refine wD a ph λve a=>?_
   refine wD a gW λn7 a=>?_
   refine wD a eP λv6 a=>?_
   refine wD a eP λpZ a=>?_
   refine wD a ph λBm a=>?_
   refine wD a gW λme a=>?_
   refine wE a eP λpA a=>?_
   refine wE a ph λqL a=>?_
   refine wE a gW λAa a=>?_
   refine wK [6,8,11,14,15,16,17,26,27] ?_
   iterate 2 (try simp[go_sem,g];try intros;refine ba ?_)
   refine bE a [6,14,15] (λh=>[(26,.v (vD h.1)),(27,.v (vD h.2))]) (λh a=>?_) λ_ F a=>?_
   ·try simp[go_sem,g]
    try intros
    refine wK [6,14,15,26,27,244,245,246] ?_;refine wS a (λY=>[]) (λY a=>?_) λ_ P S a=>?_
    ·exact wl e a
    refine wB ?_;obtain⟨b90,L,q⟩:=a;refine bG L [6,14,15,26,27,244,245] (λk l=>[(246,.v (.int .i64 k))]) (λl _ T=>?_) λk l _ _ m u M R a=>?_
    ·exact wn T (P _) q
    refine wW ?_;refine wu m u ?_;refine wW ?_;refine wB ?_;obtain⟨CE,g,a⟩:=Rx g a;refine wW ?_;refine wZ (kE [0,1,2,3,4,5,6,7,11,12,13,14,8,9,10,15] [50,0,0,0,0,50,0,0,0,0,0,0,4,0,7,0]) follows ?_;obtain⟨Ch,g,a⟩:=Rx g a;obtain⟨px,g,a⟩:=Rx g a;refine wD a eP λwL a=>?_
    refine wD a gW λoa a=>?_
    refine wK [6,14,15,26,27,244,245,246,266] ?_;refine wI a (λU a=>?_) λU a=>?_
    ·cases M _ (ai a);cases e _ (S _ q);refine wW ?_;try simp[go_sem,g]
    refine wW ?_;exact wi m u (R _) (ai a)
   refine wB ?_;obtain⟨b70,G,N⟩:=a;refine bG G [6,14,15,16,17,209,210] (λA b=>[(26,.v (vD b.1)),(27,.v (vD b.2.1)),(28,.v (.int .i64 b.2.2)),(211,.v (.int .i64 A))]) (λb _ I=>?_) λA b _ _ o t a6j K a=>?_
   ·exact wn I (F _) N
   refine wW ?_;refine wu o t ?_;refine wW ?_;refine wB ?_;obtain⟨xi,g,a⟩:=Rx g a;refine wK [6,14,15,16,17,26,27,28,29,30,209,210,211] ?_;obtain⟨g,a⟩:=Rg g a;refine wW ?_;refine wZ (kE [0,1,2,3,4,5,6,7,8,9,11,12,13,14,15,16,10,17,18,19,20,21,22] [0,50,50,49,50,0,0,0,0,0,50,0,0,0,0,0,4,3,0,6,0,5,0]) follows ?_;obtain⟨NZ,g,a⟩:=Rx g a;obtain⟨qi,g,a⟩:=gP g a;refine wD a eP λC7 a=>?_
   refine wE a eP λCI a=>?_
   refine wE a gW λnW a=>?_
   obtain⟨g,a⟩:=Rg g a;refine wK [6,14,15,16,17,26,27,30,209,210,211] ?_;refine wW ?_;exact wi o t (K _) (ai a)
  refine wB ?_;obtain⟨b23,C,Q⟩:=a;refine bG C [1,3,4,6,8,11,13,14,15,16,17,18,82,83] (λi16 i=>[(19,.v (.int .i64 i)),(84,.v (.int .i64 i16))]) (λi _ D=>?_) λi16 i _ _ j p a6B H a=>?_
  ·exact wn D (E _) Q
  refine wW ?_;refine wu j p ?_;refine wW ?_;refine wB ?_;obtain⟨Hh,g,a⟩:=Rx g a;obtain⟨g,a⟩:=Rz g a;refine wW ?_;refine wK [1,3,4,6,8,11,13,14,15,16,17,18,19,82,83,84] ?_;exact wi j p (H _) (ai a)
 refine wZ (kD 0 [0,0,0,0,0,50,0,90,3,0,0,0,89,89,90,0,0,50,0,0,0,90,4,0,0]) follows ?_;try simp[go_sem,g]
 try intros
 refine wH a (λc a=>?_) λc a=>?_
 ·exact wV c (f _) (ai a)
 try simp[go_sem,g,c]
 refine wE a zre λz5 a=>?_
 try simp[go_sem,g,c]
 refine wH a (λd a=>?_) λd a=>?_
 ·exact wV d (f _) (ai a)
 obtain⟨x7,g,a⟩:=hO g 0 a;try simp[go_sem,g,d]
 refine wD a zjW λz8 a=>?_
 exact wV d (f _) (ai a)
def HF(a:am)(b:Int)(c:List ao)(d:List ao)(f:cO):Option (Bool×Bool):=
 (((qj a b c).bind λi=>
 if(!i)=O then(
 J O)else(
 (qj a b d).bind λj=>
 J (!j)):Option Bool).bind λh=>
 if h=O then(
 J (Z,Z))else(
 (pX a (c.length:Int)).bind λe=>
 if(!e.2)=O then(
 J (Z,Z))else(
 (Jm a b e.1 c d f).bind λg=>
 J (g,O))))
def zmJ{d e f h i r}(n:HF d e f h i=J r):aq zH 69 [(.sh,vE d),(.sh,.int .i64 e),(.sh,vJ f),(.sh,vJ h),(.sh,vN i)] (Eo (.bR [.bool r.1,.bool r.2]) sU):=by
 apply pF 42 [] [] [] [.tmp 10,.tmp 11] n zK9 Tryz.func69;intro t c a g;unfold HF at a;refine wW ?_;refine bE a [1,2,3,5,9] (λk=>[(25,.v (.bool k))]) (λk a=>?_) λ_ j a=>?_
 ·refine wI a (λl a=>?_) λl a=>?_
  ·exact wl c a
  try simp[go_sem,g]
  try intros
  refine ba ?_;try simp[go_sem,g]
  try intros
  refine wE a Ps λs a=>?_
  refine wK [1,2,3,5,9,12,13] ?_;refine wW ?_;refine wI a (λm a=>?_) λm a=>?_
  ·exact wl c a
  refine wW ?_;refine wE a zql λo a=>?_
  refine wK [10,11] ?_;exact wm c a
 refine wE a D4 λp a=>?_
 refine wG a (λb a=>?_) λb a=>?_
 ·exact wV b (j _) (ai a)
 try simp[go_sem,g,b]
 refine wE a D4 λq a=>?_
 exact wV b (j _) (ai a)
def Fq(a:cQ):Option Bool:=
 J ((i64.wrap ((i64.wrap ((a.aF.length:Int)+(a.aX.length:Int)))+(a.aG.length:Int)))==0)
def W0{a r}(d:Fq a=J r):aq zH 108 [(.sh,vW a)] (Eo (.bool r) [.az]):=by
 apply pF 15 [] [] [] [.tmp 2] d zEq Tryz.func108;intro e c b g;unfold Fq at b;try simp[go_sem,g]
 try intros
 refine ba ?_;try simp[go_sem,g]
 try intros
 refine wK [2] ?_;exact wm c b
def IR(a:cu):Option Bool:=
 ((if((i64.wrap ((i64.wrap ((a.bX.length:Int)+(a.bN.length:Int)))+(a.aH.length:Int)))==0)=O then(
 (Fq a.Pi).bind λc=>
 J c)else(
 J Z):Option Bool).bind λb=>
 J b)
def zp5{c r}(h:IR c=J r):aq zH 70 [(.sh,vO c)] (Eo (.bool r) [.az]):=by
 apply pF 20 [] [] [] [.tmp 2] h zIY Tryz.func70;intro j f a g;unfold IR at a;refine wW ?_;refine wJ a (λe=>[(2,.v (.bool e))]) (λe a=>?_) λ_ d a=>?_
 ·exact wm f a
 try simp[go_sem,g]
 try intros
 refine wG a (λb a=>?_) λb a=>?_
 ·try simp[go_sem,g,b]
  refine wE a W0 λi a=>?_
  exact wV b (d _) (ai a)
 exact wV b (d _) (ai a)
def Jk(b:am)(c:Int)(a:cu):Option Bool:=
 ((if((a.bX.length:Int)==c)=O then(
 if((a.bN.length:Int)==c)=O then(
 if((a.aH.length:Int)==c)=O then(
 if((a.Pi.aF.length:Int)==(i64.wrap ((i64.wrap (3*c))+3)))=O then(
 if((a.Pi.aX.length:Int)==1)=O then(
 if((a.Pi.aG.length:Int)==(i64.wrap ((i64.wrap (5*c))+2)))=O then(
 (p7 b a.bX).bind λe=>
 if e=O then(
 (p7 b a.bN).bind λd=>
 if d=O then(
 (p7 b a.aH).bind λf=>
 if f=O then(
 (p7 b a.Pi.aF).bind λh=>
 if h=O then(
 (sF b a.Pi.aG).bind λg=>
 J g)else(
 J Z))else(
 J Z))else(
 J Z))else(
 J Z))else(
 J Z))else(
 J Z))else(
 J Z))else(
 J Z))else(
 J Z))else(
 J Z):Option Bool).bind λi=>
 J i)
def zrq{n o p r}(t:Jk n o p=J r):aq zH 162 [(.sh,vE n),(.sh,.int .i64 o),(.sh,vO p)] (Eo (.bool r) gJ):=by
 apply pF 85 [] [] [] [.tmp 6] t zGm Tryz.func162;intro z s a g;unfold Jk at a;refine wW ?_;refine wJ a (λq=>[(6,.v (.bool q))]) (λq a=>?_) λ_ b a=>?_
 ·exact wm s a
 try simp[go_sem,g]
 try intros
 refine wG a (λi a=>?_) λi a=>?_
 ·try simp[go_sem,g,i]
  try intros
  refine wG a (λj a=>?_) λj a=>?_
  ·try simp[go_sem,g,j]
   try intros
   refine wG a (λk a=>?_) λk a=>?_
   ·try simp[go_sem,g,k]
    try intros
    refine wG a (λl a=>?_) λl a=>?_
    ·try simp[go_sem,g,l]
     try intros
     refine wG a (λm a=>?_) λm a=>?_
     ·try simp[go_sem,g,m]
      try intros
      refine wG a (λf a=>?_) λf a=>?_
      ·try simp[go_sem,g,f]
       refine wE a ye λv a=>?_
       try simp[go_sem,g,f]
       refine wG a (λd a=>?_) λd a=>?_
       ·try simp[go_sem,g,d]
        refine wE a ye λu a=>?_
        try simp[go_sem,g,d]
        refine wG a (λc a=>?_) λc a=>?_
        ·try simp[go_sem,g,c]
         refine wE a ye λw a=>?_
         try simp[go_sem,g,c]
         refine wG a (λh a=>?_) λh a=>?_
         ·try simp[go_sem,g,h]
          refine wE a ye λy a=>?_
          try simp[go_sem,g,h]
          refine wG a (λe a=>?_) λe a=>?_
          ·try simp[go_sem,g,e]
           refine wE a Df λx a=>?_
           exact wV e (b _) (ai a)
          exact wV e (b _) (ai a)
         exact wV h (b _) (ai a)
        exact wV c (b _) (ai a)
       exact wV d (b _) (ai a)
      exact wV f (b _) (ai a)
     exact wV m (b _) (ai a)
    exact wV l (b _) (ai a)
   exact wV k (b _) (ai a)
  exact wV j (b _) (ai a)
 exact wV i (b _) (ai a)
def KF(a:Int)(d:Int)(c:Int)(e:Int)(f:Int):Option Int:=
 gd (a≠0)<|
 ((dO (σ:=Int×Int×Int) (λb=>
 if decide (b.2.2<=d)=O then(
 gd (a≠0)<|
 gd (a≠0)<|
 (q9 (i64.wrap ((i64.wrap ((i64.wrap (e*(b.2.2.tmod a)))+((i64.wrap (b.2.1*c)).tmod a)))-f)) a).bind λg=>
 gd (a≠0)<|
 J (.go ((i64.wrap (b.1*g)).tmod a,(i64.wrap (b.2.1*c)).tmod a,i64.wrap (b.2.2+1))))else(
 J (.out b.1))) ((1:Int).tmod a,1,1):Option Int).bind λh=>
 J h)
def zqk{c d e f h r}(p:KF c d e f h=J r):aq zH 168 [(.sh,.int .i64 c),(.sh,.int .i64 d),(.sh,.int .i64 e),(.sh,.int .i64 f),(.sh,.int .i64 h)] (Eo (.int .i64 r) sU):=by
 apply pF 42 [] [] [] [.tmp 10] p zGE Tryz.func168;intro u j a g;unfold KF at a;obtain⟨g,a⟩:=Rz g a
 iterate 3 refine wW ?_
 refine wJ a (λi=>[(11,.v (.int .i64 i))]) (λi a=>?_) λ_ k a=>?_
 ·exact wl j a
 refine wB ?_;obtain⟨s,q,m⟩:=a;refine ka q [0,1,2,3,4] (λb=>[(11,.v (.int .i64 b.1)),(12,.v (.int .i64 b.2.1)),(13,.v (.int .i64 b.2.2))]) λb _ _ n l a=>?_
 refine wW ?_;refine wI a (λo a=>?_) λo a=>?_
 ·refine wW ?_;refine wB ?_;obtain⟨g,a⟩:=Rz g a;refine wK [0,1,2,3,4,11,12,13] ?_;obtain⟨g,a⟩:=Rz g a;refine wE a HW λt a=>?_
  obtain⟨g,a⟩:=Rz g a;refine wK [0,1,2,3,4,11,12,13] ?_;exact wT (l _) (ai a)
 cases n _ (ai a);exact wT (k _) m
def FU(b:am)(c:Int)(d:Int):Option ((List Int)):=
 ((dO (σ:=(List Int)×Int) (λa=>
 if decide (a.2<=c)=O then(
 (l4 d a.2 b.Q).bind λe=>
 gd ((a.1.length+1)*8<=140737488355328/\a.1.length+1<=4611686018427387904)<|
 J (.go (a.1++[e],i64.wrap (a.2+1))))else(
 J (.out a.1))) ([],1):Option ((List Int))).bind λf=>
 J f)
def ZD{c d e r}(n:FU c d e=J r):aq zH 169 [(.sh,vE c),(.sh,.int .i64 d),(.sh,.int .i64 e)] (Eo (vD r) gJ):=by
 apply pF 23 [] [] [] [.tmp 6] n zGO Tryz.func169;intro s h a g;unfold FU at a
 iterate 3 refine wW ?_
 refine wJ a (λf=>[(7,.v (vD f))]) (λf a=>?_) λ_ i a=>?_
 ·exact wl h a
 refine wB ?_;obtain⟨p,o,k⟩:=a;refine ka o [1,2,3] (λb=>[(7,.v (vD b.1)),(8,.v (.int .i64 b.2))]) λb _ _ l j a=>?_
 refine wW ?_;refine wI a (λm a=>?_) λm a=>?_
 ·refine wW ?_;refine wB ?_;refine wE a yF λq a=>?_
  obtain⟨g,a⟩:=Rg g a;refine wK [1,2,3,7,8] ?_;exact wT (j _) (ai a)
 cases l _ (ai a);exact wT (i _) k
def CY(a:am)(k:Int)(l:Int)(b:List ao)(i:List ao)(c:cu):Option Bool:=
 ((if((i.length:Int) !=(b.length:Int))=O then(
 J O)else(
 (Jk a (b.length:Int) c).bind λz5=>
 if(!z5)=O then(
 J O)else(
 (ix c.Pi.aX 0).bind λx7=>
 (Ah a k b i c).bind λz8=>
 J (x7 !=z8))):Option Bool).bind λx3=>
 if x3=O then(
 J Z)else(
 (ix c.Pi.aX 0).bind λR=>
 (sP k b i c.bX).bind λP=>
 (qk a (⟨#[109,105,120,32,120]⟩:ByteArray) P).bind λn=>
 (Az a k b i c.bX c.bN).bind λm=>
 gd (0<=(i64.wrap ((i64.wrap (3*(b.length:Int)))+1)))<|
 gd (0<=(i64.wrap ((i64.wrap (4*(b.length:Int)))+1)))<|
 gd ((i64.wrap ((i64.wrap (3*(b.length:Int)))+1)).toNat<=(i64.wrap ((i64.wrap (4*(b.length:Int)))+1)).toNat/\(i64.wrap ((i64.wrap (4*(b.length:Int)))+1)).toNat<=c.Pi.aG.length)<|
 (ix c.Pi.aG (i64.wrap ((i64.wrap (5*(b.length:Int)))+1))).bind λq=>
 ((dO (σ:=(List Int)×List Int×Int) (λe=>
 if decide (e.2.2<(b.length:Int))=O then(
 (ix c.bX e.2.2).bind λA=>
 (ix c.bN e.2.2).bind λX=>
 (cF a A m.1).bind λT=>
 (cF a a.G (i64.wrap (0-m.2))).bind λY=>
 (ep a [T,X,Y]).bind λS=>
 gd ((e.1.length+1)*8<=140737488355328/\e.1.length+1<=4611686018427387904)<|
 (ix c.Pi.aG e.2.2).bind λQ=>
 (ix c.Pi.aG (i64.wrap ((b.length:Int)+e.2.2))).bind λI=>
 (oE a l Q I).bind λW=>
 gd ((e.2.1.length+1)*8<=140737488355328/\e.2.1.length+1<=4611686018427387904)<|
 J (.go (e.1++[S],e.2.1++[W],i64.wrap (e.2.2+1))))else(
 J (.out (e.1,e.2.1)))) ([],[],0):Option ((List Int×List Int))).bind λp=>
 ((dO (σ:=(List Int)×List Int×Int×Int) (λd=>
 if decide (d.2.2.2<(b.length:Int))=O then(
 (ix c.aH d.2.2.2).bind λr=>
 gd ((d.1.length+1)*8<=140737488355328/\d.1.length+1<=4611686018427387904)<|
 (ix c.Pi.aG d.2.2.2).bind λoA=>
 (ix c.Pi.aG (i64.wrap ((i64.wrap (2*(b.length:Int)))+d.2.2.2))).bind λsj=>
 (cF a d.2.2.1 oA).bind λn7=>
 (cF a l sj).bind λv6=>
 (ep a [n7,v6]).bind λpZ=>
 gd ((d.2.1.length+1)*8<=140737488355328/\d.2.1.length+1<=4611686018427387904)<|
 J (.go (d.1++[r],d.2.1++[pZ],r,i64.wrap (d.2.2.2+1))))else(
 J (.out (d.1,d.2.1)))) (p.1,p.2,a.G,0):Option ((List Int×List Int))).bind λg=>
 (ix c.aH (i64.wrap ((b.length:Int)-1))).bind λL=>
 (KF a.Q (b.length:Int) n m.1 m.2).bind λqL=>
 (cF a a.G (i64.wrap (0-qL))).bind λu=>
 (ep a [L,u]).bind λM=>
 gd ((g.1.length+1)*8<=140737488355328/\g.1.length+1<=4611686018427387904)<|
 (ix c.Pi.aG (i64.wrap (3*(b.length:Int)))).bind λU=>
 (cF a l U).bind λz56=>
 gd ((g.2.length+1)*8<=140737488355328/\g.2.length+1<=4611686018427387904)<|
 ((dO (σ:=(List Int)×List Int×Int) (λf=>
 if decide (f.2.2<(b.length:Int))=O then(
 (ix c.bN f.2.2).bind λqi=>
 gd ((f.1.length+1)*8<=140737488355328/\f.1.length+1<=4611686018427387904)<|
 (ix ((c.Pi.aG.take ((i64.wrap ((i64.wrap (4*(b.length:Int)))+1)).toNat)).drop ((i64.wrap ((i64.wrap (3*(b.length:Int)))+1)).toNat)) f.2.2).bind λH=>
 (ix c.Pi.aG (i64.wrap ((i64.wrap ((i64.wrap (4*(b.length:Int)))+1))+f.2.2))).bind λC=>
 (oE a l H C).bind λnW=>
 gd ((f.2.1.length+1)*8<=140737488355328/\f.2.1.length+1<=4611686018427387904)<|
 J (.go (f.1++[qi],f.2.1++[nW],i64.wrap (f.2.2+1))))else(
 J (.out (f.1,f.2.1)))) (g.1++[M],g.2++[z56],0):Option ((List Int×List Int))).bind λh=>
 (vt b).bind λs=>
 (vt i).bind λt=>
 (FU a (b.length:Int) n).bind λuI=>
 (mc a s.1 uI).bind λx=>
 (FU a (b.length:Int) n).bind λD=>
 (mc a s.2 D).bind λN=>
 gd ((h.1.length+2)*8<=140737488355328/\h.1.length+2<=4611686018427387904)<|
 (cF a a.G (i64.wrap (0-q))).bind λz=>
 (mc a t.1 ((c.Pi.aG.take ((i64.wrap ((i64.wrap (4*(b.length:Int)))+1)).toNat)).drop ((i64.wrap ((i64.wrap (3*(b.length:Int)))+1)).toNat))).bind λy=>
 (ep a [z,y]).bind λwR=>
 (cF a k (i64.wrap (0-q))).bind λnI=>
 (mc a t.2 ((c.Pi.aG.take ((i64.wrap ((i64.wrap (4*(b.length:Int)))+1)).toNat)).drop ((i64.wrap ((i64.wrap (3*(b.length:Int)))+1)).toNat))).bind λw=>
 (ep a [nI,w]).bind λE=>
 gd ((h.2.length+2)*8<=140737488355328/\h.2.length+2<=4611686018427387904)<|
 ((aO (σ:=(List Int)×List Int) (λo j=>
 (ix c.Pi.aF o).bind λv=>
 (ix j.1 o).bind λK=>
 (ix j.2 o).bind λG=>
 (cF a K R).bind λB=>
 (ep a [v,B]).bind λF=>
 if(F !=G)=O then(
 J (.out (.inr Z)))else(
 J (.go (j.1,j.2)))) (λj=>.inl ()) (c.Pi.aF.length) 0 (h.1++[x,N],h.2++[wR,E]):Option (Unit ⊕ Bool)).bind (Sum.elim (λpx=>
 J O) J)))))))
set_option maxHeartbeats 1000000 in
def zqi{o q t u v w r}(hr:CY o q t u v w=J r):aq zH 110 [(.sh,vE o),(.sh,.int .i64 q),(.sh,.int .i64 t),(.sh,vJ u),(.sh,vJ v),(.sh,vO w)] (Eo (.bool r) qr):=by
 apply pF 338 [] [] [] [.tmp 12] hr zEr Tryz.func110;intro Φ i a g;unfold CY at a
 iterate 2 (try simp[go_sem,g];try intros;refine ba ?_)
 refine bE a [1,2,3,4,6,11,13] (λy=>[(59,.v (.bool y))]) (λy a=>?_) λ_ j a=>?_
 ·refine wI a (λh9 a=>?_) λh9 a=>?_
  ·exact wl i a
  obtain⟨en,g,a⟩:=hO g 0 a;refine wW ?_;refine wK [1,2,3,4,6,11,13,14] ?_;refine wW ?_;refine wZ (kD 0 [50,0,0,0,89,90,3,3,0]) follows ?_;refine wE a E6 λbM a=>?_
  refine wE a Cw λbK a=>?_
  refine wK [1,2,3,4,6,11,13,14,15,16] ?_;refine wE a zlS λcA a=>?_
  refine wK [1,2,3,4,6,11,13,14,15,16,17,18] ?_
  iterate 3 obtain⟨g,a⟩:=Rg g a
  obtain⟨nq,g,a⟩:=Rx g a;refine wW ?_;refine wK [1,2,3,4,6,11,13,14,15,16,17,18,19,20] ?_
  iterate 2 refine wW ?_
  refine bE a [1,2,3,4,6,11,13,14,15,16,17,18,19,20] (λk=>[(21,.v (vD k.1)),(22,.v (vD k.2))]) (λk a=>?_) λ_ z a=>?_
  ·iterate 2 refine wW ?_
   refine bE a [1,2,3,4,6,11,13,14,15,16,17,18,19,20] (λl=>[(21,.v (vD l.1)),(22,.v (vD l.2))]) (λl a=>?_) λ_ A a=>?_
   ·refine wZ (kD 0 [0,50,89,90,0,0,0,0,50,49,50,49,50,0,0,0,0,4,0,4,0,6,0,5,0]) follows ?_;obtain⟨Yt,g,a⟩:=Rx g a;refine wD a zqk λqL a=>?_
    refine wD a eP λAa a=>?_
    refine wE a gW λZF a=>?_
    obtain⟨g,a⟩:=Rg g a;refine wK [1,2,3,4,6,11,13,14,15,16,19,20,21,22] ?_;refine wZ (kD 0 [0,50,0,0,0,0,0,0,3,0,5,0]) follows ?_;obtain⟨iH,g,a⟩:=Rx g a;refine wE a eP λz56 a=>?_
    obtain⟨g,a⟩:=Rg g a;refine wK [1,2,3,4,6,11,13,14,15,16,19,20,21,22] ?_;refine wW ?_;refine bE a [1,3,4,6,11,13,14,16,19,20] (λm=>[(21,.v (vD m.1)),(22,.v (vD m.2))]) (λm a=>?_) λ_ G a=>?_
    ·refine wE a Fl λoq a=>?_
     refine wW ?_;refine wE a Fl λqA a=>?_
     refine wK [1,6,11,13,14,16,19,20,21,22,27,28,29,30] ?_;refine wZ (kE [0,1,2,3,4,5,8,9,10,11,12,6,7,13,14,15,16,17] [0,50,0,50,0,0,50,0,50,0,0,3,3,3,3,0,5,0]) follows ?_;refine wE a ZD λuI a=>?_
     refine wE a ph λBA a=>?_
     refine wE a ZD λI6 a=>?_
     refine wE a ph λZK a=>?_
     obtain⟨g,a⟩:=Rg g a;refine wK [1,6,11,14,19,20,21,22,29,30] ?_;refine wZ (kE [0,1,2,3,4,5,6,8,9,10,14,15,16,17,18,20,21,22,7,11,12,13,19,23,24,25,26,27,28] [0,50,50,49,50,0,0,50,0,0,50,50,0,0,0,50,0,0,3,3,0,6,3,3,0,6,0,5,0]) follows ?_;refine wE a eP λDB a=>?_
     refine wE a ph λCV a=>?_
     refine wE a gW λwR a=>?_
     refine wE a eP λnI a=>?_
     refine wE a ph λB9 a=>?_
     refine wE a gW λJJ a=>?_
     obtain⟨g,a⟩:=Rg g a;refine wK [6,11,14,21,22] ?_;try simp[go_sem,g]
     try intros
     refine ba ?_;refine wS a (λpx=>[]) (λpx a=>?_) λ_ Y F a=>?_
     ·exact wl i a
     refine wB ?_;obtain⟨a6M,K,p⟩:=a;refine bG K [6,14,314,315] (λx h=>[(21,.v (vD h.1)),(22,.v (vD h.2)),(316,.v (.int .i64 x))]) (λh _ L=>?_) λx h _ _ n s I N a=>?_
     ·exact wn L (Y _) p
     refine wW ?_;refine wu n s ?_;refine wW ?_;refine wB ?_;obtain⟨B1,g,a⟩:=Rx g a;refine wK [6,14,21,22,31,32,314,315,316] ?_;refine wZ (kE [0,1,2,3,4,5,6,7,11,12,13,14,8,9,10,15] [50,0,50,0,0,0,0,0,0,0,0,0,4,0,7,0]) follows ?_;obtain⟨Qr,g,a⟩:=Rx g a;obtain⟨Nd,g,a⟩:=Rx g a;refine wD a eP λDV a=>?_
     refine wD a gW λMN a=>?_
     refine wK [6,14,21,22,314,315,316,336] ?_;refine wI a (λR a=>?_) λR a=>?_
     ·cases I _ (ai a);cases i _ (F _ p);refine wW ?_;try simp[go_sem,g]
     refine wW ?_;exact wi n s (N _) (ai a)
    refine wB ?_;obtain⟨b70,D,E⟩:=a;refine ka D [1,2,3,4,6,11,13,14,15,16,19,20] (λc=>[(21,.v (vD c.1)),(22,.v (vD c.2.1)),(26,.v (.int .i64 c.2.2))]) λc _ _ S Q a=>?_
    refine wW ?_;refine wI a (λh65 a=>?_) λh65 a=>?_
    ·refine wW ?_;refine wB ?_;obtain⟨qi,g,a⟩:=Rx g a;obtain⟨g,a⟩:=Rg g a;refine wK [1,2,3,4,6,11,13,14,15,16,19,20,21,22,26] ?_;refine wZ (kD 0 [0,50,0,0,0,0,0,0,0,0,0,0,0,0,0,3,0,5,0]) follows ?_;obtain⟨Nv,g,a⟩:=gP g a;obtain⟨EY,g,a⟩:=Rx g a;refine wE a D2 λnW a=>?_
     obtain⟨g,a⟩:=Rg g a;refine wK [1,2,3,4,6,11,13,14,15,16,19,20,21,22,26] ?_;exact wT (Q _) (ai a)
    cases S _ (ai a);exact wT (G _) E
   refine wB ?_;obtain⟨b49,M,U⟩:=a;refine ka M [1,2,3,4,6,11,13,14,15,16,17,18,19,20] (λb=>[(21,.v (vD b.1)),(22,.v (vD b.2.1)),(24,.v (.int .i64 b.2.2.1)),(25,.v (.int .i64 b.2.2.2))]) λb _ _ H P a=>?_
   refine wK [1,2,3,4,6,11,13,14,15,16,17,18,19,20,21,22,24,25,152] ?_;refine wI a (λB a=>?_) λB a=>?_
   ·refine wW ?_;refine wB ?_;obtain⟨o7,g,a⟩:=Rx g a;obtain⟨g,a⟩:=Rg g a;refine wW ?_;refine wZ (kE [0,1,2,3,4,5,6,7,9,10,11,12,13,14,15,16,17,8,18,19,20,21,22,23] [0,50,50,0,0,0,0,0,50,0,0,0,0,0,0,0,0,4,3,0,6,0,5,0]) follows ?_;obtain⟨oA,g,a⟩:=Rx g a;obtain⟨sj,g,a⟩:=Rx g a;refine wD a eP λn7 a=>?_
    refine wE a eP λv6 a=>?_
    refine wE a gW λpZ a=>?_
    obtain⟨g,a⟩:=Rg g a;refine wK [1,2,3,4,6,11,13,14,15,16,17,18,19,20,21,22,25] ?_;refine wW ?_;exact wT (P _) (ai a)
   cases H _ (ai a);exact wT (A _) U
  refine wB ?_;obtain⟨b32,C,T⟩:=a;refine ka C [1,2,3,4,6,11,13,14,15,16,17,18,19,20] (λd=>[(21,.v (vD d.1)),(22,.v (vD d.2.1)),(23,.v (.int .i64 d.2.2))]) λd _ _ W X a=>?_
  refine wW ?_;refine wI a (λur a=>?_) λur a=>?_
  ·refine wW ?_;refine wB ?_;refine wZ (kE [0,1,2,3,4,5,6,7,8,10,11,12,13,14,15,16,17,18,19,9,20,21,22,23,24,25] [0,50,50,89,90,0,0,0,0,89,90,0,0,0,50,49,50,0,0,4,4,0,6,0,5,0]) follows ?_;obtain⟨DL,g,a⟩:=Rx g a;obtain⟨lw,g,a⟩:=Rx g a;refine wD a eP λg9 a=>?_
   refine wD a eP λmL a=>?_
   refine wE a gW λfZ a=>?_
   obtain⟨g,a⟩:=Rg g a;refine wK [1,2,3,4,6,11,13,14,15,16,17,18,19,20,21,22,23] ?_;refine wZ (kD 0 [0,50,0,0,0,0,0,0,0,0,0,0,0,3,0,5,0]) follows ?_;obtain⟨d4,g,a⟩:=Rx g a;obtain⟨Pu,g,a⟩:=Rx g a;refine wE a D2 λkC a=>?_
   obtain⟨g,a⟩:=Rg g a;refine wK [1,2,3,4,6,11,13,14,15,16,17,18,19,20,21,22,23] ?_;exact wT (X _) (ai a)
  cases W _ (ai a);exact wT (z _) T
 refine wZ (kD 0 [0,0,0,0,0,50,0,90,3,0,0,0,89,89,90,0,0,50,0,0,0,90,4,0,0]) follows ?_;try simp[go_sem,g]
 try intros
 refine wH a (λe a=>?_) λe a=>?_
 ·exact wV e (j _) (ai a)
 try simp[go_sem,g,e]
 refine wE a zrq λz5 a=>?_
 try simp[go_sem,g,e]
 refine wH a (λf a=>?_) λf a=>?_
 ·exact wV f (j _) (ai a)
 obtain⟨x7,g,a⟩:=hO g 0 a;try simp[go_sem,g,f]
 refine wD a zos λz8 a=>?_
 exact wV f (j _) (ai a)
def G1(a:am)(b:Int)(c:List ao)(d:List ao)(f:cu):Option (Bool×Bool):=
 (((qj a b c).bind λi=>
 if(!i)=O then(
 J O)else(
 (qj a b d).bind λj=>
 J (!j)):Option Bool).bind λh=>
 if h=O then(
 J (Z,Z))else(
 (Gq a).bind λe=>
 if(!e.2)=O then(
 J (Z,Z))else(
 (CY a b e.1 c d f).bind λg=>
 J (g,O))))
def zn8{d e f h i r}(n:G1 d e f h i=J r):aq zH 71 [(.sh,vE d),(.sh,.int .i64 e),(.sh,vJ f),(.sh,vJ h),(.sh,vO i)] (Eo (.bR [.bool r.1,.bool r.2]) sU):=by
 apply pF 40 [] [] [] [.tmp 10,.tmp 11] n zJI Tryz.func71;intro t c a g;unfold G1 at a;refine wW ?_;refine bE a [1,2,3,5,9] (λk=>[(25,.v (.bool k))]) (λk a=>?_) λ_ j a=>?_
 ·refine wI a (λl a=>?_) λl a=>?_
  ·exact wl c a
  refine wW ?_;refine wE a zm0 λs a=>?_
  refine wK [1,2,3,5,9,12,13] ?_;refine wW ?_;refine wI a (λm a=>?_) λm a=>?_
  ·exact wl c a
  refine wW ?_;refine wE a zqi λo a=>?_
  refine wK [10,11] ?_;exact wm c a
 refine wE a D4 λp a=>?_
 refine wG a (λb a=>?_) λb a=>?_
 ·exact wV b (j _) (ai a)
 try simp[go_sem,g,b]
 refine wE a D4 λq a=>?_
 exact wV b (j _) (ai a)
def KN(a:cO):Option Bool:=
 ((if((i64.wrap ((a.cC.length:Int)+(a.aH.length:Int)))==0)=O then(
 (Fq a.Pi).bind λc=>
 J c)else(
 J Z):Option Bool).bind λb=>
 J b)
def zo2{c r}(h:KN c=J r):aq zH 72 [(.sh,vN c)] (Eo (.bool r) [.az]):=by
 apply pF 16 [] [] [] [.tmp 2] h zMm Tryz.func72;intro j f a g;unfold KN at a;refine wW ?_;refine wJ a (λe=>[(2,.v (.bool e))]) (λe a=>?_) λ_ d a=>?_
 ·exact wm f a
 try simp[go_sem,g]
 try intros
 refine wG a (λb a=>?_) λb a=>?_
 ·try simp[go_sem,g,b]
  refine wE a W0 λi a=>?_
  exact wV b (d _) (ai a)
 exact wV b (d _) (ai a)
def DI(b:am)(c:Int)(d:List ao)(a:bZ):Option Bool:=
 (Hl b a.Out).bind λk=>
 if(!k)=O then(
 J Z)else(
 if(a.e9==1)=O then(
 (HF b c d a.Out a.be).bind λf=>
 ((if f.2=O then(
 if f.1=O then(
 (IR a.Poly).bind λg=>
 J g)else(
 J Z))else(
 J Z):Option Bool).bind λj=>
 J j))else(
 if(a.e9==2)=O then(
 (G1 b c d a.Out a.Poly).bind λe=>
 ((if e.2=O then(
 if e.1=O then(
 (KN a.be).bind λh=>
 J h)else(
 J Z))else(
 J Z):Option Bool).bind λi=>
 J i))else(
 J Z)))
def zp9{j k l m r}(t:DI j k l m=J r):aq zH 27 [(.sh,vE j),(.sh,.int .i64 k),(.sh,vJ l),(.sh,vP m)] (Eo (.bool r) jY):=by
 apply pF 64 [] [] [] [.tmp 8] t zKC Tryz.func27;intro z b a g;unfold DI at a;refine wW ?_;refine wE a Ye λx a=>?_
 refine wW ?_;refine wI a (λq a=>?_) λq a=>?_
 ·exact wl b a
 refine wW ?_;refine wK [1,2,4,7,19] ?_;refine wB ?_;refine wW ?_;refine wI a (λs a=>?_) λs a=>?_
 ·refine wE a zmJ λy a=>?_
  refine wK [7,9,10] ?_;refine wJ a (λo=>[(8,.v (.bool o))]) (λo a=>?_) λ_ i a=>?_
  ·exact wm b a
  refine wG a (λf a=>?_) λf a=>?_
  ·try simp[go_sem,g,f]
   refine wG a (λd a=>?_) λd a=>?_
   ·try simp[go_sem,g,d]
    refine wE a zp5 λv a=>?_
    exact wV d (i _) (ai a)
   exact wV d (i _) (ai a)
  exact wV f (i _) (ai a)
 refine wW ?_;refine wI a (λp a=>?_) λp a=>?_
 ·refine wE a zn8 λu a=>?_
  refine wK [7,11,12] ?_;refine wJ a (λn=>[(8,.v (.bool n))]) (λn a=>?_) λ_ e a=>?_
  ·exact wm b a
  refine wG a (λh a=>?_) λh a=>?_
  ·try simp[go_sem,g,h]
   refine wG a (λc a=>?_) λc a=>?_
   ·try simp[go_sem,g,c]
    refine wE a zo2 λw a=>?_
    exact wV c (e _) (ai a)
   exact wV c (e _) (ai a)
  exact wV h (e _) (ai a)
 cases b _ (ai a)
 iterate 2 refine wW ?_
 try simp[go_sem,g]
def JV(d:am)(e:Int)(f:List ao)(c:List bZ):Option (List Int×List ao×Bool):=
 (((nr d e f).bind λk=>
 if(!k)=O then(
 J O)else(
 J (decide (6<(c.length:Int)))):Option Bool).bind λj=>
 if j=O then(
 J ([],[],Z))else(
 ((aO (σ:=(List ao)×List Int) (λfH a=>
 (((ix c fH).bind λh=>
 (DI d e a.1 h).bind λi=>
 if i=O then(
 gd ((a.2.length+1)*8<=140737488355328/\a.2.length+1<=4611686018427387904)<|
 J (h.Out,a.2++[fH]))else(
 J (a.1,a.2)):Option ((List ao×List Int))).bind λg=>
 J (.go (g.1,g.2)))) (λa=>(a.1,a.2)) (c.length) 0 (f,[]):Option ((List ao×List Int))).bind λb=>
 gd (b.1.length*16<=140737488355328/\b.1.length<=4611686018427387904)<|
 J (b.2,b.1,O))))
def zlE{i j k l r}(v:JV i j k l=J r):aq zH 11 [(.sh,vE i),(.sh,.int .i64 j),(.sh,vJ k),(.sh,vV l)] (Eo (.bR [vD r.1,vG r.2.1,.bool r.2.2]) jY):=by
 apply pF 47 [] [] [] [.tmp 8,.tmp 9,.tmp 10] v zIT Tryz.func11;intro E m a g;unfold JV at a;refine wW ?_;refine bE a [1,2,3,4] (λp=>[(23,.v (.bool p))]) (λp a=>?_) λ_ n a=>?_
 ·refine wI a (λu a=>?_) λu a=>?_
  ·exact wl m a
  iterate 3 (try simp[go_sem,g];try intros;refine ba ?_)
  refine wJ a (λe=>[(2,.v (vJ e.1)),(11,.v (vD e.2))]) (λe a=>?_) λ_ x a=>?_
  ·obtain⟨g,a⟩:=Rg g a;refine wK [8,9,10] ?_;exact wm m a
  refine wB ?_;obtain⟨z,q,w⟩:=a;refine bG q [1,4,24,25] (λfH b=>[(2,.v (vJ b.1)),(11,.v (vD b.2)),(26,.v (.int .i64 fH))]) (λb _ s=>?_) λfH b _ _ f o C y a=>?_
  ·exact wn s (x _) w
  refine wW ?_;refine wu f o ?_;refine wW ?_;refine bE a [1,4,24,25,26] (λc=>[(2,.v (vJ c.1)),(11,.v (vD c.2))]) (λc a=>?_) λ_ h a=>?_
  ·exact wi f o (y _) (ai a)
  refine wB ?_;obtain⟨A,g,a⟩:=Rx g a;refine wK [1,2,4,11,12,13,24,25,26] ?_;refine wE a zp9 λB a=>?_
  refine wW ?_;refine wI a (λt a=>?_) λt a=>?_
  ·obtain⟨g,a⟩:=Rg g a;refine wK [1,4,11,13,24,25,26] ?_;exact wT (h _) (ai a)
  exact wT (h _) (ai a)
 refine wE a Ty λD a=>?_
 refine wG a (λd a=>?_) λd a=>?_
 ·exact wV d (n _) (ai a)
 try simp[go_sem,g,d]
 try intros
 exact wT (n _) (ai a)
def GR(a:List Int)(b:List Int):Option Bool:=
 if((a.length:Int) !=(b.length:Int))=O then(
 J Z)else(
 ((aO (σ:=Unit) (λc f=>
 (ix a c).bind λd=>
 (ix b c).bind λe=>
 if(d !=e)=O then(
 J (.out (.inr Z)))else(
 J (.go ()))) (λf=>.inl ()) (a.length) 0 ():Option (Unit ⊕ Bool)).bind (Sum.elim (λg=>
 J O) J)))
def Yk{c d r}(q:GR c d=J r):aq zH 12 [(.sh,vC c),(.sh,vC d)] (Eo (.bool r) cM):=by
 apply pF 26 [] [] [] [.tmp 4] q zLH Tryz.func12;intro y b a g;unfold GR at a
 iterate 2 (try simp[go_sem,g];try intros;refine ba ?_)
 refine wI a (λp a=>?_) λp a=>?_
 ·exact wl b a
 iterate 2 (try simp[go_sem,g];try intros;refine ba ?_)
 refine wS a (λu=>[]) (λu a=>?_) λ_ n l a=>?_
 ·refine wK [4] ?_;exact wm b a
 refine wB ?_;obtain⟨v,t,j⟩:=a;refine bG t [0,1,12] (λf i=>[(13,.v (.int .i64 f))]) (λi _ s=>?_) λf i _ _ e h k m a=>?_
 ·exact wn s (n _) j
 refine wK [0,1,12,13,14] ?_;refine wu e h ?_;refine wW ?_;refine wB ?_;refine wW ?_;refine wZ (kD 0 [0,0,0,0,0,0,0,0,0]) follows ?_;obtain⟨w,g,a⟩:=Rx g a;obtain⟨x,g,a⟩:=Rx g a;refine wK [0,1,12,13,24] ?_;refine wI a (λo a=>?_) λo a=>?_
 ·cases k _ (ai a);cases b _ (l _ j);refine wW ?_;try simp[go_sem,g]
 refine wW ?_;exact wi e h (m _) (ai a)
def Kb(a:List ao)(b:List ao):Option Bool:=
 if((a.length:Int) !=(b.length:Int))=O then(
 J Z)else(
 ((aO (σ:=Unit) (λe f=>
 (ix a e).bind λc=>
 (ix b e).bind λd=>
 if(!(c.A==d.A&&c.B==d.B))=O then(
 J (.out (.inr Z)))else(
 J (.go ()))) (λf=>.inl ()) (a.length) 0 ():Option (Unit ⊕ Bool)).bind (Sum.elim (λg=>
 J O) J)))
def zmK{c d r}(q:Kb c d=J r):aq zH 13 [(.sh,vJ c),(.sh,vJ d)] (Eo (.bool r) cM):=by
 apply pF 26 [] [] [] [.tmp 4] q zMw Tryz.func13;intro y b a g;unfold Kb at a
 iterate 2 (try simp[go_sem,g];try intros;refine ba ?_)
 refine wI a (λp a=>?_) λp a=>?_
 ·exact wl b a
 iterate 2 (try simp[go_sem,g];try intros;refine ba ?_)
 refine wS a (λu=>[]) (λu a=>?_) λ_ n l a=>?_
 ·refine wK [4] ?_;exact wm b a
 refine wB ?_;obtain⟨v,t,j⟩:=a;refine bG t [0,1,12] (λf i=>[(13,.v (.int .i64 f))]) (λi _ s=>?_) λf i _ _ e h k m a=>?_
 ·exact wn s (n _) j
 refine wK [0,1,12,13,14] ?_;refine wu e h ?_;refine wW ?_;refine wB ?_;refine wW ?_;refine wZ (kD 0 [0,0,0,0,0,0,0,0,0]) follows ?_;obtain⟨w,g,a⟩:=Rx g a;obtain⟨x,g,a⟩:=Rx g a;refine wK [0,1,12,13,24] ?_;refine wI a (λo a=>?_) λo a=>?_
 ·cases k _ (ai a);cases b _ (l _ j);refine wW ?_;try simp[go_sem,g]
 refine wW ?_;exact wi e h (m _) (ai a)
def Jf(j:List Int)(k:Int)(l:Int):Option (List Int×(List Int×Int×Int)):=
 (fu j k l 7).bind λh=>
 (rU h.2.1 h.2.2.1 h.2.2.2 12).bind λz2=>
 ((if z2.1=O then(
 (rc z2.2.1 z2.2.2.1 z2.2.2.2 [12,13,24,25]).bind λi=>
 J ((i.2.1,i.2.2.1,i.2.2.2),i.1))else(
 J ((z2.2.1,z2.2.2.1,z2.2.2.2),h.1)):Option (((List Int×Int×Int)×Int))).bind λg=>
 (zC g.1.1 g.1.2.1 g.1.2.2 g.2).bind λa=>
 ((if decide (0<(a.1.length:Int))=O then(
 (rU a.2.1 a.2.2.1 a.2.2.2 8).bind λd=>
 J ((d.2.1,d.2.2.1,d.2.2.2),d.1))else(
 J ((a.2.1,a.2.2.1,a.2.2.2),Z)):Option (((List Int×Int×Int)×Bool))).bind λb=>
 ((if b.2=O then(
 (fu b.1.1 b.1.2.1 b.1.2.2 (a.1.length:Int)).bind λc=>
 (fu c.2.1 c.2.2.1 c.2.2.2 (i64.wrap ((a.1.length:Int)+2))).bind λf=>
 (ix a.1 c.1).bind λm=>
 J ((f.2.1,f.2.2.1,f.2.2.2),a.1.set c.1.toNat (i64.wrap (f.1-1))))else(
 J ((b.1.1,b.1.2.1,b.1.2.2),a.1)):Option (((List Int×Int×Int)×List Int))).bind λe=>
 J (e.2,(e.1.1,e.1.2.1,e.1.2.2)))))
def zin{f h i r}(p:Jf f h i=J r):aq zH 31 [(.io,vB f h i)] (Eo (vD r.1) [vB r.2.1 r.2.2.1 r.2.2.2]):=by
 apply pF 35 [0] [] [] [.tmp 2] p zJ1 Tryz.func31;intro y m a g;unfold Jf at a;refine wW ?_;refine wC a [.io,.sh] gA λw a=>?_
 refine wW ?_;refine wC a [.io,.sh] yJ λz2 a=>?_
 refine wW ?_;refine wJ a (λd=>[(0,.v (vB d.1.1 d.1.2.1 d.1.2.2)),(3,.v (.int .i64 d.2))]) (λd a=>?_) λ_ j a=>?_
 ·refine wC a [.io,.sh] NE λq a=>?_
  refine wK [0,4] ?_;refine wJ a (λb=>[(0,.v (vB b.1.1 b.1.2.1 b.1.2.2)),(4,.v (vD q.1)),(21,.v (.bool b.2))]) (λb a=>?_) λ_ l a=>?_
  ·refine wJ a (λc=>[(0,.v (vB c.1.1 c.1.2.1 c.1.2.2)),(4,.v (vD c.2))]) (λc a=>?_) λ_ k a=>?_
   ·exact wl m a
   refine wI a (λn a=>?_) λn a=>?_
   ·try simp[go_sem,g]
    try intros
    refine wC a [.io,.sh] gA λt a=>?_
    try simp[go_sem,g]
    try intros
    refine wC a [.io,.sh] gA λv a=>?_
    obtain⟨u,g,a⟩:=Rx g a;exact wT (k _) (ai a)
   exact wT (k _) (ai a)
  try simp[go_sem,g]
  try intros
  refine wG a (λe a=>?_) λe a=>?_
  ·try simp[go_sem,g,e]
   refine wC a [.io,.sh] yJ λs a=>?_
   exact wV e (l _) (ai a)
  exact wV e (l _) (ai a)
 refine wI a (λo a=>?_) λo a=>?_
 ·refine wC a [.io,.mv] yd λx a=>?_
  exact wT (j _) (ai a)
 exact wT (j _) (ai a)
def Kr(n:List Int):Option ((List (List Int))):=
 (fu n 0 0 6).bind λg=>
 (fu g.2.1 g.2.2.1 g.2.2.2 5).bind λz2=>
 ((dO (σ:=(List Int×Int×Int)×(List (List Int))×Int) (λa=>
 if decide (0<a.2.2)=O then(
 (zC a.1.1 a.1.2.1 a.1.2.2 g.1).bind λi=>
 gd ((a.2.1.length+1)*24<=140737488355328/\a.2.1.length+1<=4611686018427387904)<|
 J (.go ((i.2.1,i.2.2.1,i.2.2.2),a.2.1++[i.1],i64.wrap (a.2.2-1))))else(
 J (.out ((a.1.1,a.1.2.1,a.1.2.2),a.2.1)))) ((z2.2.1,z2.2.2.1,z2.2.2.2),[],z2.1):Option (((List Int×Int×Int)×(List (List Int))))).bind λb=>
 ((if decide (0<(b.2.length:Int))=O then(
 (rU b.1.1 b.1.2.1 b.1.2.2 10).bind λj=>
 J ((j.2.1,j.2.2.1,j.2.2.2),j.1))else(
 J ((b.1.1,b.1.2.1,b.1.2.2),Z)):Option (((List Int×Int×Int)×Bool))).bind λd=>
 ((if d.2=O then(
 (fu d.1.1 d.1.2.1 d.1.2.2 (b.2.length:Int)).bind λf=>
 (Jf f.2.1 f.2.2.1 f.2.2.2).bind λk=>
 (ix b.2 f.1).bind λp=>
 J ((k.2.1,k.2.2.1,k.2.2.2),b.2.set f.1.toNat k.1))else(
 J ((d.1.1,d.1.2.1,d.1.2.2),b.2)):Option (((List Int×Int×Int)×(List (List Int))))).bind λe=>
 (rU e.1.1 e.1.2.1 e.1.2.2 16).bind λm=>
 ((if m.1=O then(
 (fu m.2.1 m.2.2.1 m.2.2.2 2).bind λl=>
 dO (σ:=(List Int×Int×Int)×(List (List Int))) (λc=>
 if decide ((c.2.length:Int)<(i64.wrap (6+l.1)))=O then(
 (zC c.1.1 c.1.2.1 c.1.2.2 g.1).bind λh=>
 gd ((c.2.length+1)*24<=140737488355328/\c.2.length+1<=4611686018427387904)<|
 J (.go ((h.2.1,h.2.2.1,h.2.2.2),c.2++[h.1])))else(
 J (.out c.2))) ((l.2.1,l.2.2.1,l.2.2.2),e.2))else(
 J e.2):Option ((List (List Int)))).bind λo=>
 J o))))
def zob{l r}(D:Kr l=J r):aq zH 14 [(.sh,vA l)] (Eo (vH r) [.az]):=by
 apply pF 56 [] [] [10] [.tmp 2] D zKp Tryz.func14;intro Q z a g;unfold Kr at a
 iterate 2 refine wW ?_
 refine wC a [.io,.sh] gA λi a=>?_
 iterate 2 refine wW ?_
 refine wC a [.io,.sh] gA λz2 a=>?_
 refine wK [3,4,5,6] ?_;refine wJ a (λf=>[(3,.v (vB f.1.1 f.1.2.1 f.1.2.2)),(4,.v (.int .i64 i.1)),(5,.v (vH f.2))]) (λf a=>?_) λ_ A a=>?_
 ·refine bE a [4,5] (λd=>[(3,.v (vB d.1.1 d.1.2.1 d.1.2.2)),(31,.v (.bool d.2))]) (λd a=>?_) λ_ j a=>?_
  ·refine wJ a (λe=>[(3,.v (vB e.1.1 e.1.2.1 e.1.2.2)),(4,.v (.int .i64 i.1)),(5,.v (vH e.2))]) (λe a=>?_) λ_ k a=>?_
   ·refine wC a [.io,.sh] yJ λP a=>?_
    refine wW ?_;refine wJ a (λn=>[(5,.v (vH n))]) (λn a=>?_) λ_ m a=>?_
    ·exact wl z a
    refine wI a (λu a=>?_) λu a=>?_
    ·refine wC a [.io,.sh] gA λN a=>?_
     refine wW ?_;refine wB ?_;obtain⟨G,y,v⟩:=a;refine ka y [4,7] (λc=>[(3,.v (vB c.1.1 c.1.2.1 c.1.2.2)),(5,.v (vH c.2))]) λc _ _ x w a=>?_
     try simp[go_sem,g]
     try intros
     refine wK [3,4,5,7,48] ?_;refine wI a (λC a=>?_) λC a=>?_
     ·refine wW ?_;refine wB ?_;refine wC a [.io,.sh] NE λE a=>?_
      obtain⟨g,a⟩:=Rg g a;exact wT (w _) (ai a)
     cases x _ (ai a);exact wT (m _) v
    exact wT (m _) (ai a)
   refine wI a (λo a=>?_) λo a=>?_
   ·try simp[go_sem,g]
    try intros
    refine wC a [.io,.sh] gA λK a=>?_
    refine wC a [.io] zin λM a=>?_
    obtain⟨I,g,a⟩:=Rx g a;exact wT (k _) (ai a)
   exact wT (k _) (ai a)
  try simp[go_sem,g]
  try intros
  refine wG a (λh a=>?_) λh a=>?_
  ·try simp[go_sem,g,h]
   refine wC a [.io,.sh] yJ λL a=>?_
   exact wV h (j _) (ai a)
  exact wV h (j _) (ai a)
 refine wB ?_;obtain⟨F,p,s⟩:=a;refine pL p (λb=>[(3,.v (vB b.1.1 b.1.2.1 b.1.2.2)),(4,.v (.int .i64 i.1)),(5,.v (vH b.2.1)),(6,.v (.int .i64 b.2.2))]) λb _ _ t q a=>?_
 refine wW ?_;refine wI a (λB a=>?_) λB a=>?_
 ·refine wW ?_;refine wB ?_;refine wC a [.io,.sh] NE λH a=>?_
  obtain⟨g,a⟩:=Rg g a;refine wW ?_;exact wT (q _) (ai a)
 cases t _ (ai a);exact wT (A _) s
end
end Go.Pm
