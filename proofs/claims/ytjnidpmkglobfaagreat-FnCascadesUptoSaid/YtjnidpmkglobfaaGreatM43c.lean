/-
  Plain functions and their walks. Written by wip/tools/lift.py.
-/
import Derived.Test.YtjnidpmkglobfaaGreatM43b
open Bool renaming false→Z,true→O
open Option renaming some→J
set_option linter.defProp false
namespace Go.Pm
open Go.Am IntKind
open Go.Proofs
set_option maxRecDepth 100000
attribute [local irreducible] pw pwx pw1 pwg qv qz qf
attribute [-simp] List.map_set
set_option linter.unusedSimpArgs false
set_option linter.unusedVariables false
noncomputable def Ky(a:(List (List Int))):Option (List Int×Bool):=
 (pY (a.length:Int) 1 6).bind λo=>
 if(!o)=O then(
 J ([],Z))else(
 ((aO (σ:=Unit) (λj n=>
 (ix a j).bind λc=>
 (((xU c).bind λg=>
 if(!g)=O then(
 J O)else(
 (ix a 0).bind λe=>
 J ((c.length:Int) !=(e.length:Int))):Option Bool).bind λh=>
 if h=O then(
 J (.out (.inr ([],Z))))else(
 J (.go ())))) (λn=>.inl ()) (a.length) 0 ():Option (Unit ⊕ (List Int×Bool))).bind (Sum.elim (λp=>
 (ix a 0).bind λl=>
 (yk l).bind λi=>
 gd (1<=a.length/\a.length<=a.length)<|
 ((aO (σ:=(List Int)) (λm b=>
 (ix ((a.take a.length).drop 1) m).bind λf=>
 (BO b f).bind λk=>
 J (.go k)) (λb=>b) (((a.take a.length).drop 1).length) 0 i:Option ((List Int))).bind λd=>
 J (d,O))) J)))
def zrf{d r}(H:Ky d=J r):aq Tryz.prog 15 [(.sh,vL d)] (Eo (.bR [vD r.1,.bool r.2]) [.az]):=by
 apply pF 48 [] [] [] [.tmp 2,.tmp 3] H zIQ Tryz.func15;intro X e b g;unfold Ky at b;try simp[go_sem,g]
 try intros
 refine ba ?_;try simp[go_sem,g]
 try intros
 refine wE b vo λW b=>?_
 refine wW ?_;refine wI b (λG b=>?_) λG b=>?_
 ·exact wl e b
 iterate 2 (try simp[go_sem,g];try intros;refine ba ?_)
 refine wS b (λK=>[(0,.v (vL d))]) (λK b=>?_) λ_ F y b=>?_
 ·obtain⟨U,g,b⟩:=hO g 0 b;refine wE b OS λT b=>?_
  refine wK [0,6] ?_;obtain⟨g,b⟩:=Rg g b;try simp[go_sem,g]
  try intros
  refine ba ?_;refine wJ b (λl=>[(6,.v (vD l))]) (λl b=>?_) λ_ x b=>?_
  ·exact wl e b
  refine wB ?_;obtain⟨N,E,D⟩:=b;refine bG E [37,38] (λq h=>[(6,.v (vD h)),(39,.v (.int .i64 q))]) (λh _ C=>?_) λq h _ _ k c M B b=>?_
  ·exact wn C (x _) D
  have i:=c;try simp at i
  refine wW ?_;refine wt ?_ (hb:=by simp[go_sem,g,k,c,i]<;>omega);refine wW ?_;refine wB ?_;obtain⟨R,g,b⟩:=gP g b;refine wW ?_;refine wE b zqY λI b=>?_
  refine wK [6,37,38,39] ?_;exact wT (B I) (ai b) (a:=by simp[go_sem,g,uS k c (by first|assumption|(simp;assumption)|(simp;omega))])
 refine wB ?_;obtain⟨L,u,j⟩:=b;refine bG u [0,13,14] (λn s=>[(15,.v (.int .i64 n))]) (λs _ v=>?_) λn s _ _ o t A z b=>?_
 ·exact wn v (F _) j
 refine wK [0,13,14,15,16] ?_;refine wu o t ?_;refine wW ?_;refine wB ?_;obtain⟨P,g,b⟩:=Rx g b;refine wW ?_;refine bE b [0,13,14,15] (λm=>[(30,.v (.bool m))]) (λm b=>?_) λ_ p b=>?_
 ·refine wI b (λw b=>?_) λw b=>?_
  ·cases A _ (ai b);cases e _ (y _ j);refine wW ?_;try simp[go_sem,g]
  refine wW ?_;exact wi o t (z _) (ai b)
 refine wE b Vg λS b=>?_
 refine wG b (λf b=>?_) λf b=>?_
 ·exact wV f (p _) (ai b)
 obtain⟨Q,g,b⟩:=hO g 0 b;try simp[go_sem,g,f]
 try intros
 exact wT (p _) (ai b)
noncomputable def GA(a:List Int)(e:List Int):Option ((List Int)):=
 gd (0<=(a.length:Int)/\(a.length:Int)<=(a.length:Int)/\8*(a.length:Int)<=140737488355328/\(a.length:Int)<=4611686018427387904)<|
 (J (List.replicate a.length 0)).bind λg=>
 ((aO (σ:=(List Int)) (λc b=>
 (ix a c).bind λd=>
 (ix e d).bind λf=>
 (ix b c).bind λi=>
 J (.go (b.set c.toNat f))) (λb=>b) (a.length) 0 g:Option ((List Int))).bind λh=>
 J h)
def zrm{c i r}(s:GA c i=J r):aq Tryz.prog 38 [(.sh,vC c),(.sh,vC i)] (Eo (vD r) cM):=by
 apply pF 27 [] [] [] [.tmp 4] s zJW Tryz.func38;intro z p a g;unfold GA at a;obtain⟨g,a⟩:=Rg g a;obtain⟨t,d,a⟩:=mn a;have q:List.replicate c.length ([.int .i64 0]:List PV)=t.map ay:=by injection d with d;rw[<-d];simp[go_sem]
 iterate 3 (try simp[go_sem,g,q];try intros;refine ba ?_)
 refine wJ a (λj=>[(5,.v (vD j))]) (λj a=>?_) λ_ k a=>?_
 ·refine wK [4] ?_;exact wm p a
 refine wB ?_;obtain⟨v,l,o⟩:=a;refine bG l [1,11,12] (λe b=>[(5,.v (vD b)),(13,.v (.int .i64 e))]) (λb _ m=>?_) λe b _ _ h f w n a=>?_
 ·exact wn m (k _) o
 refine wW ?_;refine wu h f ?_;refine wW ?_;refine wB ?_;obtain⟨u,g,a⟩:=Rx g a;refine wK [1,5,6,7,11,12,13] ?_;obtain⟨x,g,a⟩:=Rx g a;obtain⟨y,g,a⟩:=Rx g a;refine wW ?_;exact wi h f (n _) (ai a)
noncomputable def Iy(a:(List (List Int))):Option (List Int×Bool):=
 (nO (a.length:Int) 1 6).bind λo=>
 if(!o)=O then(
 J ([],Z))else(
 ((aO (σ:=Unit) (λi m=>
 (ix a i).bind λc=>
 (((ix a 0).bind λd=>
 if((c.length:Int) !=(d.length:Int))=O then(
 J O)else(
 (Cz c).bind λn=>
 J (!n)):Option Bool).bind λg=>
 if g=O then(
 J (.out (.inr ([],Z))))else(
 J (.go ())))) (λm=>.inl ()) (a.length) 0 ():Option (Unit ⊕ (List Int×Bool))).bind (Sum.elim (λp=>
 (ix a 0).bind λk=>
 (Bl k).bind λh=>
 gd (1<=a.length/\a.length<=a.length)<|
 ((aO (σ:=(List Int)) (λl b=>
 (ix ((a.take a.length).drop 1) l).bind λf=>
 (GA f b).bind λj=>
 J (.go j)) (λb=>b) (((a.take a.length).drop 1).length) 0 h:Option ((List Int))).bind λe=>
 J (e,O))) J)))
def zrn{e r}(H:Iy e=J r):aq Tryz.prog 16 [(.sh,vL e)] (Eo (.bR [vD r.1,.bool r.2]) [.az]):=by
 apply pF 48 [] [] [] [.tmp 2,.tmp 3] H zLb Tryz.func16;intro X f b g;unfold Iy at b;try simp[go_sem,g]
 try intros
 refine ba ?_;try simp[go_sem,g]
 try intros
 refine wE b qZ λW b=>?_
 refine wW ?_;refine wI b (λG b=>?_) λG b=>?_
 ·exact wl f b
 iterate 2 (try simp[go_sem,g];try intros;refine ba ?_)
 refine wS b (λK=>[(0,.v (vL e))]) (λK b=>?_) λ_ F y b=>?_
 ·obtain⟨T,g,b⟩:=hO g 0 b;refine wE b KR λS b=>?_
  refine wK [0,6] ?_;obtain⟨g,b⟩:=Rg g b;try simp[go_sem,g]
  try intros
  refine ba ?_;refine wJ b (λl=>[(6,.v (vD l))]) (λl b=>?_) λ_ x b=>?_
  ·exact wl f b
  refine wB ?_;obtain⟨N,E,D⟩:=b;refine bG E [37,38] (λq h=>[(6,.v (vD h)),(39,.v (.int .i64 q))]) (λh _ C=>?_) λq h _ _ k d M B b=>?_
  ·exact wn C (x _) D
  have i:=d;try simp at i
  refine wW ?_;refine wt ?_ (hb:=by simp[go_sem,g,k,d,i]<;>omega);refine wW ?_;refine wB ?_;obtain⟨R,g,b⟩:=gP g b;refine wW ?_;refine wE b zrm λI b=>?_
  refine wK [6,37,38,39] ?_;exact wT (B I) (ai b) (a:=by simp[go_sem,g,uS k d (by first|assumption|(simp;assumption)|(simp;omega))])
 refine wB ?_;obtain⟨L,u,j⟩:=b;refine bG u [0,13,14] (λn s=>[(15,.v (.int .i64 n))]) (λs _ v=>?_) λn s _ _ o t A z b=>?_
 ·exact wn v (F _) j
 refine wK [0,13,14,15,16] ?_;refine wu o t ?_;refine wW ?_;refine wB ?_;obtain⟨Q,g,b⟩:=Rx g b;refine wW ?_;refine bE b [0,13,14,15] (λm=>[(30,.v (.bool m))]) (λm b=>?_) λ_ p b=>?_
 ·refine wI b (λw b=>?_) λw b=>?_
  ·cases A _ (ai b);cases f _ (y _ j);refine wW ?_;try simp[go_sem,g]
  refine wW ?_;exact wi o t (z _) (ai b)
 obtain⟨P,g,b⟩:=hO g 0 b;try simp[go_sem,g]
 try intros
 refine wG b (λc b=>?_) λc b=>?_
 ·exact wV c (p _) (ai b)
 try simp[go_sem,g,c]
 refine wE b znA λU b=>?_
 exact wV c (p _) (ai b)
noncomputable def Kn(f:List Int)(h:List Int):Option Bool:=
 (Nx f h).bind λw=>
 if w=O then(
 J O)else(
 (FJ f).bind λa=>
 (KJ a.1 a.2.1 a.2.2.1 a.2.2.2.1 a.2.2.2.2.1 a.2.2.2.2.2).bind λe=>
 (EQ a.1 a.2.1 a.2.2.1 a.2.2.2.1 a.2.2.2.2.1 a.2.2.2.2.2).bind λm=>
 ((if(e.2 !=m.2)=O then(
 J O)else(
 J ((e.1.length:Int) !=(m.1.length:Int))):Option Bool).bind λv=>
 if v=O then(
 J Z)else(
 ((if e.2=O then(
 (Hm a.1 a.2.1 a.2.2.1 e.1).bind λi=>
 ((if(!i.2)=O then(
 J O)else(
 J (i.1 !=(a.2.2.2.1.length:Int))):Option Bool).bind λq=>
 if q=O then(
 J (.inr Z))else(
 J (.inl ()))))else(
 J (.inl ())):Option (Unit ⊕ Bool)).bind (Sum.elim (λx=>
 (I4 h).bind λb=>
 (KE b.1 b.2.1 b.2.2.1 b.2.2.2).bind λc=>
 (JV b.1 b.2.1 b.2.2.1 b.2.2.2).bind λg=>
 ((if(c.2.2 !=g.2.2)=O then(
 J O)else(
 (GR c.1 g.1).bind λo=>
 if(!o)=O then(
 J O)else(
 (Kb c.2.1 g.2.1).bind λp=>
 J (!p))):Option Bool).bind λs=>
 if s=O then(
 J Z)else(
 (Hm b.1 b.2.1 b.2.2.1 b.2.2.2).bind λl=>
 ((if c.2.2=O then(
 if(!l.2)=O then(
 J O)else(
 if(l.1==(b.2.2.2.length:Int))=O then(
 J ((c.1.length:Int) !=(b.2.2.2.length:Int)))else(
 J Z)))else(
 J Z):Option Bool).bind λn=>
 if n=O then(
 J Z)else(
 (Kr f).bind λj=>
 (Ky j).bind λd=>
 (Iy j).bind λk=>
 ((if(d.2==k.2)=O then(
 (GR d.1 k.1).bind λu=>
 if u=O then(
 if(!d.2)=O then(
 J O)else(
 (xU d.1).bind λr=>
 J r))else(
 J Z))else(
 J Z):Option Bool).bind λt=>
 J t)))))) J)))))
set_option maxHeartbeats 1000000 in
def zod{o v r}(K:Kn o v=J r):aq Tryz.prog 3 [(.sh,.sl Z 1 (o.map qW)),(.sh,.sl Z 1 (v.map qW))] (Eo (.bool r) cM):=by
 apply pF 187 [] [49,50,51,52] [] [.tmp 4] K cl3 Tryz.func3;intro Φ c a g;unfold Kn at a;refine wW ?_;refine wE a zvB λz1 a=>?_
 refine wW ?_;refine wI a (λH a=>?_) λH a=>?_
 ·exact wl c a
 refine wW ?_;refine wE a YW λz3 a=>?_
 refine wK [0,1,5,6,7,8,9,10] ?_;refine wE a zoe λz4 a=>?_
 refine wK [0,1,5,6,7,8,9,10,11,12] ?_;refine wE a YB λz5 a=>?_
 refine wK [0,1,5,6,7,8,11,12,13,14] ?_;refine bE a [0,1,5,6,7,8,11,12] (λA=>[(75,.v (.bool A))]) (λA a=>?_) λ_ w a=>?_
 ·refine wI a (λF a=>?_) λF a=>?_
  ·exact wl c a
  iterate 2 refine wW ?_
  refine Z6 a [0,1] (λE=>[]) (λE a=>?_) λ_ t D a=>?_
  ·refine wE a zkc λN a=>?_
   refine wK [0,17,18,19,20] ?_;refine wE a zlV λM a=>?_
   refine wK [0,17,18,19,20,21,22,23] ?_;refine wE a zlE λU a=>?_
   refine wK [0,17,18,19,20,21,22,23,24,25,26] ?_;refine bE a [0,17,18,19,20,21,23] (λy=>[(132,.v (.bool y))]) (λy a=>?_) λ_ n a=>?_
   ·refine wI a (λC a=>?_) λC a=>?_
    ·exact wl c a
    refine wW ?_;refine wE a zi1 λY a=>?_
    refine wK [0,20,21,23,27,28] ?_;refine wJ a (λu=>[(0,.v (vA o)),(158,.v (.bool u))]) (λu a=>?_) λ_ i a=>?_
    ·refine wI a (λI a=>?_) λI a=>?_
     ·exact wl c a
     refine wW ?_;refine wE a zob λT a=>?_
     refine wW ?_;refine wE a zrf λS a=>?_
     refine wK [29,30,31] ?_;refine wE a zrn λX a=>?_
     refine wW ?_;refine wJ a (λz=>[(4,.v (.bool z))]) (λz a=>?_) λ_ h a=>?_
     ·exact wm c a
     refine wG a (λl a=>?_) λl a=>?_
     ·try simp[go_sem,g,l]
      refine wE a Yk λW a=>?_
      try simp[go_sem,g,l]
      refine wG a (λe a=>?_) λe a=>?_
      ·try simp[go_sem,g,e]
       refine wG a (λj a=>?_) λj a=>?_
       ·try simp[go_sem,g,j,e]
        exact wT (h _) (ai a)
       try simp[go_sem,g,j]
       refine wE a Vg λR a=>?_
       try simp[go_sem,g,e,j]
       exact wT (h _) (ai a)
      exact wV e (h _) (ai a)
     exact wV l (h _) (ai a)
    refine wG a (λb a=>?_) λb a=>?_
    ·try simp[go_sem,g,b]
     refine wG a (λd a=>?_) λd a=>?_
     ·try simp[go_sem,g,d,b]
      exact wT (i _) (ai a)
     try simp[go_sem,g,d]
     try intros
     refine wG a (λm a=>?_) λm a=>?_
     ·try simp[go_sem,g,m,d,b]
      try intros
      exact wT (i _) (ai a)
     try simp[go_sem,g,m,d,b]
     exact wT (i _) (ai a)
    exact wV b (i _) (ai a)
   refine wG a (λk a=>?_) λk a=>?_
   ·exact wV k (n _) (ai a)
   try simp[go_sem,g,k]
   refine wE a Yk λP a=>?_
   try simp[go_sem,g,k]
   refine wG a (λf a=>?_) λf a=>?_
   ·exact wV f (n _) (ai a)
   try simp[go_sem,g,f]
   refine wE a zmK λQ a=>?_
   exact wV f (n _) (ai a)
  refine wI a (λG a=>?_) λG a=>?_
  ·refine wE a zi1 λL a=>?_
   refine wK [0,1,8,15,16] ?_;refine bE a [0,1] (λx=>[(92,.v (.bool x))]) (λx a=>?_) λ_ s a=>?_
   ·refine wI a (λB a=>?_) λB a=>?_
    ·cases c _ (D _ (ai a));refine wW ?_;try simp[go_sem,g]
    exact wT (t _) (ai a)
   refine wG a (λq a=>?_) λq a=>?_
   ·exact wV q (s _) (ai a)
   try simp[go_sem,g,q]
   try intros
   exact wT (s _) (ai a)
  exact wT (t _) (ai a)
 refine wG a (λp a=>?_) λp a=>?_
 ·exact wV p (w _) (ai a)
 try simp[go_sem,g,p]
 try intros
 exact wT (w _) (ai a)
end Go.Pm
