/-
  FnExactAuditDay: plain laws.
  No condition.
-/
import Derived.Test.YtnbbkiilkaebaaaGreatDoorY38
namespace Go.Pm
open Go.Am
set_option linter.unusedVariables false
set_option linter.unusedSimpArgs false
theorem zuy (gr:Group) (key:Int) (ct:Contest) {s:Session}(h:s.Vote.length≤1048576):∃y,zdy gr key ct s=some y∧zcG gr key ct s=some y:=by
 obtain⟨⟨d,t⟩,h1,h2,_⟩:=zCW gr key ct s.Voter (coins:=s.Coins) h
 unfold zdy zcG
 simp only[h1,h2,zkr,ztj,Option.bind_some]
 cases s.Cast<;>cases zbs s.Receipt<;>cases t<;>exact⟨_,rfl,rfl⟩
def seL (s:Session):Prop:=s.Vote.length≤1048576∧s.Coins.length≤1048576
theorem zyv {s:Session}(h:seL s):zey s=some s:=by
 unfold zey
 rw[zpT h.1,Option.bind_some,zpT h.2];rfl
theorem zx1 {s:Session}(h:seL s):zdB s s=some true:=by
 unfold zdB
 simp only[zsJ h.1,zsJ h.2,bne_self_eq_false,Bool.not_true,Bool.false_eq_true,if_false,Option.bind_some]
theorem zxb {l:List Int}{k:Int}(h:l.length≤1048576) (h0:0≤k∧k≤1048576):Rn (zeN l k) (fun z=>z=-1∨0≤z∧z≤1048576):=by
 unfold zeN
 rw[zag (n:=k-(l.length:Int)) (by omega) (by omega)]
 refine zbo (fun _=>zae (.inl rfl)) fun g=>zae (.inr ?_)
 have:=of_decide_eq_false g
 omega
theorem zxz {s:Session}(h:seL s) {k:Int}(h0:0≤k∧k≤1048576):Rn (zes s k) (fun z=>z=-1∨0≤z∧z≤1048576):=by
 unfold zes
 refine zau (zxb h.1 h0) fun z hz=>zbo (fun _=>zae (.inl rfl)) fun g=>?_
 have:=of_decide_eq_false g
 refine zau (zxb h.2 (by omega)) fun y hy=>zbo (fun _=>zae (.inl rfl)) fun g=>zae hy
noncomputable def zqg (gr:Group) (key:Int) (ct:Contest) (s:Session):Bool:= !s.Cast&&match zcG gr key ct s with
 |some y=> !y.1|| !y.2
 |none=>false
noncomputable def zgP (gr:Group) (key:Int) (ct:Contest) (l:List Session):Nat→List Int
 |0=>[]
 |i+1=>if zqg gr key ct (l.getD i ⟨0,[],[],0,false⟩)=true then zgP gr key ct l i++[(i:Int)]else zgP gr key ct l i
theorem zrW (gr:Group) (key:Int) (ct:Contest) (l:List Session):∀i,(zgP gr key ct l i).length≤i
 |0=>Nat.le_refl 0
 |i+1=>by
  have h:=zrW gr key ct l i
  rw[zgP]
  split
  ·rw[List.length_append];simp;omega
  ·omega
theorem zxd {l:List Session}{i:Nat}(hi:i<l.length):l.getD i ⟨0,[],[],0,false⟩=l[i]:=by simp[List.getD,hi]
theorem zzy (gr:Group) (key:Int) (ct:Contest) {l:List Session}(h:∀s∈l,s.Vote.length≤1048576):∃y,zdU gr key ct l=some y∧zeZ gr key ct l=some y∧y.1.length≤24:=by
 obtain⟨b,s1,s2,s3⟩:=zni gr ct
 unfold zdU zeZ
 rw[s1,s2]
 cases b with
 |false=>exact⟨([],false),rfl,rfl,by simp⟩
 |true=>
  obtain⟨kg,kc⟩:=s3 rfl
  simp only[ztM kg,zvI kg,Bool.not_true,Bool.false_eq_true,if_false,Option.bind_some,zh5]
  cases hok:(!zaF gr key||decide (24<(l.length:Int)))with
  |true=>exact⟨([],false),rfl,rfl,by simp⟩
  |false=>
   simp only[Bool.or_eq_false_iff,decide_eq_false_iff_not]at hok
   have hn:l.length≤24:=by omega
   have hl:=zrW gr key ct l
   refine⟨(zgP gr key ct l l.length,true),zah (zba rfl (zad (a:=zgP gr key ct l l.length) ?_ (zae rfl))),zah (zba rfl (zad (a:=zgP gr key ct l l.length) ?_ (zae rfl))),Nat.le_trans (hl _) hn⟩
   ·refine zhR (stop:=fun s=>s) (zgP gr key ct l) rfl fun i hi=>?_
    have hli:=hl i
    obtain⟨y,y1,y2⟩:=zuy gr key ct (h _ (List.getElem_mem hi))
    have hb:zqg gr key ct l[i]=(!l[i].Cast&&(!y.1|| !y.2)):=by unfold zqg;rw[y2]
    rw[zgP,zxd hi,hb]
    refine zau (ψ:=(· =if(!l[i].Cast&&(!y.1|| !y.2))=true then zgP gr key ct l i++[(i:Int)]else zgP gr key ct l i)) (zbd hi (zad y1 ?_)) (by rintro _ rfl;exact zae rfl)
    obtain⟨a,c⟩:=y
    cases l[i].Cast<;>cases a<;>cases c<;>first
     |exact zad (a:=true) rfl (zhp rfl (zap (by omega) (zae rfl)))
     |exact zad (a:=false) rfl (zba rfl (zae rfl))
   ·refine zhR (stop:=fun s=>s) (zgP gr key ct l) rfl fun i hi=>?_
    have hli:=hl i
    obtain⟨y,y1,y2⟩:=zuy gr key ct (h _ (List.getElem_mem hi))
    have hb:zqg gr key ct l[i]=(!l[i].Cast&&(!y.1|| !y.2)):=by unfold zqg;rw[y2]
    rw[zgP,zxd hi,hb]
    refine zau (ψ:=(· =if(!l[i].Cast&&(!y.1|| !y.2))=true then zgP gr key ct l i++[(i:Int)]else zgP gr key ct l i)) (zbd hi ?_) (by rintro _ rfl;exact zae rfl)
    obtain⟨a,c⟩:=y
    cases hc:l[i].Cast with
    |true=>exact zhp rfl (zae rfl)
    |false=>
     refine zba rfl (zad y2 ?_)
     cases a<;>cases c<;>first
      |exact zhp rfl (zap (by omega) (zae rfl))
      |exact zba rfl (zae rfl)
theorem zvT {l:List Session}(hl:l.length≤1048576) (h:∀s∈l,seL s):zb6 l=some l:=by
 unfold zb6
 rw[zcu (by omega),Option.bind_some,zxB (fun s hs=>zyv (h s hs)) hl];rfl
theorem zwr {l:List Session}(hl:l.length≤1048576) (h:∀s∈l,seL s):zed l l=some true:=by
 unfold zed
 rw[if_neg (by simp)]
 have e:=zvA (β:=Bool) (step:=fun s5=>
  if decide (s5<(l.length:Int))=true then(
  (ix l s5).bind fun x11=>
  (ix l s5).bind fun x12=>
  (zdB x11 x12).bind fun z13=>
  if(!z13)=true then(
  some (.out (.inr false)))else(
  some (.go (IntKind.i64.wrap (s5+1)))))else(
  some (.out (.inl ())))) l.length (fun k hk=>by
   rw[if_pos (by simpa using hk),zdJ hk,Option.bind_some,Option.bind_some,zx1 (h _ (List.getElem_mem hk)),Option.bind_some,if_neg (by simp),zag (n:=(k:Int)+1) (by omega) (by omega)];rfl) (by rw[if_neg (by simp)])
 rw[e];rfl
theorem zwd {l:List Session}(hl:l.length≤1048576) (h:∀s∈l,seL s):Rn (zd6 l 1048576) (fun _=>True):=by
 unfold zd6
 rw[zag (n:=1048576-(l.length:Int)) (by omega) (by omega)]
 refine zbo (fun _=>zae trivial) fun _=>zau (ψ:=fun _=>True) (ze9 l.length (fun i s=>(0≤s.1∧s.1≤1048576)∧s.2=(i:Int)) ⟨by dsimp only;omega,rfl⟩ ?_ ?_) fun v _=>?_
 ·rintro i ⟨k,j⟩ hi ⟨h1,h2⟩
  simp only at h1 h2
  subst h2
  refine zhp (by simpa using hi) (zbd hi (zau (zxz (h _ (List.getElem_mem hi)) h1) fun z hz=>zbo (fun _=>zae trivial) fun g=>zae ?_))
  have:=of_decide_eq_false g
  rw[zag (n:=(i:Int)+1) (by omega) (by omega)]
  exact⟨by dsimp only;omega,rfl⟩
 ·rintro⟨k,j⟩ ⟨h1,h2⟩
  simp only at h2
  subst h2
  exact zba (by simp) (zae trivial)
 cases v<;>exact zae trivial
theorem zwA {l:List Session}(hl:l.length≤1048576) (h:∀s∈l,seL s):Rn (zcl l 1) (fun z=>0≤z.1):=by
 unfold zcl
 refine zau (ψ:=fun v=>0≤v.2) (ze9 l.length (fun i s=>s.1.length=l.length∧(∀x∈s.1,seL x)∧(0≤s.2.1∧s.2.1≤1+(i:Int)*3000000)∧s.2.2=(i:Int)) ⟨rfl,h,by simp,rfl⟩ ?_ ?_) fun v hv=>zae hv
 ·rintro i ⟨r,k,j⟩ hi ⟨h1,h2,h3,h4⟩
  simp only at h1 h2 h3 h4
  subst h4
  have hir:i<r.length:=by omega
  have hs:=h2 _ (List.getElem_mem hir)
  have w1:IntKind.i64.wrap (k+1)=k+1:=zag (by omega) (by omega)
  obtain⟨m,m1,m2,_⟩:=zog r[i].Vote (k+1) (by omega) (by have:=hs.1;omega) hs.1
  obtain⟨c,c1,c2,_⟩:=zog r[i].Coins (k+1+r[i].Vote.length) (by omega) (by have:=hs.1;have:=hs.2;omega) hs.2
  refine zhp (by simp;omega) (zbd hir ?_)
  dsimp only
  rw[w1]
  refine zad m1 (zad c1 (zae ?_))
  have hs1:=hs.1
  have hs2:=hs.2
  dsimp only
  rw[zag (n:=k+1+(r[i].Vote.length:Int)+(r[i].Coins.length:Int)+1) (by omega) (by omega),zag (n:=k+1+(r[i].Vote.length:Int)+(r[i].Coins.length:Int)+1+1) (by omega) (by omega),zag (n:=(i:Int)+1) (by omega) (by omega)]
  refine⟨by simpa using h1,fun x hx=>?_,⟨by dsimp only;omega,by dsimp only;omega⟩,rfl⟩
  dsimp only at hx
  simp only[List.set_set]at hx
  rcases List.mem_or_eq_of_mem_set hx with hx|rfl
  ·exact h2 x hx
  exact⟨by show m.length≤_;omega,by show c.length≤_;omega⟩
 rintro⟨r,k,j⟩ ⟨h1,h2,h3,h4⟩
 simp only at h1 h3 h4
 exact zba (by simp;omega) (zae h3.1)
theorem zBZ (gr:Group) (key:Int) (ct:Contest) (l:List Session) (hl:l.length≤1048576) (h:∀s∈l,seL s):zcJ gr key ct l=some true:=by
 unfold zcJ
 refine zah (zau (zwd hl h) fun z _=>zbo (fun _=>zae rfl) fun _=>?_)
 have ht:=zvT hl h
 have he:=zwr hl h
 have hg:zen gr=some gr:=rfl
 have hc:zdC ct=some ct:=rfl
 obtain⟨y,y1,y2,y3⟩:=zzy gr key ct fun s hs=>(h s hs).1
 have hy:=zsJ (v:=y.1) (by omega)
 obtain⟨m,m1,m2,m3⟩:=zog y.1 1 (by omega) (by omega) (by omega)
 have hh:=zxD m 1 (by omega) (by omega) (by omega) m3
 rw[m2]at hh
 refine zad hg (zad hc (zad ht (zad y2 (zad ht (zad hg (zad hc (zad y1 (zau (ψ:=(· =false)) (zad hy (zba rfl (zae (by simp)))) ?_))))))))
 rintro _ rfl
 refine zba rfl (zad ht (zad he (zba rfl (zau (zwA hl h) fun w hw=>zau (ψ:=(· =false)) (zba (by simpa using hw) (zad hy (zba rfl (zae (by simp))))) ?_))))
 rintro _ rfl
 refine zba rfl (zad m1 (zad hh (zba (by simp;omega) (zba (by simp) (zad hg (zad hc (zad ht (zad y1 (zau (ψ:=(· =false)) (zad hy (zba rfl (zae (by simp)))) ?_)))))))))
 rintro _ rfl
 exact zba rfl (zad hh (zba (by simp;omega) (zba (by simp) (zae rfl))))
end Go.Pm
