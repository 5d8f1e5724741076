import Derived.Test.YtnojafnlicbhpaaGreatPmE
open Bool renaming false→aa,true→Z
open Option renaming none→ae,some→J
set_option linter.defProp false
namespace Go.Pm
open Go.Am
def HK:=@List.mem_of_mem_take
def Qg:=@List.mem_of_mem_drop
def dB:PV->Bool
 | .ax=>Z
 |_=>aa
def oT{x:PV}(h:dB x=aa):x≠.ax:=by rintro rfl;cases h
def nF(e:Nat):Value->PV
 | .bool b=>.bool b
 | .int k n=>.int k n
 | .string s=>.str s
 | .pointer ae=>.gu
 | .nilFunc=>.fX
 | .nilIface=>.ia
 | .slice ae 0 0=>.sl Z e []
 | .agg cs=>.agg (cs.toList.map λ
  | .bool b=>.bool b
  | .int k n=>.int k n
  | .string s=>.str s
  | .pointer ae=>.gu
  | .nilFunc=>.fX
  | .nilIface=>.ia
  | .slice ae 0 0=>.sl Z 0 []
  |_=>.ax)
 |_=>.ax
def Fe(lo hi:Nat):PV->Option PV
 | .sl o es rows=>if lo<=hi/\hi<=rows.length then J (.sl o es ((rows.take hi).drop lo))else ae
 |_=>ae
def zk(j n:Nat)(r:List PV):Option PV:=if j+n<=r.length then J (.agg ((r.drop j).take n))else ae
def dW(pf:ah):PF->Option PV
 | .v x=>J x
 | .rf s p=>cn pf s p
 | .rv s p lo hi=>(cn pf s p).bind (Fe lo hi)
 | .ra s p i j n=>((cn pf s p).bind (lL i)).bind (zk j n)
 |_=>ae
def An(b:Bool)(x:PV)(pf:ah)(s:Nat)(p:aC):Option (PV×ah):=
 if b=Z then(iC pf s p .ax).map λpf'=>(x,pf')else J (x,pf)
def Ag(pf:ah)(t:Nat)(x:PV):Option (PV×ah):=if dB x=Z then ae else An (bN x) x pf t []
def Lq(pf:ah)(s:Nat)(p:aC)(y:Option PV):Option (PV×ah):=
 match y with
 |some x=>if dB x=Z then ae else An (bN x) x pf s p
 |none=>ae
def GP(pf:ah)(s:Nat)(p:aC)(lo hi:Nat)(y:Option PV):Option (PV×ah):=
 match y with
 |some (.sl Z es rows)=>if lo<=hi/\hi<=rows.length then
  if lo=0 then(iC pf s p .ax).map λpf'=>(.sl Z es (rows.take hi),pf')
  else(iC pf s p (drop (.sl Z es rows))).map λpf'=>(.sl aa es (((rows.map (·.map drop)).take hi).drop lo),pf')
  else ae
 |some (.sl aa es rows)=>if lo<=hi/\hi<=rows.length then J (.sl aa es ((rows.take hi).drop lo),pf)else ae
 |_=>ae
def Jo(x:PV):PV:=if bN x=Z then .ax else x
def K3(pf:ah)(s:Nat)(p:aC)(i j:Nat)(y:Option PV):Option (PV×ah):=
 match y with
 |some (.agg xs)=>if bN (.agg xs)=Z then(mT pf s p i j (xs.map Jo)).map λpf'=>(.agg xs,pf')else J (.agg xs,pf)
 |_=>ae
def mn(pf:ah)(t:Nat):PF->Option (PV×ah)
 | .v x=>Ag pf t x
 | .ls es rows=>J (.sl Z es rows,(pf.bY t jP).kill t 0)
 | .rf s p=>Lq pf s p (cn pf s p)
 | .rv s p lo hi=>GP pf s p lo hi (cn pf s p)
 | .ra s p i j n=>K3 pf s p i j (dW pf (.ra s p i j n))
 |_=>ae
def eB(e:Nat)(pf:ah):Operand->Option (PV×ah)
 | .tmp t=>mn pf t (pf t)
 | .const c=>if cz c then J (nF e c,pf)else ae
 | .func f=>J (.func (.func f) [] [],pf)
 | .global _=>ae
def pS(pf:ah):List (Nat×Operand)->Option (List PV×ah)
 |[]=>J ([],pf)
 |x::xs=>(eB x.1 pf x.2).bind λa=>(pS a.2 xs).map λb=>(a.1::b.1,b.2)
section
variable {nt:Nat}{pin:List (Nat×Value)}{E0 E E':Env}{pf:ah}{fr ak:FR}
variable{v:Value}
def H3{e:Nat}{c:Value}(h:cz c=Z)(l:Lo):PR E l (nF e c) c:=by
 cases c with
 |bool b=>exact .bool b
 |int k n=>exact .int k n
 |string s=>exact .str s
 |nilFunc=>exact .fX
 |nilIface=>exact .ia
 |pointer p=>cases p with
  |none=>exact .gu
  |some p=>simp[cz]at h
 |slice p n k=>
  cases p with
  |some p=>simp[cz]at h
  |none=>
   cases n with
   |succ n=>simp[cz]at h
   |zero=>
    cases k with
    |succ k=>simp[cz]at h
    |zero=>exact .sl0 Z e
 |agg cs=>
  refine .agg (by simp) λj x y hx hy=>?_
  obtain⟨w,iL,rfl⟩:=mC hx;rw[iL]at hy;cases hy;simp only[cz,bm]at h;have:=h _ (eA iL);cases y with
  |bool b=>exact .bool b
  |int k n=>exact .int k n
  |string s=>exact .str s
  |nilFunc=>exact .fX
  |nilIface=>exact .ia
  |pointer p=>cases p with
   |none=>exact .gu
   |some p=>simp at this
  |slice p n k=>
   cases p with
   |some p=>simp at this
   |none=>
    cases n with
    |succ n=>simp at this
    |zero=>
     cases k with
     |succ k=>simp at this
     |zero=>exact .sl0 Z 0
  |_=>simp at this
 |_=>simp[cz]at h
def PR.cut{l:Lo}{es lo hi:Nat}{rows:List (List PV)}{a:Addr}{n c:Nat}(h:PR E l (.sl aa es rows) (.slice (J a) n c))(h1:lo<=hi)(h2:hi<=n):
 a=⟨a.block,a.off,J es⟩/\rows.length=n/\n<=c/\PR E l (.sl aa es ((rows.take hi).drop lo)) (.slice (J ⟨a.block,a.off+lo*es,J es⟩) (hi-lo) (c-lo)):=by
 cases h with
 | @jZ _ id off es n c k rows hG hb hn hc hm hr hl hh=>
  refine⟨rfl,hn,hc,.jZ hG hb (by simp;omega) (by omega) (by omega) (λr im=>hr r (HK (Qg im))) ⟨hl.1,?_⟩ λi r j x y g1 g2 g3=>?_⟩
  ·have e:lo*es+(hi-lo)*es=hi*es:=by rw[<-oz];congr 1;omega
   have:=gO es h2;show off+lo*es+(hi-lo)*es<=k.cells.length;omega
  ·rw[jw,mu]at g1;split at g1
   ·exact hh (lo+i) r j x y g1 g2 (by rw[<-g3];show k.cells[off+(lo+i)*es+j]? =k.cells[off+lo*es+i*es+j]?;congr 1;rw[oz];omega)
   ·cases g1
def PR.a2d{l:Nat×aC}{es hi:Nat}{rows:List (List PV)}{a:Addr}{n c:Nat}(h:PR E (J l) (.sl Z es rows) (.slice (J a) n c))(h2:hi<=n):
 a=⟨a.block,a.off,J es⟩/\rows.length=n/\PR E (J l) (.sl Z es (rows.take hi)) (.slice (J a) hi c):=by
 cases h with
 |fK how hG hb bc hn hc hm hr hl hh=>
  refine⟨rfl,hn,.fK how hG hb bc (by simp;omega) (by omega) (by omega) (λr im=>hr r (HK im)) hl λi r j x y g1 g2 g3=>?_⟩;rw[mu]at g1;split at g1
  ·exact hh i r j x y g1 g2 g3
  ·cases g1
def Hn{s:Nat}(h:Wk E fr s [] v):fr s=.v v:=by
 rcases h with⟨q,w1,w2⟩|⟨cells,j',p',y,w1,w2,_⟩
 ·rw[w1];have:v=q:=w2;rw[this]
 ·cases w2
def OK{fl:List (PV×Value)}(hfl:ep nt E fl){x:PV}{l:Lo}(h:PR E l x v)(ho:bN x=aa):ep nt E (fl++[(x,v)]):=hfl.snoc (h.free ho).up
def jn{s:Nat}{p:aC}(r:av nt pin E0 E pf fr)(h:Wk E fr s p v){x:PV}(hg:cn pf s p=J x):p≠[]\/∃y,pf s=.v y:=by
 by_cases h0:p=[]
 ·subst h0;right;have hv:=Hn h;have hf:=r.f s;cases fW:pf s with
  |v y=>exact⟨y,rfl⟩
  |bl row=>
   rw[fW]at hf;obtain⟨cells,c1,_⟩:=hf;rw[hv]at c1;cases c1
  |_=>simp[cn,fW,fV]at hg
 ·exact .inl h0
def P2{p:aC}{a:Nat×Nat}:p++[a]≠[]:=by simp
def zza{z:PV}{i j:Nat}{r:List PV}(h:lL i z=J r):iM z (i,j)=r[j]? :=by
 cases z with
 |sl o es rows=>cases o<;>simp[lL]at h;simp[iM,h]
 |bx row=>simp only[lL]at h;split at h<;>simp_all [iM]
 |_=>simp[lL]at h
end
end Go.Pm
