import Derived.Test.YtnojafnlicbhpaaGreatPmE
namespace Go.Pm
set_option linter.defProp false
open Go.Am
open Bool renaming false→aa,true→Z
open Option renaming none→ae,some→J
def Gv:=@List.mem_of_mem_take
def Ow:=@List.mem_of_mem_drop
def dr:PV->Bool
 | .au=>Z
 |_=>aa
def oN{x:PV}(h:dr x=aa):x≠.au:=by rintro rfl;cases h
def na(e:Nat):Value->PV
 | .bool b=>.bool b
 | .int k n=>.int k n
 | .string s=>.str s
 | .pointer ae=>.fZ
 | .nilFunc=>.fH
 | .nilIface=>.gC
 | .slice ae 0 0=>.sl Z e []
 | .agg cs=>.agg (cs.toList.map λ
  | .bool b=>.bool b
  | .int k n=>.int k n
  | .string s=>.str s
  | .pointer ae=>.fZ
  | .nilFunc=>.fH
  | .nilIface=>.gC
  | .slice ae 0 0=>.sl Z 0 []
  |_=>.au)
 |_=>.au
def Gj(lo hi:Nat):PV->Option PV
 | .sl o es rows=>if lo<=hi/\hi<=rows.length then J (.sl o es ((rows.take hi).drop lo))else ae
 |_=>ae
def wh(j n:Nat)(r:List PV):Option PV:=if j+n<=r.length then J (.agg ((r.drop j).take n))else ae
def dQ(pf:ah):PF->Option PV
 | .v x=>J x
 | .rf s p=>cb pf s p
 | .rv s p lo hi=>(cb pf s p).bind (Gj lo hi)
 | .ra s p i j n=>((cb pf s p).bind (lv i)).bind (wh j n)
 |_=>ae
def AB(b:Bool)(x:PV)(pf:ah)(s:Nat)(p:aA):Option (PV×ah):=
 if b=Z then(iy pf s p .au).map λpf'=>(x,pf')else J (x,pf)
def Ag(pf:ah)(t:Nat)(x:PV):Option (PV×ah):=if dr x=Z then ae else AB (bK x) x pf t []
def HO(pf:ah)(s:Nat)(p:aA)(y:Option PV):Option (PV×ah):=
 match y with
 |some x=>if dr x=Z then ae else AB (bK x) x pf s p
 |none=>ae
def FP(pf:ah)(s:Nat)(p:aA)(lo hi:Nat)(y:Option PV):Option (PV×ah):=
 match y with
 |some (.sl Z es rows)=>if lo<=hi/\hi<=rows.length then
  if lo=0 then(iy pf s p .au).map λpf'=>(.sl Z es (rows.take hi),pf')
  else(iy pf s p (drop (.sl Z es rows))).map λpf'=>(.sl aa es (((rows.map (·.map drop)).take hi).drop lo),pf')
  else ae
 |some (.sl aa es rows)=>if lo<=hi/\hi<=rows.length then J (.sl aa es ((rows.take hi).drop lo),pf)else ae
 |_=>ae
def Ha(x:PV):PV:=if bK x=Z then .au else x
def Ja(pf:ah)(s:Nat)(p:aA)(i j:Nat)(y:Option PV):Option (PV×ah):=
 match y with
 |some (.agg xs)=>if bK (.agg xs)=Z then(ml pf s p i j (xs.map Ha)).map λpf'=>(.agg xs,pf')else J (.agg xs,pf)
 |_=>ae
def lh(pf:ah)(t:Nat):PF->Option (PV×ah)
 | .v x=>Ag pf t x
 | .ls es rows=>J (.sl Z es rows,(pf.bU t jP).kill t 0)
 | .rf s p=>HO pf s p (cb pf s p)
 | .rv s p lo hi=>FP pf s p lo hi (cb pf s p)
 | .ra s p i j n=>Ja pf s p i j (dQ pf (.ra s p i j n))
 |_=>ae
def ep(e:Nat)(pf:ah):Operand->Option (PV×ah)
 | .tmp t=>lh pf t (pf t)
 | .const c=>if cq c then J (na e c,pf)else ae
 | .func f=>J (.func (.func f) [] [],pf)
 | .global _=>ae
def pA(pf:ah):List (Nat×Operand)->Option (List PV×ah)
 |[]=>J ([],pf)
 |x::xs=>(ep x.1 pf x.2).bind λa=>(pA a.2 xs).map λb=>(a.1::b.1,b.2)
section
variable {nt:Nat}{pin:List (Nat×Value)}{E0 E E':Env}{pf:ah}{fr ai:FR}
variable{v:Value}
def JK{e:Nat}{c:Value}(h:cq c=Z)(l:Lo):PR E l (na e c) c:=by
 cases c with
 |bool b=>exact .bool b
 |int k n=>exact .int k n
 |string s=>exact .str s
 |nilFunc=>exact .fH
 |nilIface=>exact .gC
 |pointer p=>cases p with
  |none=>exact .fZ
  |some p=>simp[cq]at h
 |slice p n k=>
  cases p with
  |some p=>simp[cq]at h
  |none=>
   cases n with
   |succ n=>simp[cq]at h
   |zero=>
    cases k with
    |succ k=>simp[cq]at h
    |zero=>exact .sl0 Z e
 |agg cs=>
  refine .agg (by simp) λj x y hx hy=>?_
  obtain⟨w,im,rfl⟩:=my hx;rw[im]at hy;cases hy;simp only[cq,bm]at h;have:=h _ (eo im);cases y with
  |bool b=>exact .bool b
  |int k n=>exact .int k n
  |string s=>exact .str s
  |nilFunc=>exact .fH
  |nilIface=>exact .gC
  |pointer p=>cases p with
   |none=>exact .fZ
   |some p=>simp at this
  |slice p n k=>
   cases p with
   |some p=>simp at this
   |none=>
    cases n with
    |succ n=>simp at this
    |zero=>
     cases k with
     |succ k=>simp at this
     |zero=>exact .sl0 Z 0
  |_=>simp at this
 |_=>simp[cq]at h
def PR.cut{l:Lo}{es lo hi:Nat}{rows:List (List PV)}{a:Addr}{n c:Nat}(h:PR E l (.sl aa es rows) (.slice (J a) n c))(h1:lo<=hi)(h2:hi<=n):
 a=⟨a.block,a.off,J es⟩/\rows.length=n/\n<=c/\PR E l (.sl aa es ((rows.take hi).drop lo)) (.slice (J ⟨a.block,a.off+lo*es,J es⟩) (hi-lo) (c-lo)):=by
 cases h with
 | @jM _ id off es n c k rows hG hb hn hc hm hr hl hh=>
  refine⟨rfl,hn,hc,.jM hG hb (by simp;omega) (by omega) (by omega) (λr gY=>hr r (Gv (Ow gY))) ⟨hl.1,?_⟩ λi r j x y g1 g2 g3=>?_⟩
  ·have e:lo*es+(hi-lo)*es=hi*es:=by rw[<-nS];congr 1;omega
   have:=gA es h2;show off+lo*es+(hi-lo)*es<=k.cells.length;omega
  ·rw[jd,l6]at g1;split at g1
   ·exact hh (lo+i) r j x y g1 g2 (by rw[<-g3];show k.cells[off+(lo+i)*es+j]? =k.cells[off+lo*es+i*es+j]?;congr 1;rw[nS];omega)
   ·cases g1
def PR.AbH{l:Nat×aA}{es hi:Nat}{rows:List (List PV)}{a:Addr}{n c:Nat}(h:PR E (J l) (.sl Z es rows) (.slice (J a) n c))(h2:hi<=n):
 a=⟨a.block,a.off,J es⟩/\rows.length=n/\PR E (J l) (.sl Z es (rows.take hi)) (.slice (J a) hi c):=by
 cases h with
 |fu how hG hb bc hn hc hm hr hl hh=>
  refine⟨rfl,hn,.fu how hG hb bc (by simp;omega) (by omega) (by omega) (λr gY=>hr r (Gv gY)) hl λi r j x y g1 g2 g3=>?_⟩;rw[l6]at g1;split at g1
  ·exact hh i r j x y g1 g2 g3
  ·cases g1
def Gl{s:Nat}(h:Wk E fr s [] v):fr s=.v v:=by
 rcases h with⟨q,w1,w2⟩|⟨cells,j',p',y,w1,w2,_⟩
 ·rw[w1];have:v=q:=w2;rw[this]
 ·cases w2
def MX{fl:List (PV×Value)}(hfl:eb nt E fl){x:PV}{l:Lo}(h:PR E l x v)(ho:bK x=aa):eb nt E (fl++[(x,v)]):=hfl.snoc (h.free ho).up
def iP{s:Nat}{p:aA}(r:aq nt pin E0 E pf fr)(h:Wk E fr s p v){x:PV}(hg:cb pf s p=J x):p≠[]\/∃y,pf s=.v y:=by
 by_cases h0:p=[]
 ·subst h0;right;have hv:=Gl h;have hf:=r.f s;cases fy:pf s with
  |v y=>exact⟨y,rfl⟩
  |bl row=>
   rw[fy]at hf;obtain⟨cells,c1,_⟩:=hf;rw[hv]at c1;cases c1
  |_=>simp[cb,fy,fD]at hg
 ·exact .inl h0
def KR{p:aA}{a:Nat×Nat}:p++[a]≠[]:=by simp
def zyL{z:PV}{i j:Nat}{r:List PV}(h:lv i z=J r):ij z (i,j)=r[j]? :=by
 cases z with
 |sl o es rows=>cases o<;>simp[lv]at h;simp[ij,h]
 |bx row=>simp only[lv]at h;split at h<;>simp_all [ij]
 |_=>simp[lv]at h
end
end Go.Pm
