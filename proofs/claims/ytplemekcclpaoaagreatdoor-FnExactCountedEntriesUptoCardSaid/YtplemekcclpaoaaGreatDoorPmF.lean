import Derived.Test.YtplemekcclpaoaaGreatDoorPmE
namespace Go.Pm
open Go.Am
def isJ:PV→Bool
 | .junk=>true
 |_=>false
theorem ze5{x:PV}(h:isJ x=false):x≠.junk:=by rintro rfl;cases h
def zgF(e:Nat):Value→PV
 | .bool b=>.bool b
 | .int k n=>.int k n
 | .string s=>.str s
 | .pointer none=>.nilp
 | .nilFunc=>.nilf
 | .nilIface=>.nili
 | .slice none 0 0=>.sl true e []
 | .agg cs=>.agg (cs.toList.map fun
  | .bool b=>.bool b
  | .int k n=>.int k n
  | .string s=>.str s
  | .pointer none=>.nilp
  | .nilFunc=>.nilf
  | .nilIface=>.nili
  | .slice none 0 0=>.sl true 0 []
  |_=>.junk)
 |_=>.junk
def zmU(lo hi:Nat):PV→Option PV
 | .sl o es rows=>if lo≤hi∧hi≤rows.length then some (.sl o es ((rows.take hi).drop lo))else none
 |_=>none
def zi7(j n:Nat)(r:List PV):Option PV:=if j+n≤r.length then some (.agg ((r.drop j).take n))else none
def za9(pf:PFr):PF→Option PV
 | .v x=>some x
 | .rf s p=>zaz pf s p
 | .rv s p lo hi=>(zaz pf s p).bind (zmU lo hi)
 | .ra s p i j n=>((zaz pf s p).bind (zfR i)).bind (zi7 j n)
 |_=>none
def zlZ(b:Bool)(x:PV)(pf:PFr)(s:Nat)(p:zad):Option (PV×PFr):=
 if b=true then(zck pf s p .junk).map fun pf'=>(x,pf')else some (x,pf)
def zj2(pf:PFr)(t:Nat)(x:PV):Option (PV×PFr):=if isJ x=true then none else zlZ (zaC x) x pf t []
def zoq(pf:PFr)(s:Nat)(p:zad)(y:Option PV):Option (PV×PFr):=
 match y with
 |some x=>if isJ x=true then none else zlZ (zaC x) x pf s p
 |none=>none
def zkA(pf:PFr)(s:Nat)(p:zad)(lo hi:Nat)(y:Option PV):Option (PV×PFr):=
 match y with
 |some (.sl true es rows)=>if lo≤hi∧hi≤rows.length then
  if lo=0 then(zck pf s p .junk).map fun pf'=>(.sl true es (rows.take hi),pf')
  else(zck pf s p (drop (.sl true es rows))).map fun pf'=>(.sl false es (((rows.map (·.map drop)).take hi).drop lo),pf')
  else none
 |some (.sl false es rows)=>if lo≤hi∧hi≤rows.length then some (.sl false es ((rows.take hi).drop lo),pf)else none
 |_=>none
def zoX(x:PV):PV:=if zaC x=true then .junk else x
def zlT(pf:PFr)(s:Nat)(p:zad)(i j:Nat)(y:Option PV):Option (PV×PFr):=
 match y with
 |some (.agg xs)=>if zaC (.agg xs)=true then(zeo pf s p i j (xs.map zoX)).map fun pf'=>(.agg xs,pf')else some (.agg xs,pf)
 |_=>none
def zeO(pf:PFr)(t:Nat):PF→Option (PV×PFr)
 | .v x=>zj2 pf t x
 | .ls es rows=>some (.sl true es rows,(pf.upd t jP).kill t 0)
 | .rf s p=>zoq pf s p (zaz pf s p)
 | .rv s p lo hi=>zkA pf s p lo hi (zaz pf s p)
 | .ra s p i j n=>zlT pf s p i j (za9 pf (.ra s p i j n))
 |_=>none
def zbg(e:Nat)(pf:PFr):Operand→Option (PV×PFr)
 | .tmp t=>zeO pf t (pf t)
 | .const c=>if zai c then some (zgF e c,pf)else none
 | .func f=>some (.func (.func f) [] [],pf)
 | .global _=>none
def zgr(pf:PFr):List (Nat×Operand)→Option (List PV×PFr)
 |[]=>some ([],pf)
 |x::xs=>(zbg x.1 pf x.2).bind fun a=>(zgr a.2 xs).map fun b=>(a.1::b.1,b.2)
section
variable {nt:Nat}{pin:List (Nat×Value)}{E0 E E':Env}{pf:PFr}{fr fr':FR}
variable{v:Value}
theorem zkH{e:Nat}{c:Value}(h:zai c=true)(l:Lo):PR E l (zgF e c) c:=by
 cases c with
 |bool b=>exact .bool b
 |int k n=>exact .int k n
 |string s=>exact .str s
 |nilFunc=>exact .nilf
 |nilIface=>exact .nili
 |pointer p=>cases p with
  |none=>exact .nilp
  |some p=>simp[zai]at h
 |slice p n k=>
  cases p with
  |some p=>simp[zai]at h
  |none=>
   cases n with
   |succ n=>simp[zai]at h
   |zero=>
    cases k with
    |succ k=>simp[zai]at h
    |zero=>exact .sl0 true e
 |agg cs=>
  refine .agg (by simp) fun j x y hx hy=>?_
  obtain⟨w,hy',rfl⟩:=zdZ hx;rw[hy']at hy;cases hy;simp only[zai,List.all_eq_true]at h;have:=h _ (List.mem_of_getElem? hy');cases y with
  |bool b=>exact .bool b
  |int k n=>exact .int k n
  |string s=>exact .str s
  |nilFunc=>exact .nilf
  |nilIface=>exact .nili
  |pointer p=>cases p with
   |none=>exact .nilp
   |some p=>simp at this
  |slice p n k=>
   cases p with
   |some p=>simp at this
   |none=>
    cases n with
    |succ n=>simp at this
    |zero=>
     cases k with
     |succ k=>simp at this
     |zero=>exact .sl0 true 0
  |_=>simp at this
 |_=>simp[zai]at h
theorem PR.cut{l:Lo}{es lo hi:Nat}{rows:List (List PV)}{a:Addr}{n c:Nat}(h:PR E l (.sl false es rows) (.slice (some a) n c))(h1:lo≤hi)(h2:hi≤n):
 a=⟨a.block,a.off,some es⟩∧rows.length=n∧n≤c∧PR E l (.sl false es ((rows.take hi).drop lo)) (.slice (some ⟨a.block,a.off+lo*es,some es⟩) (hi-lo) (c-lo)):=by
 cases h with
 | @slS _ id off es n c k rows hG hb hn hc hm hr hl hh=>
  refine⟨rfl,hn,hc,.slS hG hb (by simp;omega) (by omega) (by omega) (fun r hr'=>hr r (List.mem_of_mem_take (List.mem_of_mem_drop hr'))) ⟨hl.1,?_⟩ fun i r j x y g1 g2 g3=>?_⟩
  ·have e:lo*es+(hi-lo)*es=hi*es:=by rw[←Nat.add_mul];congr 1;omega
   have:=Nat.mul_le_mul_right es h2;show off+lo*es+(hi-lo)*es≤k.cells.length;omega
  ·rw[List.getElem?_drop,List.getElem?_take]at g1;split at g1
   ·exact hh (lo+i) r j x y g1 g2 (by rw[←g3];show k.cells[off+(lo+i)*es+j]? =k.cells[off+lo*es+i*es+j]?;congr 1;rw[Nat.add_mul];omega)
   ·cases g1
theorem PR.cut0{l:Nat×zad}{es hi:Nat}{rows:List (List PV)}{a:Addr}{n c:Nat}(h:PR E (some l) (.sl true es rows) (.slice (some a) n c))(h2:hi≤n):
 a=⟨a.block,a.off,some es⟩∧rows.length=n∧PR E (some l) (.sl true es (rows.take hi)) (.slice (some a) hi c):=by
 cases h with
 |slO how hG hb hrw hn hc hm hr hl hh=>
  refine⟨rfl,hn,.slO how hG hb hrw (by simp;omega) (by omega) (by omega) (fun r hr'=>hr r (List.mem_of_mem_take hr')) hl fun i r j x y g1 g2 g3=>?_⟩;rw[List.getElem?_take]at g1;split at g1
  ·exact hh i r j x y g1 g2 g3
  ·cases g1
theorem zjm{s:Nat}(h:Wk E fr s [] v):fr s=.v v:=by
 rcases h with⟨q,w1,w2⟩|⟨cells,j',p',y,w1,w2,_⟩
 ·rw[w1];have:v=q:=w2;rw[this]
 ·cases w2
theorem zi9{fl:List (PV×Value)}(hfl:FlOK nt E fl){x:PV}{l:Lo}(h:PR E l x v)(ho:zaC x=false):FlOK nt E (fl++[(x,v)]):=hfl.snoc (h.free ho).up
theorem zbc{s:Nat}{p:zad}(r:RelP nt pin E0 E pf fr)(h:Wk E fr s p v){x:PV}(hg:zaz pf s p=some x):p≠[]∨∃y,pf s=.v y:=by
 by_cases h0:p=[]
 ·subst h0;right;have hv:=zjm h;have hf:=r.f s;cases hps:pf s with
  |v y=>exact⟨y,rfl⟩
  |bl row=>
   rw[hps]at hf;obtain⟨cells,c1,_⟩:=hf;rw[hv]at c1;cases c1
  |_=>simp[zaz,hps,zbs]at hg
 ·exact .inl h0
theorem zog{p:zad}{a:Nat×Nat}:p++[a]≠[]:=by simp
theorem zyl{z:PV}{i j:Nat}{r:List PV}(h:zfR i z=some r):zdd z (i,j)=r[j]? :=by
 cases z with
 |sl o es rows=>cases o<;>simp[zfR]at h;simp[zdd,h]
 |bx row=>simp only[zfR]at h;split at h<;>simp_all [zdd]
 |_=>simp[zfR]at h
end
end Go.Pm
