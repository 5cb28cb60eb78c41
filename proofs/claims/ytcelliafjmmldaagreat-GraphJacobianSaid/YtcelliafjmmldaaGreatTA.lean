import Derived.Test.YtcelliafjmmldaaGreatCL
namespace Go.Ab.M
open Go.Proofs
set_option linter.unusedVariables false
set_option maxRecDepth 100000
structure Pair where
 From:Int
 To:Int
 deriving DecidableEq,Inhabited
structure Shape where
 Ins:Int
 bg:Int
 aB:Int
 All:List Pair
 deriving DecidableEq,Inhabited
def cmp_isNaN_int (x:Int):Option Bool:=
 some (x != x)
theorem Gl (x:Int):∀r,cmp_isNaN_int x=some r→aj Tryz.prog 144 0 [I x] [] (B r) []:=
 au (enc:=fun r=>B r) (aQ:=fun r=>[]) 10 (.ret (x != x)) Tryz.func144 (by kernel_rfl) (by kernel_rfl) (by kernel_rfl)
def cmp_Compare_int (x:Int) (y:Int):Option Int:=
 (cmp_isNaN_int x).bind fun x0=>
 (cmp_isNaN_int y).bind fun x1=>
 bif x0 then
 bif x1 then
 some 0
 else
 some (-1)
 else
 bif x1 then
 some 1
 else
 bif decide (x<y) then
 some (-1)
 else
 bif decide (x>y) then
 some 1
 else
 some 0
theorem kC (x:Int) (y:Int):∀r,cmp_Compare_int x y=some r→aj Tryz.prog 87 0 [I x,I y] [] (I r) []:=
 au (enc:=fun r=>I r) (aQ:=fun r=>[]) 10 (.call [] [] (Gl x) .no fun x0=>.call [] [] (Gl y) .no fun x1=>.br 100000011 (.br 100000012 (.ret 0) (.ret (-1))) (.br 100000013 (.ret 1) (.br 100000016 (.ret (-1)) (.br 100000019 (.ret 1) (.ret 0))))) Tryz.func87 (by kernel_rfl) (by kernel_rfl) (by kernel_rfl)
def Ah (vals:List Int) (i:Nat):St:=⟨18,0,[(3,I 0),(6,SL (cI .i64) vals),(7,I ((vals.length:Nat):Int)),(8,I ((i:Nat):Int))],[]⟩
def Aa (vals:List Int) (i:Int):St:=⟨18,0,[(2,I i)],[]⟩
def zN (vals:List Int):St:=⟨18,0,[(3,I 0)],[]⟩
def bC (vals:List Int) (i:Nat):Option (Nat⊕(Int⊕Unit)):=
 bif decide (((i:Nat):Int)<((vals.length:Nat):Int)) then
 bif decide (i<vals.length) then
 bif (nth vals i) != 0 then
 some (.inr (.inl (nth vals i)))
 else
 bif inK .i64 (((i:Nat):Int)+1) then
 some (.inl (i+1))
 else none
 else none
 else
 some (.inr (.inr ()))
theorem Tc (vals:List Int):∀σ:Nat,aP Tryz.prog (nav [1,1,0,1,0,0] (ah Tryz.f86)) (fun (σ:Nat)=>Ah vals σ) (fun (y:Int⊕Unit)=>aK y (fun _=>.ret) (fun _=>(.exit 0))) (fun (y:Int⊕Unit)=>aK y (fun y=>Aa vals y) (fun y=>zN vals)) σ (bC vals σ)
 | i=>aJ 1010 (.br 100000009 (.op 40000 (.el (cI .i64) vals (.up i)) (.br 100000014 (.ps 1000003 [.k [2] []] (.ret (.inr (.inl (nth vals i))))) (.ps 1000003 [.k [3,6,7,8] []] (.ret (.inl (i+1)))))) (.ps 1000003 [.k [3] []] (.ret (.inr (.inr ()))))) (by kernel_rfl)
def BH (vals:List Int) (i:Nat):Option (Int⊕Unit):=aI (fun (σ:Nat)=>bC vals σ) FU i
theorem Tf (vals:List Int) (i:Nat):∀y:Int⊕Unit,BH vals i=some y→Runs Tryz.prog (.loop (nav [1,1,0,1,0,0] (ah Tryz.f86))) (Ah vals i) (aK y (fun _=>.ret) (fun _=>(.exit 0))) ((fun (y:Int⊕Unit)=>aK y (fun y=>Aa vals y) (fun y=>zN vals)) y):=
 bf (head:=fun (σ:Nat)=>Ah vals σ) (eo:=fun (y:Int⊕Unit)=>aK y (fun _=>.ret) (fun _=>(.exit 0))) (so:=fun (y:Int⊕Unit)=>aK y (fun y=>Aa vals y) (fun y=>zN vals)) (Tc vals) (fun y h=>by rcases y with y | y<;>cases h) FU i
def tN (vals:List Int):Option Int:=
 (BH vals 0).bind fun y_=>aK y_ (fun x0=>
 some x0)
 (fun x1=>
 some 0)
theorem MF (vals:List Int):∀r,tN vals=some r→aj Tryz.prog 86 0 [SL (cI .i64) vals] [] (I r) []:=
 au (enc:=fun r=>I r) (aQ:=fun r=>[]) 10 (.op 20002 (.ln (cI .i64) vals) (.ps 1000001 [.k [3,6,7,8] []] (.lp2 0 (Tf vals 0) (fun x0=>.ret x0) (fun x1=>.ret 0)))) Tryz.func86 (by kernel_rfl) (by kernel_rfl) (by kernel_rfl)
def nI:ByteArray:=⟨#[0,1,2,2,3,3,3,3,4,4,4,4,4,4,4,4,5,5,5,5,5,5,5,5,5,5,5,5,5,5,5,5,6,6,6,6,6,6,6,6,6,6,6,6,6,6,6,6,6,6,6,6,6,6,6,6,6,6,6,6,6,6,6,6,7,7,7,7,7,7,7,7,7,7,7,7,7,7,7,7,7,7,7,7,7,7,7,7,7,7,7,7,7,7,7,7,7,7,7,7,7,7,7,7,7,7,7,7,7,7,7,7,7,7,7,7,7,7,7,7,7,7,7,7,7,7,7,7,8,8,8,8,8,8,8,8,8,8,8,8,8,8,8,8,8,8,8,8,8,8,8,8,8,8,8,8,8,8,8,8,8,8,8,8,8,8,8,8,8,8,8,8,8,8,8,8,8,8,8,8,8,8,8,8,8,8,8,8,8,8,8,8,8,8,8,8,8,8,8,8,8,8,8,8,8,8,8,8,8,8,8,8,8,8,8,8,8,8,8,8,8,8,8,8,8,8,8,8,8,8,8,8,8,8,8,8,8,8,8,8,8,8,8,8,8,8,8,8,8,8,8,8,8,8,8,8]⟩
def wG (s:List Int):Option (List Int):=
 bif decide (0<s.length) then
 bif decide (0+s.length≤2147483648) then
 some ([]++s)
 else none
 else none
theorem EH (s:List Int):∀r,wG s=some r→aj Tryz.prog 111 0 [SL (cI .i64) s] [] (SL (cI .i64) r) []:=
 au (enc:=fun r=>SL (cI .i64) r) (aQ:=fun r=>[]) 10 (.op 10002 (.ln (cI .i64) s) (.op 30004 (.ap (cI .i64) [] s 1 fun _=>⟨rfl,rfl⟩) (.ps 1000003 [.z 2] (.ret ([]++s))))) Tryz.func111 (by kernel_rfl) (by kernel_rfl) (by kernel_rfl)
def dL (s:List Int):Option (List Int):=bif decide (s.length≤2147483648) then some s else none
theorem Gt (s:List Int):∀r,dL s=some r→aj Tryz.prog 111 0 [SL (cI .i64) s] [] (SL (cI .i64) r) []:=fun r h=>by
 by_cases hl:s.length≤2147483648
 ·rw[show dL s=some s from by unfold dL;rw[decide_eq_true hl];rfl] at h
  cases h
  cases s with
  | nil=>exact ZQ
  | cons a t=>exact EH (a::t) (a::t) (by unfold wG;rw[decide_eq_true (show 0<(a::t).length by simp),decide_eq_true (show 0+(a::t).length≤2147483648 by omega)];rfl)
 ·rw[show dL s=none from by unfold dL;rw[decide_eq_false hl];rfl] at h
  cases h
end Go.Ab.M
