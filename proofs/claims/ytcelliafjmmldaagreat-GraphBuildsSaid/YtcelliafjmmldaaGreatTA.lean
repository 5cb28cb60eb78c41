import Derived.Test.YtcelliafjmmldaaGreatCL
namespace Go.Ab.M
open Go.Proofs
set_option linter.unusedVariables false
set_option maxRecDepth 100000
structure Pair where
 From:Int
 To:Int
 deriving DecidableEq,Inhabited
abbrev Pair.D (x:Pair):List D:=[.v (.int .i64 x.From),.v (.int .i64 x.To)]
structure Shape where
 Ins:Int
 aY:Int
 aG:Int
 All:List Pair
 deriving DecidableEq,Inhabited
abbrev Shape.D (x:Shape):List D:=[.v (.int .i64 x.Ins),.v (.int .i64 x.aY),.v (.int .i64 x.aG),.sl (x.All.map Pair.D)]
def cmp_isNaN_int (x:Int):Option Bool:=
 some (x != x)
theorem GL (x:Int):∀r,cmp_isNaN_int x=some r→aj Tryz.prog 144 0 [I x] [] (B r) []:=
 ak (enc:=fun r=>B r) (aP:=fun r=>[]) 10 (.ret (x != x)) Tryz.func144 (by kernel_rfl) (by kernel_rfl) (by kernel_rfl)
def cmp_Compare_int (x:Int) (y:Int):Option Int:=
 (cmp_isNaN_int x).bind fun x0=>
 (cmp_isNaN_int y).bind fun x1=>
 bif x0 then
 bif x1 then
 some 0
 else
 some (-1)
 else
 bif x1 then
 some 1
 else
 bif decide (x<y) then
 some (-1)
 else
 bif decide (x>y) then
 some 1
 else
 some 0
theorem jH (x:Int) (y:Int):∀r,cmp_Compare_int x y=some r→aj Tryz.prog 87 0 [I x,I y] [] (I r) []:=
 ak (enc:=fun r=>I r) (aP:=fun r=>[]) 10 (.call [] [] (GL x) .no fun x0=>.call [] [] (GL y) .no fun x1=>.br 100000011 (.br 100000012 (.ret 0) (.ret (-1))) (.br 100000013 (.ret 1) (.br 100000016 (.ret (-1)) (.br 100000019 (.ret 1) (.ret 0))))) Tryz.func87 (by kernel_rfl) (by kernel_rfl) (by kernel_rfl)
def Ae (vals:List Int) (i:Nat):St:=⟨18,0,[(3,I 0),(6,SL (cI .i64) vals),(7,I ((vals.length:Nat):Int)),(8,I ((i:Nat):Int))],[]⟩
def Au (vals:List Int) (i:Int):St:=⟨18,0,[(2,I i)],[]⟩
def Aw (vals:List Int):St:=⟨18,0,[(3,I 0)],[]⟩
def bC (vals:List Int) (i:Nat):Option (Nat⊕(Int⊕Unit)):=
 bif decide (((i:Nat):Int)<((vals.length:Nat):Int)) then
 bif decide (i<vals.length) then
 bif (nth vals i) != 0 then
 some (.inr (.inl (nth vals i)))
 else
 bif inK .i64 (((i:Nat):Int)+1) then
 some (.inl (i+1))
 else none
 else none
 else
 some (.inr (.inr ()))
theorem TK (vals:List Int):∀σ:Nat,aN Tryz.prog (nav [1,1,0,1,0,0] (ah Tryz.f86)) (fun (σ:Nat)=>Ae vals σ) (fun (y:Int⊕Unit)=>aH y (fun _=>.ret) (fun _=>(.exit 0))) (fun (y:Int⊕Unit)=>aH y (fun y=>Au vals y) (fun y=>Aw vals)) σ (bC vals σ)
 | i=>aF 1010 (.br 100000009 (.op 40000 (.el (cI .i64) vals (.up i)) (.br 100000014 (.ps 1000003 [.k [2] []] (.ret (.inr (.inl (nth vals i))))) (.ps 1000003 [.k [3,6,7,8] []] (.ret (.inl (i+1)))))) (.ps 1000003 [.k [3] []] (.ret (.inr (.inr ()))))) (by kernel_rfl)
def BX (vals:List Int) (i:Nat):Option (Int⊕Unit):=aK (fun (σ:Nat)=>bC vals σ) FU i
theorem Tv (vals:List Int) (i:Nat):∀y:Int⊕Unit,BX vals i=some y→Runs Tryz.prog (.loop (nav [1,1,0,1,0,0] (ah Tryz.f86))) (Ae vals i) (aH y (fun _=>.ret) (fun _=>(.exit 0))) ((fun (y:Int⊕Unit)=>aH y (fun y=>Au vals y) (fun y=>Aw vals)) y):=
 aS (head:=fun (σ:Nat)=>Ae vals σ) (eo:=fun (y:Int⊕Unit)=>aH y (fun _=>.ret) (fun _=>(.exit 0))) (so:=fun (y:Int⊕Unit)=>aH y (fun y=>Au vals y) (fun y=>Aw vals)) (TK vals) (fun y h=>by rcases y with y | y<;>cases h) FU i
def uo (vals:List Int):Option Int:=
 (BX vals 0).bind fun y_=>aH y_ (fun x0=>
 some x0)
 (fun x1=>
 some 0)
theorem MX (vals:List Int):∀r,uo vals=some r→aj Tryz.prog 86 0 [SL (cI .i64) vals] [] (I r) []:=
 ak (enc:=fun r=>I r) (aP:=fun r=>[]) 10 (.op 20002 (.ln (cI .i64) vals) (.ps 1000001 [.k [3,6,7,8] []] (.lp2 0 (Tv vals 0) (fun x0=>.ret x0) (fun x1=>.ret 0)))) Tryz.func86 (by kernel_rfl) (by kernel_rfl) (by kernel_rfl)
def mg:ByteArray:=⟨#[0,1,2,2,3,3,3,3,4,4,4,4,4,4,4,4,5,5,5,5,5,5,5,5,5,5,5,5,5,5,5,5,6,6,6,6,6,6,6,6,6,6,6,6,6,6,6,6,6,6,6,6,6,6,6,6,6,6,6,6,6,6,6,6,7,7,7,7,7,7,7,7,7,7,7,7,7,7,7,7,7,7,7,7,7,7,7,7,7,7,7,7,7,7,7,7,7,7,7,7,7,7,7,7,7,7,7,7,7,7,7,7,7,7,7,7,7,7,7,7,7,7,7,7,7,7,7,7,8,8,8,8,8,8,8,8,8,8,8,8,8,8,8,8,8,8,8,8,8,8,8,8,8,8,8,8,8,8,8,8,8,8,8,8,8,8,8,8,8,8,8,8,8,8,8,8,8,8,8,8,8,8,8,8,8,8,8,8,8,8,8,8,8,8,8,8,8,8,8,8,8,8,8,8,8,8,8,8,8,8,8,8,8,8,8,8,8,8,8,8,8,8,8,8,8,8,8,8,8,8,8,8,8,8,8,8,8,8,8,8,8,8,8,8,8,8,8,8,8,8,8,8,8,8,8,8]⟩
def wG (s:List Int):Option (List Int):=
 bif decide (0<s.length) then
 bif decide (0+s.length≤2147483648) then
 some ([]++s)
 else none
 else none
theorem EZ (s:List Int):∀r,wG s=some r→aj Tryz.prog 111 0 [SL (cI .i64) s] [] (SL (cI .i64) r) []:=
 ak (enc:=fun r=>SL (cI .i64) r) (aP:=fun r=>[]) 10 (.op 10002 (.ln (cI .i64) s) (.op 30004 (.ap (cI .i64) [] s 1 fun _=>⟨rfl,rfl⟩) (.ps 1000003 [.z 2] (.ret ([]++s))))) Tryz.func111 (by kernel_rfl) (by kernel_rfl) (by kernel_rfl)
def dM (s:List Int):Option (List Int):=bif decide (s.length≤2147483648) then some s else none
theorem Hl (s:List Int):∀r,dM s=some r→aj Tryz.prog 111 0 [SL (cI .i64) s] [] (SL (cI .i64) r) []:=fun r h=>by
 by_cases hl:s.length≤2147483648
 ·rw[show dM s=some s from by unfold dM;rw[decide_eq_true hl];rfl] at h
  cases h
  cases s with
  | nil=>exact aaj
  | cons a t=>exact EZ (a::t) (a::t) (by unfold wG;rw[decide_eq_true (show 0<(a::t).length by simp),decide_eq_true (show 0+(a::t).length≤2147483648 by omega)];rfl)
 ·rw[show dM s=none from by unfold dM;rw[decide_eq_false hl];rfl] at h
  cases h
end Go.Ab.M
