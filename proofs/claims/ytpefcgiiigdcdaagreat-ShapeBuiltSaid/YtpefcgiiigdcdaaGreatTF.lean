import Derived.Test.YtpefcgiiigdcdaaGreatTE
namespace Go.Ab.M
open Go.Proofs
set_option linter.unusedVariables false
set_option maxRecDepth 100000
def LW (a:Rat):Option Rat:=
 (qI (Whole.mk a.Neg a.Num) a.Den).bind fun x0=>
 some x0
theorem YT (a:Rat):∀r,LW a=some r→aj Tryz.prog 72 0 [AG Rat.D a] [] (AG Rat.D r) []:=
 ak (enc:=fun r=>AG Rat.D r) (aP:=fun r=>[]) 10 (.call [] [] (Aa (Whole.mk a.Neg a.Num) a.Den) .no fun x0=>.ret x0) Tryz.func72 (by kernel_rfl) (by kernel_rfl) (by kernel_rfl)
def xG (a:List Int) (b:List Int) (i:Nat):St:=⟨26,0,[(0,SL (cI .u32) a),(1,SL (cI .u32) b),(5,I ((i:Nat):Int))],[]⟩
def wU (a:List Int) (b:List Int):St:=⟨26,0,[(4,B false)],[]⟩
def xY (a:List Int) (b:List Int):St:=⟨26,0,[],[]⟩
def fJ (a:List Int) (b:List Int) (i:Nat):Option (Nat⊕(Unit⊕Unit)):=
 bif decide (((i:Nat):Int)<((a.length:Nat):Int)) then
 bif decide (i<a.length) then
 bif decide (i<b.length) then
 bif (nth a i) != (nth b i) then
 some (.inr (.inl ()))
 else
 bif inK .i64 (((i:Nat):Int)+1) then
 some (.inl (i+1))
 else none
 else none
 else none
 else
 some (.inr (.inr ()))
theorem Qj (a:List Int) (b:List Int):∀σ:Nat,aJ Tryz.prog (nav [1,1,0,1,0,0] (ah Tryz.f83)) (fun (σ:Nat)=>xG a b σ) (fun (y:Unit⊕Unit)=>aN y (fun _=>.ret) (fun _=>(.exit 0))) (fun (y:Unit⊕Unit)=>aN y (fun y=>wU a b) (fun y=>xY a b)) σ (fJ a b σ)
 | i=>aB 1010 (.op 40004 (.ln (cI .u32) a) (.br 100000014 (.op 60004 (.el (cI .u32) a (.up i)) (.op 60012 (.el (cI .u32) b (.up i)) (.br 100000025 (.ps 1000003 [.k [4] []] (.ret (.inr (.inl ())))) (.ps 1000003 [.k [0,1,5] []] (.ret (.inl (i+1))))))) (.ps 1000003 [.k [] []] (.ret (.inr (.inr ())))))) (by kernel_rfl)
def oH (a:List Int) (b:List Int) (i:Nat):Option (Unit⊕Unit):=aK (fun (σ:Nat)=>fJ a b σ) FU i
theorem QG (a:List Int) (b:List Int) (i:Nat):∀y:Unit⊕Unit,oH a b i=some y→Runs Tryz.prog (.loop (nav [1,1,0,1,0,0] (ah Tryz.f83))) (xG a b i) (aN y (fun _=>.ret) (fun _=>(.exit 0))) ((fun (y:Unit⊕Unit)=>aN y (fun y=>wU a b) (fun y=>xY a b)) y):=
 aU (head:=fun (σ:Nat)=>xG a b σ) (eo:=fun (y:Unit⊕Unit)=>aN y (fun _=>.ret) (fun _=>(.exit 0))) (so:=fun (y:Unit⊕Unit)=>aN y (fun y=>wU a b) (fun y=>xY a b)) (Qj a b) (fun y h=>by rcases y with y | y<;>cases h) FU i
def um (a:List Int) (b:List Int):Option Bool:=
 bif ((a.length:Nat):Int) != ((b.length:Nat):Int) then
 some false
 else
 (oH a b 0).bind fun y_=>aN y_ (fun x0=>
 some false)
 (fun x1=>
 some true)
theorem JD (a:List Int) (b:List Int):∀r,um a b=some r→aj Tryz.prog 83 0 [SL (cI .u32) a,SL (cI .u32) b] [] (B r) []:=
 ak (enc:=fun r=>B r) (aP:=fun r=>[]) 10 (.op 10002 (.ln (cI .u32) a) (.op 10006 (.ln (cI .u32) b) (.br 100000010 (.ret false) (.ps 1000001 [.k [0,1,5] []] (.lp2 0 (QG a b 0) (fun x0=>.ret false) (fun x1=>.ret true)))))) Tryz.func83 (by kernel_rfl) (by kernel_rfl) (by kernel_rfl)
def zi (a:Rat) (b:Rat):Option Bool:=
 bif a.Neg==b.Neg then
 (um a.Num b.Num).bind fun x0=>
 bif x0 then
 (um a.Den b.Den).bind fun x1=>
 some x1
 else
 some false
 else
 some false
theorem JI (a:Rat) (b:Rat):∀r,zi a b=some r→aj Tryz.prog 31 0 [AG Rat.D a,AG Rat.D b] [] (B r) []:=
 ak (enc:=fun r=>B r) (aP:=fun r=>[]) 10 (.br 10012 (.call [] [] (JD a.Num b.Num) .no fun x0=>.br 10026 (.call [] [] (JD a.Den b.Den) .no fun x1=>.ret x1) (.ret false)) (.ret false)) Tryz.func31 (by kernel_rfl) (by kernel_rfl) (by kernel_rfl)
def EP (a:Rat):Option Bool:=
 (LW a).bind fun x0=>
 (zi x0 a).bind fun x1=>
 some x1
theorem WJ (a:Rat):∀r,EP a=some r→aj Tryz.prog 127 0 [AG Rat.D a] [] (B r) []:=
 ak (enc:=fun r=>B r) (aP:=fun r=>[]) 10 (.call [] [] (YT a) .no fun x0=>.call [] [] (JI x0 a) .no fun x1=>.ret x1) Tryz.func127 (by kernel_rfl) (by kernel_rfl) (by kernel_rfl)
def Js (n:Int):Option Rat:=
 (Gi n).bind fun x0=>
 (qI x0 [1]).bind fun x1=>
 some x1
theorem RN (n:Int):∀r,Js n=some r→aj Tryz.prog 47 0 [I n] [] (AG Rat.D r) []:=
 ak (enc:=fun r=>AG Rat.D r) (aP:=fun r=>[]) 10 (.call [] [] (RI n) .no fun x0=>.call [] [] (Aa x0 [1]) .no fun x1=>.ret x1) Tryz.func47 (by kernel_rfl) (by kernel_rfl) (by kernel_rfl)
end Go.Ab.M
