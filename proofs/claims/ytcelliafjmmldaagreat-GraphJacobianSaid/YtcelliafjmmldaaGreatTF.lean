import Derived.Test.YtcelliafjmmldaaGreatTE
namespace Go.Ab.M
open Go.Proofs
set_option linter.unusedVariables false
set_option maxRecDepth 100000
def ql (a:List Int) (b:List Int) (out:List Int) (carry:Int) (i:Nat):Option ((List Int×Int×Nat)⊕(List Int)):=
 bif decide (((i:Nat):Int)≤(mxI ((a.length:Nat):Int) ((b.length:Nat):Int))) then
 (oL a ((i:Nat):Int)).bind fun x0=>
 (oL b ((i:Nat):Int)).bind fun x1=>
 bif decide (0≤IntKind.wrap .u64 ((IntKind.wrap .u64 (x0+x1))+carry)) then
 bif decide (0<4294967296) then
 bif decide (out.length+1≤2147483648) then
 bif decide (0≤IntKind.wrap .u64 ((IntKind.wrap .u64 (x0+x1))+carry)) then
 bif decide (0<4294967296) then
 bif decide (IntKind.wrap .u64 ((IntKind.wrap .u64 (x0+x1))+carry)≤Go.Ab.hi .u64) then
 bif inK .i64 (((i:Nat):Int)+1) then
 some (.inl (out++[IntKind.wrap .u32 ((IntKind.wrap .u64 ((IntKind.wrap .u64 (x0+x1))+carry))%4294967296)],(IntKind.wrap .u64 ((IntKind.wrap .u64 (x0+x1))+carry))/4294967296,i+1))
 else none
 else none
 else none
 else none
 else none
 else none
 else none
 else
 some (.inr out)
def JH (a:List Int) (b:List Int) (out:List Int) (carry:Int) (i:Nat):Option (List Int):=aI (fun (σ:List Int×Int×Nat)=>ql a b σ.1 σ.2.1 σ.2.2) FU (out,carry,i)
def LP (a:List Int) (b:List Int):Option (List Int):=
 (JH a b [] 0 0).bind fun x0=>
 (gU x0).bind fun x1=>
 some x1
def vJ (a:List Int) (b:List Int) (out:List Int) (i:Nat):Option ((List Int×Nat)⊕(List Int)):=
 bif decide (((i:Nat):Int)<((b.length:Nat):Int)) then
 bif decide (i≤2147483648) then
 bif decide (i<b.length) then
 (jM a (nth b i) 0).bind fun x0=>
 bif decide ((List.replicate i 0:List Int).length+x0.length≤2147483648) then
 (LP out ((List.replicate i 0)++x0)).bind fun x1=>
 bif inK .i64 (((i:Nat):Int)+1) then
 some (.inl (x1,i+1))
 else none
 else none
 else none
 else none
 else
 some (.inr out)
def JL (a:List Int) (b:List Int) (out:List Int) (i:Nat):Option (List Int):=aI (fun (σ:List Int×Nat)=>vJ a b σ.1 σ.2) FU (out,i)
def Cj (a:List Int) (b:List Int):Option (List Int):=
 (JL a b [] 0).bind fun x0=>
 some x0
def Ci (a:Whole):Option Whole:=
 (gU a.Mag).bind fun x0=>
 bif a.Neg then
 some (Whole.mk (decide (((x0.length:Nat):Int)>0)) x0)
 else
 some (Whole.mk false x0)
def GK (a:Whole) (b:Whole):Option Whole:=
 bif a.Neg==b.Neg then
 (LP a.Mag b.Mag).bind fun x0=>
 (Ci (Whole.mk a.Neg x0)).bind fun x1=>
 some x1
 else
 (uV a.Mag b.Mag).bind fun x0=>
 bif decide (x0≥0) then
 (uM a.Mag b.Mag).bind fun x1=>
 (Ci (Whole.mk a.Neg x1.1)).bind fun x2=>
 some x2
 else
 (uM b.Mag a.Mag).bind fun x1=>
 (Ci (Whole.mk b.Neg x1.1)).bind fun x2=>
 some x2
def Q9 (a:Whole) (b:Whole):Option Whole:=
 (Cj a.Mag b.Mag).bind fun x0=>
 (Ci (Whole.mk (!(a.Neg==b.Neg)) x0)).bind fun x1=>
 some x1
def fF (a:Rat):Option Rat:=
 (lV (Whole.mk a.Neg a.Num) a.Den).bind fun x0=>
 some x0
theorem Zh (a:Rat):∀r,fF a=some r→aj Tryz.prog 95 0 [AG Rat.D a] [] (AG Rat.D r) []:=
 au (enc:=fun r=>AG Rat.D r) (aQ:=fun r=>[]) 10 (.call [] [] (Aj (Whole.mk a.Neg a.Num) a.Den) .no fun x0=>.ret x0) Tryz.func95 (by kernel_rfl) (by kernel_rfl) (by kernel_rfl)
def xJ (a:List Int) (b:List Int) (i:Nat):St:=⟨26,0,[(0,SL (cI .u32) a),(1,SL (cI .u32) b),(5,I ((i:Nat):Int))],[]⟩
def wX (a:List Int) (b:List Int):St:=⟨26,0,[(4,B false)],[]⟩
def xZ (a:List Int) (b:List Int):St:=⟨26,0,[],[]⟩
def eU (a:List Int) (b:List Int) (i:Nat):Option (Nat⊕(Unit⊕Unit)):=
 bif decide (((i:Nat):Int)<((a.length:Nat):Int)) then
 bif decide (i<a.length) then
 bif decide (i<b.length) then
 bif (nth a i) != (nth b i) then
 some (.inr (.inl ()))
 else
 bif inK .i64 (((i:Nat):Int)+1) then
 some (.inl (i+1))
 else none
 else none
 else none
 else
 some (.inr (.inr ()))
theorem Qp (a:List Int) (b:List Int):∀σ:Nat,aP Tryz.prog (nav [1,1,0,1,0,0] (ah Tryz.f101)) (fun (σ:Nat)=>xJ a b σ) (fun (y:Unit⊕Unit)=>aK y (fun _=>.ret) (fun _=>(.exit 0))) (fun (y:Unit⊕Unit)=>aK y (fun y=>wX a b) (fun y=>xZ a b)) σ (eU a b σ)
 | i=>aJ 1010 (.op 40004 (.ln (cI .u32) a) (.br 100000014 (.op 60004 (.el (cI .u32) a (.up i)) (.op 60012 (.el (cI .u32) b (.up i)) (.br 100000025 (.ps 1000003 [.k [4] []] (.ret (.inr (.inl ())))) (.ps 1000003 [.k [0,1,5] []] (.ret (.inl (i+1))))))) (.ps 1000003 [.k [] []] (.ret (.inr (.inr ())))))) (by kernel_rfl)
def oU (a:List Int) (b:List Int) (i:Nat):Option (Unit⊕Unit):=aI (fun (σ:Nat)=>eU a b σ) FU i
theorem QV (a:List Int) (b:List Int) (i:Nat):∀y:Unit⊕Unit,oU a b i=some y→Runs Tryz.prog (.loop (nav [1,1,0,1,0,0] (ah Tryz.f101))) (xJ a b i) (aK y (fun _=>.ret) (fun _=>(.exit 0))) ((fun (y:Unit⊕Unit)=>aK y (fun y=>wX a b) (fun y=>xZ a b)) y):=
 bf (head:=fun (σ:Nat)=>xJ a b σ) (eo:=fun (y:Unit⊕Unit)=>aK y (fun _=>.ret) (fun _=>(.exit 0))) (so:=fun (y:Unit⊕Unit)=>aK y (fun y=>wX a b) (fun y=>xZ a b)) (Qp a b) (fun y h=>by rcases y with y | y<;>cases h) FU i
def uT (a:List Int) (b:List Int):Option Bool:=
 bif ((a.length:Nat):Int) != ((b.length:Nat):Int) then
 some false
 else
 (oU a b 0).bind fun y_=>aK y_ (fun x0=>
 some false)
 (fun x1=>
 some true)
theorem Ku (a:List Int) (b:List Int):∀r,uT a b=some r→aj Tryz.prog 101 0 [SL (cI .u32) a,SL (cI .u32) b] [] (B r) []:=
 au (enc:=fun r=>B r) (aQ:=fun r=>[]) 10 (.op 10002 (.ln (cI .u32) a) (.op 10006 (.ln (cI .u32) b) (.br 100000010 (.ret false) (.ps 1000001 [.k [0,1,5] []] (.lp2 0 (QV a b 0) (fun x0=>.ret false) (fun x1=>.ret true)))))) Tryz.func101 (by kernel_rfl) (by kernel_rfl) (by kernel_rfl)
def qm (a:Rat) (b:Rat):Option Bool:=
 bif a.Neg==b.Neg then
 (uT a.Num b.Num).bind fun x0=>
 bif x0 then
 (uT a.Den b.Den).bind fun x1=>
 some x1
 else
 some false
 else
 some false
theorem wO (a:Rat) (b:Rat):∀r,qm a b=some r→aj Tryz.prog 40 0 [AG Rat.D a,AG Rat.D b] [] (B r) []:=
 au (enc:=fun r=>B r) (aQ:=fun r=>[]) 10 (.br 10012 (.call [] [] (Ku a.Num b.Num) .no fun x0=>.br 10026 (.call [] [] (Ku a.Den b.Den) .no fun x1=>.ret x1) (.ret false)) (.ret false)) Tryz.func40 (by kernel_rfl) (by kernel_rfl) (by kernel_rfl)
def EZ (a:Rat):Option Bool:=
 (fF a).bind fun x0=>
 (qm x0 a).bind fun x1=>
 some x1
theorem UE (a:Rat):∀r,EZ a=some r→aj Tryz.prog 139 0 [AG Rat.D a] [] (B r) []:=
 au (enc:=fun r=>B r) (aQ:=fun r=>[]) 10 (.call [] [] (Zh a) .no fun x0=>.call [] [] (wO x0 a) .no fun x1=>.ret x1) Tryz.func139 (by kernel_rfl) (by kernel_rfl) (by kernel_rfl)
def Cc (a:Rat):Option Rat:=
 (fF a).bind fun x0=>
 bif !x0.Neg then
 some (Rat.mk (decide (((x0.Num.length:Nat):Int)>0)) x0.Num x0.Den)
 else
 some (Rat.mk false x0.Num x0.Den)
def G9 (a:Rat) (b:Rat):Option Whole:=
 (Q9 (Whole.mk a.Neg a.Num) (Whole.mk false b.Den)).bind fun x0=>
 some x0
def iT (a:Rat) (b:Rat):Option Rat:=
 (fF a).bind fun x0=>
 (fF b).bind fun x1=>
 (G9 x0 x1).bind fun x2=>
 (G9 x1 x0).bind fun x3=>
 (GK x2 x3).bind fun x4=>
 (Cj x0.Den x1.Den).bind fun x5=>
 (lV x4 x5).bind fun x6=>
 some x6
def iO (a:Rat) (b:Rat):Option Rat:=
 (fF a).bind fun x0=>
 (fF b).bind fun x1=>
 (Cj x0.Num x1.Num).bind fun x2=>
 (Cj x0.Den x1.Den).bind fun x3=>
 (lV (Whole.mk (!(x0.Neg==x1.Neg)) x2) x3).bind fun x4=>
 some x4
def LQ (a:Rat) (b:Rat):Option Rat:=
 (Cc b).bind fun x0=>
 (iT a x0).bind fun x1=>
 some x1
def Ip (a:Rat):Option Bool:=
 (fF a).bind fun x0=>
 some (((x0.Num.length:Nat):Int)==0)
def vO (a:Rat):Option Rat:=
 (fF a).bind fun x0=>
 some (Rat.mk x0.Neg x0.Den x0.Num)
def CB (a:Rat) (b:Rat):Option (Rat×Int):=
 (Ip b).bind fun x0=>
 bif x0 then
 some (Rat.mk false [] [],3)
 else
 (vO b).bind fun x1=>
 (iO a x1).bind fun x2=>
 some (x2,0)
def bQ (n:Int):Option Rat:=
 (F8 n).bind fun x0=>
 (lV x0 [1]).bind fun x1=>
 some x1
theorem uS (n:Int):∀r,bQ n=some r→aj Tryz.prog 37 0 [I n] [] (AG Rat.D r) []:=
 au (enc:=fun r=>AG Rat.D r) (aQ:=fun r=>[]) 10 (.call [] [] (Sl n) .no fun x0=>.call [] [] (Aj x0 [1]) .no fun x1=>.ret x1) Tryz.func37 (by kernel_rfl) (by kernel_rfl) (by kernel_rfl)
def vG (n:Int) (x2:Rat) (i:Nat) (out:Bool) (out1:List Int) (Y2:List Int):Option ((Nat×Bool×List Int×List Int)⊕(Bool×List Int×List Int)):=
 bif decide (((i:Nat):Int)<(0-n)) then
 (iO (Rat.mk out out1 Y2) x2).bind fun x4=>
 bif inK .i64 (((i:Nat):Int)+1) then
 some (.inl (i+1,x4.Neg,x4.Num,x4.Den))
 else none
 else
 some (.inr (out,out1,Y2))
def EN (n:Int) (x2:Rat) (i:Nat) (out:Bool) (out1:List Int) (Y2:List Int):Option (Bool×List Int×List Int):=aI (fun (σ:Nat×Bool×List Int×List Int)=>vG n x2 σ.1 σ.2.1 σ.2.2.1 σ.2.2.2) FU (i,out,out1,Y2)
def qO (n:Int) (x1:Rat) (i:Nat) (out:Bool) (out1:List Int) (Y2:List Int):Option ((Nat×Bool×List Int×List Int)⊕(Bool×List Int×List Int)):=
 bif decide (((i:Nat):Int)<n) then
 (iO (Rat.mk out out1 Y2) x1).bind fun x3=>
 bif inK .i64 (((i:Nat):Int)+1) then
 some (.inl (i+1,x3.Neg,x3.Num,x3.Den))
 else none
 else
 some (.inr (out,out1,Y2))
def yU (n:Int) (x1:Rat) (i:Nat) (out:Bool) (out1:List Int) (Y2:List Int):Option (Bool×List Int×List Int):=aI (fun (σ:Nat×Bool×List Int×List Int)=>qO n x1 σ.1 σ.2.1 σ.2.2.1 σ.2.2.2) FU (i,out,out1,Y2)
def uJ (a:Rat) (n:Int):Option (Rat×Int):=
 bif decide (n<(-64)) then
 some (Rat.mk false [] [],4)
 else
 bif decide (n>64) then
 some (Rat.mk false [] [],4)
 else
 (Ip a).bind fun x0=>
 bif x0 then
 bif decide (n<0) then
 some (Rat.mk false [] [],3)
 else
 (fF a).bind fun x1=>
 bif decide (n<0) then
 (vO a).bind fun x2=>
 bif inK .i64 (0-n) then
 (bQ 1).bind fun x3=>
 (EN n x2 0 x3.Neg x3.Num x3.Den).bind fun x4=>
 some (Rat.mk x4.1 x4.2.1 x4.2.2,0)
 else none
 else
 (bQ 1).bind fun x2=>
 (yU n x1 0 x2.Neg x2.Num x2.Den).bind fun x3=>
 some (Rat.mk x3.1 x3.2.1 x3.2.2,0)
 else
 (fF a).bind fun x1=>
 bif decide (n<0) then
 (vO a).bind fun x2=>
 bif inK .i64 (0-n) then
 (bQ 1).bind fun x3=>
 (EN n x2 0 x3.Neg x3.Num x3.Den).bind fun x4=>
 some (Rat.mk x4.1 x4.2.1 x4.2.2,0)
 else none
 else
 (bQ 1).bind fun x2=>
 (yU n x1 0 x2.Neg x2.Num x2.Den).bind fun x3=>
 some (Rat.mk x3.1 x3.2.1 x3.2.2,0)
def DU (a:List Rat) (b:List Rat) (i:Nat):St:=⟨29,0,[(0,SL Rat.D a),(1,SL Rat.D b),(5,I ((i:Nat):Int))],[]⟩
def CZ (a:List Rat) (b:List Rat):St:=⟨29,0,[(4,B false)],[]⟩
def Ee (a:List Rat) (b:List Rat):St:=⟨29,0,[],[]⟩
def pV (a:List Rat) (b:List Rat) (i:Nat):Option (Nat⊕(Unit⊕Unit)):=
 bif decide (((i:Nat):Int)<((a.length:Nat):Int)) then
 bif decide (i<a.length) then
 bif decide (i<b.length) then
 (qm (nth a i) (nth b i)).bind fun x0=>
 bif !x0 then
 some (.inr (.inl ()))
 else
 bif inK .i64 (((i:Nat):Int)+1) then
 some (.inl (i+1))
 else none
 else none
 else none
 else
 some (.inr (.inr ()))
theorem Vo (a:List Rat) (b:List Rat):∀σ:Nat,aP Tryz.prog (nav [1,1,0,1,0,0] (ah Tryz.f36)) (fun (σ:Nat)=>DU a b σ) (fun (y:Unit⊕Unit)=>aK y (fun _=>.ret) (fun _=>(.exit 0))) (fun (y:Unit⊕Unit)=>aK y (fun y=>CZ a b) (fun y=>Ee a b)) σ (pV a b σ)
 | i=>aJ 1010 (.op 40004 (.ln Rat.D a) (.br 100000015 (.op 60004 (.el Rat.D a (.up i)) (.op 60012 (.el Rat.D b (.up i)) (.call [] [] (wO (nth a i) (nth b i)) .no fun x0=>.br 100000028 (.ps 1000003 [.k [4] []] (.ret (.inr (.inl ())))) (.ps 1000003 [.k [0,1,5] []] (.ret (.inl (i+1))))))) (.ps 1000003 [.k [] []] (.ret (.inr (.inr ())))))) (by kernel_rfl)
def EJ (a:List Rat) (b:List Rat) (i:Nat):Option (Unit⊕Unit):=aI (fun (σ:Nat)=>pV a b σ) FU i
theorem Wj (a:List Rat) (b:List Rat) (i:Nat):∀y:Unit⊕Unit,EJ a b i=some y→Runs Tryz.prog (.loop (nav [1,1,0,1,0,0] (ah Tryz.f36))) (DU a b i) (aK y (fun _=>.ret) (fun _=>(.exit 0))) ((fun (y:Unit⊕Unit)=>aK y (fun y=>CZ a b) (fun y=>Ee a b)) y):=
 bf (head:=fun (σ:Nat)=>DU a b σ) (eo:=fun (y:Unit⊕Unit)=>aK y (fun _=>.ret) (fun _=>(.exit 0))) (so:=fun (y:Unit⊕Unit)=>aK y (fun y=>CZ a b) (fun y=>Ee a b)) (Vo a b) (fun y h=>by rcases y with y | y<;>cases h) FU i
def LH (a:List Rat) (b:List Rat):Option Bool:=
 bif ((a.length:Nat):Int) != ((b.length:Nat):Int) then
 some false
 else
 (EJ a b 0).bind fun y_=>aK y_ (fun x0=>
 some false)
 (fun x1=>
 some true)
theorem YB (a:List Rat) (b:List Rat):∀r,LH a b=some r→aj Tryz.prog 36 0 [SL Rat.D a,SL Rat.D b] [] (B r) []:=
 au (enc:=fun r=>B r) (aQ:=fun r=>[]) 10 (.op 10002 (.ln Rat.D a) (.op 10006 (.ln Rat.D b) (.br 100000011 (.ret false) (.ps 1000001 [.k [0,1,5] []] (.lp2 0 (Wj a b 0) (fun x0=>.ret false) (fun x1=>.ret true)))))) Tryz.func36 (by kernel_rfl) (by kernel_rfl) (by kernel_rfl)
end Go.Ab.M
