import Derived.Test.YtcelliafjmmldaaGreatTG
namespace Go.Ab.M
open Go.Proofs
set_option linter.unusedVariables false
set_option maxRecDepth 100000
def zS (tA:TOp) (a:Rat) (a1:Rat):Option (Rat×Rat×Int):=
 (dH 1).bind fun x0=>
 (dH 0).bind fun x1=>
 bif tA.Code==1 then
 some (x1,x1,0)
 else
 bif tA.Code==2 then
 some (x0,x0,0)
 else
 bif tA.Code==3 then
 (dH (-1)).bind fun x2=>
 some (x0,x2,0)
 else
 bif tA.Code==4 then
 (fP a1).bind fun x2=>
 (fP a).bind fun x3=>
 some (x2,x3,0)
 else
 bif tA.Code==5 then
 (wQ x0 a1).bind fun x2=>
 (nZ a1 a1).bind fun x3=>
 (wQ a x3).bind fun x4=>
 bif x2.2 != 0 then
 some (Rat.mk false [] [],Rat.mk false [] [],3)
 else
 bif x4.2 != 0 then
 some (Rat.mk false [] [],Rat.mk false [] [],3)
 else
 (xP x4.1).bind fun x5=>
 some (x2.1,x5,0)
 else
 bif tA.Code==6 then
 (dH (-1)).bind fun x2=>
 some (x2,x1,0)
 else
 bif tA.Code==7 then
 bif decide (tA.Exp<(-20)) then
 some (Rat.mk false [] [],Rat.mk false [] [],4)
 else
 bif decide (tA.Exp>20) then
 some (Rat.mk false [] [],Rat.mk false [] [],4)
 else
 bif tA.Exp==0 then
 some (x1,x1,0)
 else
 bif inK .i64 (tA.Exp-1) then
 (qP a (tA.Exp-1)).bind fun x2=>
 bif x2.2 != 0 then
 some (Rat.mk false [] [],Rat.mk false [] [],x2.2)
 else
 (dH tA.Exp).bind fun x3=>
 (nZ x3 x2.1).bind fun x4=>
 some (x4,x1,0)
 else none
 else
 some (Rat.mk false [] [],Rat.mk false [] [],1)
theorem J8 (tA:TOp) (a:Rat) (a1:Rat):∀r,zS tA a a1=some r→aj Tryz.prog 89 0 [AG TOp.D tA,AG Rat.D a,AG Rat.D a1] [] (.tup [AG Rat.D r.1,AG Rat.D r.2.1,I r.2.2]) []:=
 ak (enc:=fun r=>.tup [AG Rat.D r.1,AG Rat.D r.2.1,I r.2.2]) (aP:=fun r=>[]) 10 (.call [] [] (bf 1) .no fun x0=>.call [] [] (bf 0) .no fun x1=>.br 100000021 (.ret (x1,x1,0)) (.br 100000025 (.ret (x0,x0,0)) (.br 100000029 (.call [] [] (bf (-1)) .no fun x2=>.ret (x0,x2,0)) (.br 100000033 (.call [] [] (dN a1) .no fun x2=>.call [] [] (dN a) .no fun x3=>.ret (x2,x3,0)) (.br 100000039 (.call [] [] (IL x0 a1) .no fun x2=>.call [] [] (qQ a1 a1) .no fun x3=>.call [] [] (IL a x3) .no fun x4=>.br 150006 (.ps 1000003 [.b 13,.b 14] (.ret (Rat.mk false [] [],Rat.mk false [] [],3))) (.br 100000060 (.ps 1000003 [.b 13,.b 14] (.ret (Rat.mk false [] [],Rat.mk false [] [],3))) (.call [] [] (IC x4.1) .no fun x5=>.ret (x2.1,x5,0)))) (.br 100000066 (.call [] [] (bf (-1)) .no fun x2=>.ret (x2,x1,0)) (.br 100000070 (.br 210008 (.ps 1000003 [.b 13,.b 14] (.ret (Rat.mk false [] [],Rat.mk false [] [],4))) (.br 100000079 (.ps 1000003 [.b 13,.b 14] (.ret (Rat.mk false [] [],Rat.mk false [] [],4))) (.br 100000084 (.ret (x1,x1,0)) (.call [] [] (Qg a (tA.Exp-1)) .no fun x2=>.br 100000096 (.ps 1000003 [.b 13,.b 14] (.ret (Rat.mk false [] [],Rat.mk false [] [],x2.2))) (.call [] [] (bf tA.Exp) .no fun x3=>.call [] [] (qQ x3 x2.1) .no fun x4=>.ret (x4,x1,0)))))) (.ps 1000003 [.b 13,.b 14] (.ret (Rat.mk false [] [],Rat.mk false [] [],1)))))))))) Tryz.func89 (by kernel_rfl) (by kernel_rfl) (by kernel_rfl)
def DV (a:List Edge) (b:List Edge) (i:Nat):St:=⟨57,0,[(0,SL Edge.D a),(1,SL Edge.D b),(5,I ((i:Nat):Int))],[]⟩
def Ea (a:List Edge) (b:List Edge):St:=⟨57,0,[(4,B false)],[]⟩
def DL (a:List Edge) (b:List Edge):St:=⟨57,0,[],[]⟩
def pY (a:List Edge) (b:List Edge) (i:Nat):Option (Nat⊕(Unit⊕Unit)):=
 bif decide (((i:Nat):Int)<((a.length:Nat):Int)) then
 bif decide (i<a.length) then
 bif decide (i<b.length) then
 (pW ((nth a i).W) ((nth b i).W)).bind fun x0=>
 bif !x0 then
 some (.inr (.inl ()))
 else
 bif decide (i<a.length) then
 bif decide (i<b.length) then
 bif ((nth a i).From) != ((nth b i).From) then
 some (.inr (.inl ()))
 else
 bif decide (i<a.length) then
 bif decide (i<b.length) then
 bif ((nth a i).To) != ((nth b i).To) then
 some (.inr (.inl ()))
 else
 bif inK .i64 (((i:Nat):Int)+1) then
 some (.inl (i+1))
 else none
 else none
 else none
 else none
 else none
 else none
 else none
 else
 some (.inr (.inr ()))
theorem Vk (a:List Edge) (b:List Edge):∀σ:Nat,aN Tryz.prog (nav [1,1,0,1,0,0] (ah Tryz.f31)) (fun (σ:Nat)=>DV a b σ) (fun (y:Unit⊕Unit)=>aH y (fun _=>.ret) (fun _=>(.exit 0))) (fun (y:Unit⊕Unit)=>aH y (fun y=>Ea a b) (fun y=>DL a b)) σ (pY a b σ)
 | i=>aF 1010 (.op 40004 (.ln Edge.D a) (.br 100000015 (.op 60004 (.el Edge.D a (.up i)) (.op 60014 (.el Edge.D b (.up i)) (.call [] [] (vP ((nth a i).W) ((nth b i).W)) .no fun x0=>.br 70006 (.ps 1000003 [.k [4] []] (.ret (.inr (.inl ())))) (.op 70010 (.el Edge.D a (.up i)) (.op 70020 (.el Edge.D b (.up i)) (.br 70032 (.ps 1000003 [.k [4] []] (.ret (.inr (.inl ())))) (.op 70036 (.el Edge.D a (.up i)) (.op 70046 (.el Edge.D b (.up i)) (.br 100000056 (.ps 1000003 [.k [4] []] (.ret (.inr (.inl ())))) (.ps 1000003 [.k [0,1,5] []] (.ret (.inl (i+1))))))))))))) (.ps 1000003 [.k [] []] (.ret (.inr (.inr ())))))) (by kernel_rfl)
def FB (a:List Edge) (b:List Edge) (i:Nat):Option (Unit⊕Unit):=aK (fun (σ:Nat)=>pY a b σ) FU i
theorem WW (a:List Edge) (b:List Edge) (i:Nat):∀y:Unit⊕Unit,FB a b i=some y→Runs Tryz.prog (.loop (nav [1,1,0,1,0,0] (ah Tryz.f31))) (DV a b i) (aH y (fun _=>.ret) (fun _=>(.exit 0))) ((fun (y:Unit⊕Unit)=>aH y (fun y=>Ea a b) (fun y=>DL a b)) y):=
 aS (head:=fun (σ:Nat)=>DV a b σ) (eo:=fun (y:Unit⊕Unit)=>aH y (fun _=>.ret) (fun _=>(.exit 0))) (so:=fun (y:Unit⊕Unit)=>aH y (fun y=>Ea a b) (fun y=>DL a b)) (Vk a b) (fun y h=>by rcases y with y | y<;>cases h) FU i
def L8 (a:List Edge) (b:List Edge):Option Bool:=
 bif ((a.length:Nat):Int) != ((b.length:Nat):Int) then
 some false
 else
 (FB a b 0).bind fun y_=>aH y_ (fun x0=>
 some false)
 (fun x1=>
 some true)
theorem ZX (a:List Edge) (b:List Edge):∀r,L8 a b=some r→aj Tryz.prog 31 0 [SL Edge.D a,SL Edge.D b] [] (B r) []:=
 ak (enc:=fun r=>B r) (aP:=fun r=>[]) 10 (.op 10002 (.ln Edge.D a) (.op 10006 (.ln Edge.D b) (.br 100000011 (.ret false) (.ps 1000001 [.k [0,1,5] []] (.lp2 0 (WW a b 0) (fun x0=>.ret false) (fun x1=>.ret true)))))) Tryz.func31 (by kernel_rfl) (by kernel_rfl) (by kernel_rfl)
def WJ (a:Jac) (b:Jac):Option Bool:=
 bif a.Rows==b.Rows then
 bif a.QU==b.QU then
 (Yj a.All b.All).bind fun x0=>
 some x0
 else
 some false
 else
 some false
theorem XU (a:Jac) (b:Jac):∀r,WJ a b=some r→aj Tryz.prog 32 0 [AG Jac.D a,AG Jac.D b] [] (B r) []:=
 ak (enc:=fun r=>B r) (aP:=fun r=>[]) 10 (.br 10012 (.br 10026 (.call [] [] (Zw a.All b.All) .no fun x0=>.ret x0) (.ret false)) (.ret false)) Tryz.func32 (by kernel_rfl) (by kernel_rfl) (by kernel_rfl)
end Go.Ab.M
