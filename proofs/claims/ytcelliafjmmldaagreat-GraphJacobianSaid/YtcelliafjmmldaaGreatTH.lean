import Derived.Test.YtcelliafjmmldaaGreatTG
namespace Go.Ab.M
open Go.Proofs
set_option linter.unusedVariables false
set_option maxRecDepth 100000
def uO (tA:TOp) (a:Rat) (a1:Rat):Option (Rat×Rat×Int):=
 (bQ 1).bind fun x0=>
 (bQ 0).bind fun x1=>
 bif tA.Code==1 then
 some (x1,x1,0)
 else
 bif tA.Code==2 then
 some (x0,x0,0)
 else
 bif tA.Code==3 then
 (bQ (-1)).bind fun x2=>
 some (x0,x2,0)
 else
 bif tA.Code==4 then
 (fF a1).bind fun x2=>
 (fF a).bind fun x3=>
 some (x2,x3,0)
 else
 bif tA.Code==5 then
 (CB x0 a1).bind fun x2=>
 (iO a1 a1).bind fun x3=>
 (CB a x3).bind fun x4=>
 bif x2.2 != 0 then
 some (Rat.mk false [] [],Rat.mk false [] [],3)
 else
 bif x4.2 != 0 then
 some (Rat.mk false [] [],Rat.mk false [] [],3)
 else
 (Cc x4.1).bind fun x5=>
 some (x2.1,x5,0)
 else
 bif tA.Code==6 then
 (bQ (-1)).bind fun x2=>
 some (x2,x1,0)
 else
 bif tA.Code==7 then
 bif decide (tA.Exp<(-20)) then
 some (Rat.mk false [] [],Rat.mk false [] [],4)
 else
 bif decide (tA.Exp>20) then
 some (Rat.mk false [] [],Rat.mk false [] [],4)
 else
 bif tA.Exp==0 then
 some (x1,x1,0)
 else
 bif inK .i64 (tA.Exp-1) then
 (uJ a (tA.Exp-1)).bind fun x2=>
 bif x2.2 != 0 then
 some (Rat.mk false [] [],Rat.mk false [] [],x2.2)
 else
 (bQ tA.Exp).bind fun x3=>
 (iO x3 x2.1).bind fun x4=>
 some (x4,x1,0)
 else none
 else
 some (Rat.mk false [] [],Rat.mk false [] [],1)
def DR (a:List Edge) (b:List Edge) (i:Nat):St:=⟨57,0,[(0,SL Edge.D a),(1,SL Edge.D b),(5,I ((i:Nat):Int))],[]⟩
def D7 (a:List Edge) (b:List Edge):St:=⟨57,0,[(4,B false)],[]⟩
def DT (a:List Edge) (b:List Edge):St:=⟨57,0,[],[]⟩
def qo (a:List Edge) (b:List Edge) (i:Nat):Option (Nat⊕(Unit⊕Unit)):=
 bif decide (((i:Nat):Int)<((a.length:Nat):Int)) then
 bif decide (i<a.length) then
 bif decide (i<b.length) then
 (qm ((nth a i).W) ((nth b i).W)).bind fun x0=>
 bif !x0 then
 some (.inr (.inl ()))
 else
 bif decide (i<a.length) then
 bif decide (i<b.length) then
 bif ((nth a i).From) != ((nth b i).From) then
 some (.inr (.inl ()))
 else
 bif decide (i<a.length) then
 bif decide (i<b.length) then
 bif ((nth a i).To) != ((nth b i).To) then
 some (.inr (.inl ()))
 else
 bif inK .i64 (((i:Nat):Int)+1) then
 some (.inl (i+1))
 else none
 else none
 else none
 else none
 else none
 else none
 else none
 else
 some (.inr (.inr ()))
theorem Wi (a:List Edge) (b:List Edge):∀σ:Nat,aP Tryz.prog (nav [1,1,0,1,0,0] (ah Tryz.f31)) (fun (σ:Nat)=>DR a b σ) (fun (y:Unit⊕Unit)=>aK y (fun _=>.ret) (fun _=>(.exit 0))) (fun (y:Unit⊕Unit)=>aK y (fun y=>D7 a b) (fun y=>DT a b)) σ (qo a b σ)
 | i=>aJ 1010 (.op 40004 (.ln Edge.D a) (.br 100000015 (.op 60004 (.el Edge.D a (.up i)) (.op 60014 (.el Edge.D b (.up i)) (.call [] [] (wO ((nth a i).W) ((nth b i).W)) .no fun x0=>.br 70006 (.ps 1000003 [.k [4] []] (.ret (.inr (.inl ())))) (.op 70010 (.el Edge.D a (.up i)) (.op 70020 (.el Edge.D b (.up i)) (.br 70032 (.ps 1000003 [.k [4] []] (.ret (.inr (.inl ())))) (.op 70036 (.el Edge.D a (.up i)) (.op 70046 (.el Edge.D b (.up i)) (.br 100000056 (.ps 1000003 [.k [4] []] (.ret (.inr (.inl ())))) (.ps 1000003 [.k [0,1,5] []] (.ret (.inl (i+1))))))))))))) (.ps 1000003 [.k [] []] (.ret (.inr (.inr ())))))) (by kernel_rfl)
def EX (a:List Edge) (b:List Edge) (i:Nat):Option (Unit⊕Unit):=aI (fun (σ:Nat)=>qo a b σ) FU i
theorem UC (a:List Edge) (b:List Edge) (i:Nat):∀y:Unit⊕Unit,EX a b i=some y→Runs Tryz.prog (.loop (nav [1,1,0,1,0,0] (ah Tryz.f31))) (DR a b i) (aK y (fun _=>.ret) (fun _=>(.exit 0))) ((fun (y:Unit⊕Unit)=>aK y (fun y=>D7 a b) (fun y=>DT a b)) y):=
 bf (head:=fun (σ:Nat)=>DR a b σ) (eo:=fun (y:Unit⊕Unit)=>aK y (fun _=>.ret) (fun _=>(.exit 0))) (so:=fun (y:Unit⊕Unit)=>aK y (fun y=>D7 a b) (fun y=>DT a b)) (Wi a b) (fun y h=>by rcases y with y | y<;>cases h) FU i
def Lh (a:List Edge) (b:List Edge):Option Bool:=
 bif ((a.length:Nat):Int) != ((b.length:Nat):Int) then
 some false
 else
 (EX a b 0).bind fun y_=>aK y_ (fun x0=>
 some false)
 (fun x1=>
 some true)
theorem Yu (a:List Edge) (b:List Edge):∀r,Lh a b=some r→aj Tryz.prog 31 0 [SL Edge.D a,SL Edge.D b] [] (B r) []:=
 au (enc:=fun r=>B r) (aQ:=fun r=>[]) 10 (.op 10002 (.ln Edge.D a) (.op 10006 (.ln Edge.D b) (.br 100000011 (.ret false) (.ps 1000001 [.k [0,1,5] []] (.lp2 0 (UC a b 0) (fun x0=>.ret false) (fun x1=>.ret true)))))) Tryz.func31 (by kernel_rfl) (by kernel_rfl) (by kernel_rfl)
def uj (a:Jac) (b:Jac):Option Bool:=
 bif a.Rows==b.Rows then
 bif a.Qv==b.Qv then
 (LH a.All b.All).bind fun x0=>
 some x0
 else
 some false
 else
 some false
theorem MH (a:Jac) (b:Jac):∀r,uj a b=some r→aj Tryz.prog 32 0 [AG Jac.D a,AG Jac.D b] [] (B r) []:=
 au (enc:=fun r=>B r) (aQ:=fun r=>[]) 10 (.br 10012 (.br 10026 (.call [] [] (YB a.All b.All) .no fun x0=>.ret x0) (.ret false)) (.ret false)) Tryz.func32 (by kernel_rfl) (by kernel_rfl) (by kernel_rfl)
end Go.Ab.M
