import Derived.Test.YtkfofbhimgepdaaGreatTU
namespace Go.Ab.M
open Go.Proofs
set_option linter.unusedVariables false
set_option linter.defProp false
set_option maxRecDepth 100000
def Uk (t:Tape) (i:Nat):St:=⟨40,0,[(2,.ptr 10 0 0),(5,I (i:Int))],[(10,BOX [I t.Ins,SL TOp.D t.Ops,SL K1 t.ay])]⟩
def U2 (t:Tape):St:=⟨40,0,[(4,B false)],[]⟩
def UC (t:Tape):St:=⟨40,0,[],[]⟩
def kN (t:Tape) (i:Nat):Option (Nat⊕(Unit⊕Unit)):=bif decide ((i:Int)<(t.Ops.length:Int)) then G1 (i<t.Ops.length)<|(DU [(nth t.Ops i).Num] 6).bind fun x0=>bif !x0 then some (.inr (.inl ())) else G2 ((i:Int)+1)<|some (.inl (i+1)) else some (.inr (.inr ()))
theorem Vw (t:Tape):∀σ:Nat,aU Tryz.prog (nav [1,1,0,1,0,0] (aQ Tryz.f5)) (fun (σ:Nat)=>Uk t σ) (fun (y:Unit⊕Unit)=>aN y (fun _=>.ret) (fun _=>(.exit 0))) (fun (y:Unit⊕Unit)=>aN y (fun y=>U2 t) (fun y=>UC t)) σ (kN t σ)
 | i=>aJ 1010 (.op 40006 (.ln TOp.D t.Ops) (.br 100000027 (.op 60006 (.el TOp.D t.Ops (.up i)) (.call [] [] (ZE [(nth t.Ops i).Num] 6) (.yes fun _=>⟨rfl,trivial⟩) fun x0=>.br 100000039 (G3 [4] [] (.ret (.inr (.inl ())))) (G3 [2,5] [10] (.ret (.inl (i+1)))))) (G3 [] [] (.ret (.inr (.inr ()))))))
def F5 (t:Tape) (i:Nat):Option (Unit⊕Unit):=aT (fun (σ:Nat)=>kN t σ) FU i
def Vt (t:Tape) (i:Nat):=
 bf (Vw t) (fun y h=>by rcases y with y | y<;>cases h) FU i
def I9 (t:Tape) (most:Int):Option Bool:=bif decide (t.Ins>8) then some false else bif decide ((t.ay.length:Int)>8) then some false else bif decide ((t.Ops.length:Int)>most) then some false else (F5 t 0).bind fun y_=>aN y_ (fun x0=>some false) (fun x1=>some true)
theorem YW (t:Tape) (most:Int):∀r,I9 t most=some r->au Tryz.prog 5 0 [AG Tape.D t,I most] [] (B r) []:=
 aA 10 (.br 10008 (.ret false) (.op 10012 (.ln K1 t.ay) (.br 10020 (.ret false) (.op 10024 (.ln TOp.D t.Ops) (.br 100000022 (.ret false) (G4 [2,5] [10] (.lp2 0 (Vt t 0) (fun x0=>.ret false) (fun x1=>.ret true)))))))) Tryz.func5
def zC (t:Tape):Option Bool:=(H8).bind fun x0=>(I9 t 8).bind fun x1=>bif !x1 then some x0 else (yY t).bind fun x2=>(zx t).bind fun x3=>bif x0 then bif x2.2==x3.2 then (sO x2.1 x3.1).bind fun x4=>some x4 else some false else some false
theorem N7 (t:Tape):∀r,zC t=some r->au Tryz.prog 3 0 [AG Tape.D t] [] (B r) []:=
 aA 10 (.call [] [] (WT) .no fun x0=>.call [] [] (YW t 8) .no fun x1=>.br 100000013 (.ret x0) (.call [] [] (L6 t) .no fun x2=>.call [] [] (X5 t) .no fun x3=>.br 70004 (.br 70014 (.call [] [] (Xt x2.1 x3.1) .no fun x4=>.ret x4) (.ret false)) (.ret false))) Tryz.func3
end Go.Ab.M
