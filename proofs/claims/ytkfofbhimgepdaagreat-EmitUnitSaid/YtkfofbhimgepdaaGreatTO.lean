import Derived.Test.YtkfofbhimgepdaaGreatTK
namespace Go.Ab.M
open Go.Proofs
set_option linter.unusedVariables false
set_option linter.defProp false
set_option maxRecDepth 100000
structure Instr where
 Op:Int
 To:Int
 A_:Int
 B_:Int
 Num:Rat
 deriving DecidableEq,Inhabited
abbrev Instr.D (x:Instr):List D:=[.v (.int .i64 x.Op)]++[.v (.int .i64 x.To)]++[.v (.int .i64 x.A_)]++[.v (.int .i64 x.B_)]++Rat.D x.Num
structure Code where
 Ins:Int
 Rows:Int
 ak:Int
 aB:Int
 All:List Instr
 deriving DecidableEq,Inhabited
abbrev Code.D (x:Code):List D:=[.v (.int .i64 x.Ins),.v (.int .i64 x.Rows),.v (.int .i64 x.ak),.v (.int .i64 x.aB),.sl (x.All.map Instr.D)]
structure bG where
 a:Bool
 b:Bool
 power:Bool
 deriving DecidableEq,Inhabited
abbrev bG.D (x:bG):List D:=[.v (.bool x.a),.v (.bool x.b),.v (.bool x.power)]
def TY (op:Int):Option (bG×Bool):=let y0:=(bG.mk true true false,true);let y1:=(bG.mk false false false,true);let y2:=(bG.mk true false false,true);bif op==0 then some y1 else bif op==1 then some y1 else bif op==2 then some y0 else bif op==3 then some y0 else bif op==4 then some y0 else bif op==5 then some y0 else bif op==8 then some y0 else bif op==9 then some y0 else bif op==6 then some y2 else bif op==10 then some y2 else bif op==7 then some (bG.mk true false true,true) else some (bG.mk false false false,false)
theorem XM (op:Int):∀r,TY op=some r->au Tryz.prog 87 0 [I op] [] (.tup [AG bG.D r.1,B r.2]) []:=
 let y0:=(bG.mk true true false,true);let y1:=(bG.mk false false false,true);let y2:=(bG.mk true false false,true);aA 10 (.br 100000005 (.ret y1) (.br 100000005 (.ret y1) (.br 100000009 (.ret y0) (.br 100000009 (.ret y0) (.br 100000009 (.ret y0) (.br 100000009 (.ret y0) (.br 100000009 (.ret y0) (.br 100000009 (.ret y0) (.br 100000017 (.ret y2) (.br 100000017 (.ret y2) (.br 100000021 (.ret (bG.mk true false true,true)) (.ret (bG.mk false false false,false))))))))))))) Tryz.func87
def YD (i:Instr):Option Bool:=bif i.Op != 1 then bif !i.Num.Neg then bif (i.Num.Num.length:Int)==0 then some ((i.Num.Den.length:Int)==0) else some false else some false else (oD i.Num).bind fun x0=>bif x0 then (nX i.Num.Num).bind fun x1=>bif decide (x1<=40) then (nX i.Num.Den).bind fun x2=>some (decide (x2<=40)) else some false else some false
theorem Zi (i:Instr):∀r,YD i=some r->au Tryz.prog 88 0 [AG Instr.D i] [] (B r) []:=
 aA 10 (.br 100000005 (.br 20010 (.op 20016 (.ln K2 i.Num.Num) (.br 20024 (.op 20030 (.ln K2 i.Num.Den) (.ret ((i.Num.Den.length:Int)==0))) (.ret false))) (.ret false)) (.call [] [] (zG i.Num) .no fun x0=>.br 30008 (.call [] [] (uQ i.Num.Num) .no fun x1=>.br 30022 (.call [] [] (uQ i.Num.Den) .no fun x2=>.ret (decide (x2<=40))) (.ret false)) (.ret false))) Tryz.func88
def X3 (tA:Code) (a:Instr) (a1:List Bool) (i:Bool) (o:Bool) (o1:Bool) (o2:Bool) (o3:Bool):St:=⟨85,0,[(2,SL cB a1),(3,.ptr 10 0 0),(4,.ptr 11 0 0),(7,.ptr 12 0 0),(9,I tA.aB),(29,B i)],[(10,BOX [I tA.Ins,I tA.Rows,I tA.ak,I tA.aB,SL Instr.D tA.All]),(11,BOX [I a.Op,I a.To,I a.A_,I a.B_,B o,SL K2 a.Num.Num,SL K2 a.Num.Den]),(12,BOX [B o1,B o2,B o3])]⟩
def Kz (tA:Code) (a:Instr) (a1:List Bool) (i:Int) (o:Bool) (o1:Bool) (o2:Bool) (o3:Bool):St:=⟨85,0,[(2,SL cB a1),(3,.ptr 10 0 0),(4,.ptr 11 0 0),(7,.ptr 12 0 0),(9,I i)],[(10,BOX [I tA.Ins,I tA.Rows,I tA.ak,I tA.aB,SL Instr.D tA.All]),(11,BOX [I a.Op,I a.To,I a.A_,I a.B_,B o,SL K2 a.Num.Num,SL K2 a.Num.Den]),(12,BOX [B o1,B o2,B o3])]⟩
def V8 (tA:Code) (a:Instr) (a1:List Bool) (i:Bool) (o:Bool) (o1:Bool) (o2:Bool) (o3:Bool):Option (Int×Bool×Bool×Bool×Bool):=bif i then G2 (tA.Rows*tA.ak)<|some (tA.Rows*tA.ak,o,o1,o2,o3) else some (tA.aB,o,o1,o2,o3)
theorem XD (tA:Code) (a:Instr) (a1:List Bool) (i:Bool) (o:Bool) (o1:Bool) (o2:Bool) (o3:Bool):∀y:Int×Bool×Bool×Bool×Bool,V8 tA a a1 i o o1 o2 o3=some y->Runs Tryz.prog (nav [1,1,1,1,0,1] (aQ Tryz.f51)) (X3 tA a a1 i o o1 o2 o3) ((fun (_:Int×Bool×Bool×Bool×Bool)=>.normal) y) ((fun (y:Int×Bool×Bool×Bool×Bool)=>Kz tA a a1 y.1 y.2.1 y.2.2.1 y.2.2.2.1 y.2.2.2.2) y):=
 LJ (eo:=fun (_:Int×Bool×Bool×Bool×Bool)=>.normal) (so:=fun (y:Int×Bool×Bool×Bool×Bool)=>Kz tA a a1 y.1 y.2.1 y.2.2.1 y.2.2.2.1 y.2.2.2.2) 1010 (.br 100000029 (G3 [2,3,4,7,9] [10,11,12] (.ret (tA.Rows*tA.ak,o,o1,o2,o3))) (G3 [2,3,4,7,9] [10,11,12] (.ret (tA.aB,o,o1,o2,o3)))) (by kernel_rfl)
def Ie (is:Bool) (r12:Int) (written:List Bool):Option Bool:=bif !is then some (r12==0) else bif decide (r12>=0) then bif decide (r12<(written.length:Int)) then G1 (0<=r12)<|G1 (r12.toNat<written.length)<|some (nth written r12.toNat) else some false else some false
theorem Gp (is:Bool) (r12:Int) (written:List Bool):∀r,Ie is r12 written=some r->au Tryz.prog 89 0 [B is,I r12,SL cB written] [] (B r) []:=
 aA 10 (.br 100000008 (.ret (r12==0)) (.br 30006 (.op 30010 (.ln cB written) (.br 30018 (.op 30022 (.el cB written .dn) (.ret (nth written r12.toNat))) (.ret false))) (.ret false))) Tryz.func89
def Rj (tA:Code) (a:Instr) (a1:List Bool) (i:Int) (i1:Bool) (i2:Bool) (o:Bool) (o1:Bool) (o2:Bool) (o3:Bool):St:=⟨85,0,[(2,SL cB a1),(3,.ptr 10 0 0),(4,.ptr 11 0 0),(7,.ptr 12 0 0),(9,I i),(10,B i1),(43,B i2)],[(10,BOX [I tA.Ins,I tA.Rows,I tA.ak,I tA.aB,SL Instr.D tA.All]),(11,BOX [I a.Op,I a.To,I a.A_,I a.B_,B o,SL K2 a.Num.Num,SL K2 a.Num.Den]),(12,BOX [B o1,B o2,B o3])]⟩
def FC (tA:Code) (a:Instr) (a1:List Bool) (i:Int) (i1:Bool) (o:Bool) (o1:Bool) (o2:Bool) (o3:Bool):St:=⟨85,0,[(2,SL cB a1),(4,.ptr 11 0 0),(7,.ptr 12 0 0),(9,I i),(10,B i1)],[(11,BOX [I a.Op,I a.To,I a.A_,I a.B_,B o,SL K2 a.Num.Num,SL K2 a.Num.Den]),(12,BOX [B o1,B o2,B o3])]⟩
def MH (tA:Code) (a:Instr) (a1:List Bool) (i:Int) (i1:Bool) (i2:Bool) (o:Bool) (o1:Bool) (o2:Bool) (o3:Bool):Option (Int×Bool×Bool×Bool×Bool×Bool):=bif i2 then bif decide (a.A_>=0) then some (i,decide (a.A_<tA.Ins),o,o1,o2,o3) else some (i,false,o,o1,o2,o3) else some (i,i1,o,o1,o2,o3)
theorem SE (tA:Code) (a:Instr) (a1:List Bool) (i:Int) (i1:Bool) (i2:Bool) (o:Bool) (o1:Bool) (o2:Bool) (o3:Bool):∀y:Int×Bool×Bool×Bool×Bool×Bool,MH tA a a1 i i1 i2 o o1 o2 o3=some y->Runs Tryz.prog (nav [1,1,1,1,1,1,0,1] (aQ Tryz.f51)) (Rj tA a a1 i i1 i2 o o1 o2 o3) ((fun (_:Int×Bool×Bool×Bool×Bool×Bool)=>.normal) y) ((fun (y:Int×Bool×Bool×Bool×Bool×Bool)=>FC tA a a1 y.1 y.2.1 y.2.2.1 y.2.2.2.1 y.2.2.2.2.1 y.2.2.2.2.2) y):=
 LJ (eo:=fun (_:Int×Bool×Bool×Bool×Bool×Bool)=>.normal) (so:=fun (y:Int×Bool×Bool×Bool×Bool×Bool)=>FC tA a a1 y.1 y.2.1 y.2.2.1 y.2.2.2.1 y.2.2.2.2.1 y.2.2.2.2.2) 1010 (.br 100000043 (.br 90008 (G3 [2,4,7,9,10] [11,12] (.ret (i,decide (a.A_<tA.Ins),o,o1,o2,o3))) (G3 [2,4,7,9,10] [11,12] (.ret (i,false,o,o1,o2,o3)))) (G3 [2,4,7,9,10] [11,12] (.ret (i,i1,o,o1,o2,o3)))) (by kernel_rfl)
def QO (a:Instr) (i:Int) (i1:Bool) (i2:Bool) (i3:Bool) (o:Bool):St:=⟨85,0,[(4,.ptr 11 0 0),(9,I i),(10,B i1),(11,B i2),(61,B i3)],[(11,BOX [I a.Op,I a.To,I a.A_,I a.B_,B o,SL K2 a.Num.Num,SL K2 a.Num.Den])]⟩
def Fj (a:Instr) (i:Int) (i1:Bool) (i2:Bool) (o:Bool):St:=⟨85,0,[(4,.ptr 11 0 0),(9,I i),(10,B i1),(11,B i2)],[(11,BOX [I a.Op,I a.To,I a.A_,I a.B_,B o,SL K2 a.Num.Num,SL K2 a.Num.Den])]⟩
def Nc (a:Instr) (i:Int) (i1:Bool) (i2:Bool) (i3:Bool) (o:Bool):Option (Int×Bool×Bool×Bool):=bif i3 then bif decide (a.B_>=(-21)) then some (i,i1,decide (a.B_<=21),o) else some (i,i1,false,o) else some (i,i1,i2,o)
theorem Q5 (a:Instr) (i:Int) (i1:Bool) (i2:Bool) (i3:Bool) (o:Bool):∀y:Int×Bool×Bool×Bool,Nc a i i1 i2 i3 o=some y->Runs Tryz.prog (nav [1,1,1,1,1,1,1,1,0,1] (aQ Tryz.f51)) (QO a i i1 i2 i3 o) ((fun (_:Int×Bool×Bool×Bool)=>.normal) y) ((fun (y:Int×Bool×Bool×Bool)=>Fj a y.1 y.2.1 y.2.2.1 y.2.2.2) y):=
 LJ (eo:=fun (_:Int×Bool×Bool×Bool)=>.normal) (so:=fun (y:Int×Bool×Bool×Bool)=>Fj a y.1 y.2.1 y.2.2.1 y.2.2.2) 1010 (.br 100000061 (.br 120008 (G3 [4,9,10,11] [11] (.ret (i,i1,decide (a.B_<=21),o))) (G3 [4,9,10,11] [11] (.ret (i,i1,false,o)))) (G3 [4,9,10,11] [11] (.ret (i,i1,i2,o)))) (by kernel_rfl)
def abp (tA:Code) (a:Instr) (a1:List Bool):Option Bool:=(TY a.Op).bind fun x0=>bif !x0.2 then some false else (YD a).bind fun x1=>bif !x1 then some false else (V8 tA a a1 (a.Op==10) a.Num.Neg x0.1.a x0.1.b x0.1.power).bind fun x2=>(Ie x2.2.2.1 a.A_ a1).bind fun x3=>(MH tA a a1 x2.1 x3 (a.Op==0) x2.2.1 x2.2.2.1 x2.2.2.2.1 x2.2.2.2.2).bind fun x4=>(Ie x4.2.2.2.2.1 a.B_ a1).bind fun x5=>(Nc a x4.1 x4.2.1 x5 x4.2.2.2.2.2 x4.2.2.1).bind fun x6=>bif x6.2.1 then bif x6.2.2.1 then bif decide (a.To>=0) then some (decide (a.To<x6.1)) else some false else some false else some false
theorem abr (tA:Code) (a:Instr) (a1:List Bool):∀r,abp tA a a1=some r->au Tryz.prog 51 0 [AG Code.D tA,AG Instr.D a,SL cB a1] [] (B r) []:=
 aA 10 (.call [] [] (XM a.Op) .no fun x0=>.br 20006 (.ret false) (.call [] [] (Zi a) .no fun x1=>.br 100000024 (.ret false) (.ps 10 [.k [2,3,4,7,9,29] [10,11,12]] (.lp1 300000029 (XD tA a a1 (a.Op==10) a.Num.Neg x0.1.a x0.1.b x0.1.power) fun x2=>.call [] [] (Gp x2.2.2.1 a.A_ a1) .no fun x3=>.ps 16 [.k [2,3,4,7,9,10,43] [10,11,12]] (.lp1 300000043 (SE tA a a1 x2.1 x3 (a.Op==0) x2.2.1 x2.2.2.1 x2.2.2.2.1 x2.2.2.2.2) fun x4=>.call [] [] (Gp x4.2.2.2.2.1 a.B_ a1) .no fun x5=>.ps 22 [.k [4,9,10,11,61] [11]] (.lp1 300000061 (Q5 a x4.1 x4.2.1 x5 x4.2.2.2.2.2 x4.2.2.1) fun x6=>.br 130004 (.br 130010 (.br 130020 (.ret (decide (a.To<x6.1))) (.ret false)) (.ret false)) (.ret false))))))) Tryz.func51
def XC (tA:Code) (i:Nat) (o:List Bool):St:=⟨70,0,[(1,.ptr 10 0 0),(3,.msl 11 0 none (some tA.aB.toNat)),(51,SL Instr.D tA.All),(52,I (tA.All.length:Int)),(53,I (i:Int))],[(10,BOX [I tA.Ins,I tA.Rows,I tA.ak,I tA.aB,SL Instr.D tA.All]),(11,ROW 1 cB o 0)]⟩
def Xv (tA:Code):St:=⟨70,0,[(2,B false)],[]⟩
def XK (tA:Code):St:=⟨70,0,[],[]⟩
def J9 (tA:Code) (i:Nat) (o:List Bool):Option ((Nat×List Bool)⊕(Unit⊕Unit)):=let y0:=nth tA.All i;let y1:=(y0.To).toNat<o.length;bif decide ((i:Int)<(tA.All.length:Int)) then G1 (i<tA.All.length)<|(abp tA y0 o).bind fun x0=>bif !x0 then some (.inr (.inl ())) else bif (y0.Op) != 10 then G1 (0<=y0.To)<|G1 y1<|G1 y1<|G2 ((i:Int)+1)<|some (.inl (i+1,o.set ((y0.To).toNat) true)) else G2 ((i:Int)+1)<|some (.inl (i+1,o)) else some (.inr (.inr ()))
theorem XP (tA:Code):∀σ:Nat×List Bool,aU Tryz.prog (nav [1,1,1,0,1,0,0] (aQ Tryz.f22)) (fun (σ:Nat×List Bool)=>XC tA σ.1 σ.2) (fun (y:Unit⊕Unit)=>aN y (fun _=>.ret) (fun _=>(.exit 0))) (fun (y:Unit⊕Unit)=>aN y (fun y=>Xv tA) (fun y=>XK tA)) σ (J9 tA σ.1 σ.2)
 | (i,o)=>let y0:=nth tA.All i;aJ 1010 (.br 100000054 (.op 60000 (.el Instr.D tA.All (.up i)) (.call [] [] (abr tA y0 o) (.yes fun _=>⟨rfl,trivial⟩) fun x0=>.br 100000061 (G3 [2] [] (.ret (.inr (.inl ())))) (.br 100000064 (.op 100006 (.el cB o .dn) (.op 100008 (.st cB o true) (G3 [1,3,51,52,53] [10,11] (.ret (.inl (i+1,o.set ((y0.To).toNat) true)))))) (G3 [1,3,51,52,53] [10,11] (.ret (.inl (i+1,o))))))) (G3 [] [] (.ret (.inr (.inr ())))))
def acn (tA:Code) (i:Nat) (o:List Bool):Option (Unit⊕Unit):=aT (fun (σ:Nat×List Bool)=>J9 tA σ.1 σ.2) FU (i,o)
def X0 (tA:Code) (i:Nat) (o:List Bool):=
 bf (XP tA) (fun y h=>by rcases y with y | y<;>cases h) FU (i,o)
def aaw (tA:Code):Option Bool:=bif decide (tA.Ins<1) then some false else bif decide (tA.Ins>40) then some false else bif decide (tA.Rows<1) then some false else bif decide (tA.Rows>40) then some false else bif tA.ak != tA.Ins then some false else bif decide (tA.aB<0) then some false else bif decide (tA.aB>100000) then some false else bif decide ((tA.All.length:Int)>100000) then some false else G1 (0<=tA.aB)<|G1 (tA.aB.toNat<=2147483648)<|(acn tA 0 (List.replicate tA.aB.toNat false)).bind fun y_=>aN y_ (fun x0=>some false) (fun x1=>some true)
theorem abm (tA:Code):∀r,aaw tA=some r->au Tryz.prog 22 0 [AG Code.D tA] [] (B r) []:=
 aA 10 (.br 10008 (.ret false) (.br 10018 (.ret false) (.br 10028 (.ret false) (.br 10038 (.ret false) (.br 10052 (.ret false) (.br 10062 (.ret false) (.br 10072 (.ret false) (.op 10076 (.ln Instr.D tA.All) (.br 100000046 (.ret false) (.op 30004 (.mk cB false .dn) (.op 40004 (.ln Instr.D tA.All) (G4 [1,3,51,52,53] [10,11] (.lp2 0 (X0 tA 0 (List.replicate tA.aB.toNat false)) (fun x0=>.ret false) (fun x1=>.ret true)))))))))))))) Tryz.func22
end Go.Ab.M
