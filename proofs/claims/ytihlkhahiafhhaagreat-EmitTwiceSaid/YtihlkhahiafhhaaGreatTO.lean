import Derived.Test.YtihlkhahiafhhaaGreatTL
namespace Go.Ab.M
open Go.Proofs
set_option linter.unusedVariables false
set_option linter.defProp false
set_option maxRecDepth 100000
structure Instr where
 Op:Int
 To:Int
 A_:Int
 B_:Int
 Num:Rat
 deriving DecidableEq,Inhabited
abbrev Instr.D (x:Instr):List D:=[.v (.int .i64 x.Op)]++[.v (.int .i64 x.To)]++[.v (.int .i64 x.A_)]++[.v (.int .i64 x.B_)]++Rat.D x.Num
structure Code where
 Ins:Int
 Rows:Int
 ay:Int
 aC:Int
 All:List Instr
 deriving DecidableEq,Inhabited
abbrev Code.D (x:Code):List D:=[.v (.int .i64 x.Ins),.v (.int .i64 x.Rows),.v (.int .i64 x.ay),.v (.int .i64 x.aC),.sl (x.All.map Instr.D)]
structure bK where
 a:Bool
 b:Bool
 power:Bool
 deriving DecidableEq,Inhabited
abbrev bK.D (x:bK):List D:=[.v (.bool x.a),.v (.bool x.b),.v (.bool x.power)]
def zL (op:Int):Option (bK×Bool):=let y0:=(bK.mk true true false,true);let y1:=(bK.mk false false false,true);let y2:=(bK.mk true false false,true);bif op==0 then some y1 else bif op==1 then some y1 else bif op==2 then some y0 else bif op==3 then some y0 else bif op==4 then some y0 else bif op==5 then some y0 else bif op==8 then some y0 else bif op==9 then some y0 else bif op==6 then some y2 else bif op==10 then some y2 else bif op==7 then some (bK.mk true false true,true) else some (bK.mk false false false,false)
theorem acv (op:Int):∀r,zL op=some r->aj Tryz.prog 109 0 [I op] [] (.tup [AG bK.D r.1,B r.2]) []:=
 let y0:=(bK.mk true true false,true);let y1:=(bK.mk false false false,true);let y2:=(bK.mk true false false,true);ak 10 (.br 100000005 (.ret y1) (.br 100000005 (.ret y1) (.br 100000009 (.ret y0) (.br 100000009 (.ret y0) (.br 100000009 (.ret y0) (.br 100000009 (.ret y0) (.br 100000009 (.ret y0) (.br 100000009 (.ret y0) (.br 100000017 (.ret y2) (.br 100000017 (.ret y2) (.br 100000021 (.ret (bK.mk true false true,true)) (.ret (bK.mk false false false,false))))))))))))) Tryz.func109
def NS (i:Instr):Option Bool:=bif i.Op != 1 then bif !i.Num.Neg then bif (i.Num.Num.length:Int)==0 then some ((i.Num.Den.length:Int)==0) else some false else some false else (uw i.Num).bind fun x0=>bif x0 then (jQ i.Num.Num).bind fun x1=>bif decide (x1<=40) then (jQ i.Num.Den).bind fun x2=>some (decide (x2<=40)) else some false else some false
theorem adU (i:Instr):∀r,NS i=some r->aj Tryz.prog 110 0 [AG Instr.D i] [] (B r) []:=
 ak 10 (.br 100000005 (.br 20010 (.op 20016 (.ln K2 i.Num.Num) (.br 20024 (.op 20030 (.ln K2 i.Num.Den) (.ret ((i.Num.Den.length:Int)==0))) (.ret false))) (.ret false)) (.call [] [] (Ec i.Num) .no fun x0=>.br 30008 (.call [] [] (yS i.Num.Num) .no fun x1=>.br 30022 (.call [] [] (yS i.Num.Den) .no fun x2=>.ret (decide (x2<=40))) (.ret false)) (.ret false))) Tryz.func110
def abr (tA:Code) (a:Instr) (a1:List Bool) (i:Bool) (o:Bool) (o1:Bool) (o2:Bool) (o3:Bool):St:=⟨85,0,[(2,SL cB a1),(3,.ptr 10 0 0),(4,.ptr 11 0 0),(7,.ptr 12 0 0),(9,I tA.aC),(29,B i)],[(10,BOX [I tA.Ins,I tA.Rows,I tA.ay,I tA.aC,SL Instr.D tA.All]),(11,BOX [I a.Op,I a.To,I a.A_,I a.B_,B o,SL K2 a.Num.Num,SL K2 a.Num.Den]),(12,BOX [B o1,B o2,B o3])]⟩
def OG (tA:Code) (a:Instr) (a1:List Bool) (i:Int) (o:Bool) (o1:Bool) (o2:Bool) (o3:Bool):St:=⟨85,0,[(2,SL cB a1),(3,.ptr 10 0 0),(4,.ptr 11 0 0),(7,.ptr 12 0 0),(9,I i)],[(10,BOX [I tA.Ins,I tA.Rows,I tA.ay,I tA.aC,SL Instr.D tA.All]),(11,BOX [I a.Op,I a.To,I a.A_,I a.B_,B o,SL K2 a.Num.Num,SL K2 a.Num.Den]),(12,BOX [B o1,B o2,B o3])]⟩
def Py (tA:Code) (a:Instr) (a1:List Bool) (i:Bool) (o:Bool) (o1:Bool) (o2:Bool) (o3:Bool):Option (Int×Bool×Bool×Bool×Bool):=bif i then G2 (tA.Rows*tA.ay)<|some (tA.Rows*tA.ay,o,o1,o2,o3) else some (tA.aC,o,o1,o2,o3)
theorem abU (tA:Code) (a:Instr) (a1:List Bool) (i:Bool) (o:Bool) (o1:Bool) (o2:Bool) (o3:Bool):∀y:Int×Bool×Bool×Bool×Bool,Py tA a a1 i o o1 o2 o3=some y->Runs Tryz.prog (nav [1,1,1,1,0,1] (aK Tryz.f64)) (abr tA a a1 i o o1 o2 o3) ((fun (_:Int×Bool×Bool×Bool×Bool)=>.normal) y) ((fun (y:Int×Bool×Bool×Bool×Bool)=>OG tA a a1 y.1 y.2.1 y.2.2.1 y.2.2.2.1 y.2.2.2.2) y):=
 Qg (eo:=fun (_:Int×Bool×Bool×Bool×Bool)=>.normal) (so:=fun (y:Int×Bool×Bool×Bool×Bool)=>OG tA a a1 y.1 y.2.1 y.2.2.1 y.2.2.2.1 y.2.2.2.2) 1010 (.br 100000029 (G3 [2,3,4,7,9] [10,11,12] (.ret (tA.Rows*tA.ay,o,o1,o2,o3))) (G3 [2,3,4,7,9] [10,11,12] (.ret (tA.aC,o,o1,o2,o3)))) (by kernel_rfl)
def sV (is:Bool) (r12:Int) (written:List Bool):Option Bool:=bif !is then some (r12==0) else bif decide (r12>=0) then bif decide (r12<(written.length:Int)) then bif decide (0<=r12) then bif decide (r12.toNat<written.length) then some (nth written r12.toNat) else none else none else some false else some false
theorem KX (is:Bool) (r12:Int) (written:List Bool):∀r,sV is r12 written=some r->aj Tryz.prog 111 0 [B is,I r12,SL cB written] [] (B r) []:=
 ak 10 (.br 100000008 (.ret (r12==0)) (.br 30006 (.op 30010 (.ln cB written) (.br 30018 (.op 30022 (.el cB written .dn) (.ret (nth written r12.toNat))) (.ret false))) (.ret false))) Tryz.func111
def XG (tA:Code) (a:Instr) (a1:List Bool) (i:Int) (i1:Bool) (i2:Bool) (o:Bool) (o1:Bool) (o2:Bool) (o3:Bool):St:=⟨85,0,[(2,SL cB a1),(3,.ptr 10 0 0),(4,.ptr 11 0 0),(7,.ptr 12 0 0),(9,I i),(10,B i1),(43,B i2)],[(10,BOX [I tA.Ins,I tA.Rows,I tA.ay,I tA.aC,SL Instr.D tA.All]),(11,BOX [I a.Op,I a.To,I a.A_,I a.B_,B o,SL K2 a.Num.Num,SL K2 a.Num.Den]),(12,BOX [B o1,B o2,B o3])]⟩
def JX (tA:Code) (a:Instr) (a1:List Bool) (i:Int) (i1:Bool) (o:Bool) (o1:Bool) (o2:Bool) (o3:Bool):St:=⟨85,0,[(2,SL cB a1),(4,.ptr 11 0 0),(7,.ptr 12 0 0),(9,I i),(10,B i1)],[(11,BOX [I a.Op,I a.To,I a.A_,I a.B_,B o,SL K2 a.Num.Num,SL K2 a.Num.Den]),(12,BOX [B o1,B o2,B o3])]⟩
def JC (tA:Code) (a:Instr) (a1:List Bool) (i:Int) (i1:Bool) (i2:Bool) (o:Bool) (o1:Bool) (o2:Bool) (o3:Bool):Option (Int×Bool×Bool×Bool×Bool×Bool):=bif i2 then bif decide (a.A_>=0) then some (i,decide (a.A_<tA.Ins),o,o1,o2,o3) else some (i,false,o,o1,o2,o3) else some (i,i1,o,o1,o2,o3)
theorem WW (tA:Code) (a:Instr) (a1:List Bool) (i:Int) (i1:Bool) (i2:Bool) (o:Bool) (o1:Bool) (o2:Bool) (o3:Bool):∀y:Int×Bool×Bool×Bool×Bool×Bool,JC tA a a1 i i1 i2 o o1 o2 o3=some y->Runs Tryz.prog (nav [1,1,1,1,1,1,0,1] (aK Tryz.f64)) (XG tA a a1 i i1 i2 o o1 o2 o3) ((fun (_:Int×Bool×Bool×Bool×Bool×Bool)=>.normal) y) ((fun (y:Int×Bool×Bool×Bool×Bool×Bool)=>JX tA a a1 y.1 y.2.1 y.2.2.1 y.2.2.2.1 y.2.2.2.2.1 y.2.2.2.2.2) y):=
 Qg (eo:=fun (_:Int×Bool×Bool×Bool×Bool×Bool)=>.normal) (so:=fun (y:Int×Bool×Bool×Bool×Bool×Bool)=>JX tA a a1 y.1 y.2.1 y.2.2.1 y.2.2.2.1 y.2.2.2.2.1 y.2.2.2.2.2) 1010 (.br 100000043 (.br 90008 (G3 [2,4,7,9,10] [11,12] (.ret (i,decide (a.A_<tA.Ins),o,o1,o2,o3))) (G3 [2,4,7,9,10] [11,12] (.ret (i,false,o,o1,o2,o3)))) (G3 [2,4,7,9,10] [11,12] (.ret (i,i1,o,o1,o2,o3)))) (by kernel_rfl)
def Xe (a:Instr) (i:Int) (i1:Bool) (i2:Bool) (i3:Bool) (o:Bool):St:=⟨85,0,[(4,.ptr 11 0 0),(9,I i),(10,B i1),(11,B i2),(61,B i3)],[(11,BOX [I a.Op,I a.To,I a.A_,I a.B_,B o,SL K2 a.Num.Num,SL K2 a.Num.Den])]⟩
def JW (a:Instr) (i:Int) (i1:Bool) (i2:Bool) (o:Bool):St:=⟨85,0,[(4,.ptr 11 0 0),(9,I i),(10,B i1),(11,B i2)],[(11,BOX [I a.Op,I a.To,I a.A_,I a.B_,B o,SL K2 a.Num.Num,SL K2 a.Num.Den])]⟩
def Jk (a:Instr) (i:Int) (i1:Bool) (i2:Bool) (i3:Bool) (o:Bool):Option (Int×Bool×Bool×Bool):=bif i3 then bif decide (a.B_>=(-21)) then some (i,i1,decide (a.B_<=21),o) else some (i,i1,false,o) else some (i,i1,i2,o)
theorem XB (a:Instr) (i:Int) (i1:Bool) (i2:Bool) (i3:Bool) (o:Bool):∀y:Int×Bool×Bool×Bool,Jk a i i1 i2 i3 o=some y->Runs Tryz.prog (nav [1,1,1,1,1,1,1,1,0,1] (aK Tryz.f64)) (Xe a i i1 i2 i3 o) ((fun (_:Int×Bool×Bool×Bool)=>.normal) y) ((fun (y:Int×Bool×Bool×Bool)=>JW a y.1 y.2.1 y.2.2.1 y.2.2.2) y):=
 Qg (eo:=fun (_:Int×Bool×Bool×Bool)=>.normal) (so:=fun (y:Int×Bool×Bool×Bool)=>JW a y.1 y.2.1 y.2.2.1 y.2.2.2) 1010 (.br 100000061 (.br 120008 (G3 [4,9,10,11] [11] (.ret (i,i1,decide (a.B_<=21),o))) (G3 [4,9,10,11] [11] (.ret (i,i1,false,o)))) (G3 [4,9,10,11] [11] (.ret (i,i1,i2,o)))) (by kernel_rfl)
def Rf (tA:Code) (a:Instr) (a1:List Bool):Option Bool:=(zL a.Op).bind fun x0=>bif !x0.2 then some false else (NS a).bind fun x1=>bif !x1 then some false else (Py tA a a1 (a.Op==10) a.Num.Neg x0.1.a x0.1.b x0.1.power).bind fun x2=>(sV x2.2.2.1 a.A_ a1).bind fun x3=>(JC tA a a1 x2.1 x3 (a.Op==0) x2.2.1 x2.2.2.1 x2.2.2.2.1 x2.2.2.2.2).bind fun x4=>(sV x4.2.2.2.2.1 a.B_ a1).bind fun x5=>(Jk a x4.1 x4.2.1 x5 x4.2.2.2.2.2 x4.2.2.1).bind fun x6=>bif x6.2.1 then bif x6.2.2.1 then bif decide (a.To>=0) then some (decide (a.To<x6.1)) else some false else some false else some false
theorem afU (tA:Code) (a:Instr) (a1:List Bool):∀r,Rf tA a a1=some r->aj Tryz.prog 64 0 [AG Code.D tA,AG Instr.D a,SL cB a1] [] (B r) []:=
 ak 10 (.call [] [] (acv a.Op) .no fun x0=>.br 20006 (.ret false) (.call [] [] (adU a) .no fun x1=>.br 100000024 (.ret false) (.ps 10 [.k [2,3,4,7,9,29] [10,11,12]] (.lp1 300000029 (abU tA a a1 (a.Op==10) a.Num.Neg x0.1.a x0.1.b x0.1.power) fun x2=>.call [] [] (KX x2.2.2.1 a.A_ a1) .no fun x3=>.ps 16 [.k [2,3,4,7,9,10,43] [10,11,12]] (.lp1 300000043 (WW tA a a1 x2.1 x3 (a.Op==0) x2.2.1 x2.2.2.1 x2.2.2.2.1 x2.2.2.2.2) fun x4=>.call [] [] (KX x4.2.2.2.2.1 a.B_ a1) .no fun x5=>.ps 22 [.k [4,9,10,11,61] [11]] (.lp1 300000061 (XB a x4.1 x4.2.1 x5 x4.2.2.2.2.2 x4.2.2.1) fun x6=>.br 130004 (.br 130010 (.br 130020 (.ret (decide (a.To<x6.1))) (.ret false)) (.ret false)) (.ret false))))))) Tryz.func64
def abz (tA:Code) (i:Nat) (o:List Bool):St:=⟨70,0,[(1,.ptr 10 0 0),(3,.msl 11 0 none (some tA.aC.toNat)),(51,SL Instr.D tA.All),(52,I (tA.All.length:Int)),(53,I (i:Int))],[(10,BOX [I tA.Ins,I tA.Rows,I tA.ay,I tA.aC,SL Instr.D tA.All]),(11,ROW 1 cB o 0)]⟩
def acG (tA:Code):St:=⟨70,0,[(2,B false)],[]⟩
def aci (tA:Code):St:=⟨70,0,[],[]⟩
def og (tA:Code) (i:Nat) (o:List Bool):Option ((Nat×List Bool)⊕(Unit⊕Unit)):=let y0:=nth tA.All i;let y1:=(y0.To).toNat<o.length;bif decide ((i:Int)<(tA.All.length:Int)) then G1 (i<tA.All.length)<|(Rf tA y0 o).bind fun x0=>bif !x0 then some (.inr (.inl ())) else bif (y0.Op) != 10 then G1 (0<=y0.To)<|G1 y1<|G1 y1<|G2 ((i:Int)+1)<|some (.inl (i+1,o.set ((y0.To).toNat) true)) else G2 ((i:Int)+1)<|some (.inl (i+1,o)) else some (.inr (.inr ()))
theorem abK (tA:Code):∀σ:Nat×List Bool,aO Tryz.prog (nav [1,1,1,0,1,0,0] (aK Tryz.f30)) (fun (σ:Nat×List Bool)=>abz tA σ.1 σ.2) (fun (y:Unit⊕Unit)=>bF y (fun _=>.ret) (fun _=>(.exit 0))) (fun (y:Unit⊕Unit)=>bF y (fun y=>acG tA) (fun y=>aci tA)) σ (og tA σ.1 σ.2)
 | (i,o)=>let y0:=nth tA.All i;aI 1010 (.br 100000054 (.op 60000 (.el Instr.D tA.All (.up i)) (.call [] [] (afU tA y0 o) (.yes fun _=>⟨rfl,trivial⟩) fun x0=>.br 100000061 (G3 [2] [] (.ret (.inr (.inl ())))) (.br 100000064 (.op 100006 (.el cB o .dn) (.op 100008 (.st cB o true) (G3 [1,3,51,52,53] [10,11] (.ret (.inl (i+1,o.set ((y0.To).toNat) true)))))) (G3 [1,3,51,52,53] [10,11] (.ret (.inl (i+1,o))))))) (G3 [] [] (.ret (.inr (.inr ())))))
def Zb (tA:Code) (i:Nat) (o:List Bool):Option (Unit⊕Unit):=aQ (fun (σ:Nat×List Bool)=>og tA σ.1 σ.2) FU (i,o)
def abV (tA:Code) (i:Nat) (o:List Bool):=
 aX (abK tA) (fun y h=>by rcases y with y | y<;>cases h) FU (i,o)
def TN (tA:Code):Option Bool:=bif decide (tA.Ins<1) then some false else bif decide (tA.Ins>40) then some false else bif decide (tA.Rows<1) then some false else bif decide (tA.Rows>40) then some false else bif tA.ay != tA.Ins then some false else bif decide (tA.aC<0) then some false else bif decide (tA.aC>100000) then some false else bif decide ((tA.All.length:Int)>100000) then some false else bif decide (0<=tA.aC) then bif decide (tA.aC.toNat<=2147483648) then (Zb tA 0 (List.replicate tA.aC.toNat false)).bind fun y_=>bF y_ (fun x0=>some false) (fun x1=>some true) else none else none
theorem afl (tA:Code):∀r,TN tA=some r->aj Tryz.prog 30 0 [AG Code.D tA] [] (B r) []:=
 ak 10 (.br 10008 (.ret false) (.br 10018 (.ret false) (.br 10028 (.ret false) (.br 10038 (.ret false) (.br 10052 (.ret false) (.br 10062 (.ret false) (.br 10072 (.ret false) (.op 10076 (.ln Instr.D tA.All) (.br 100000046 (.ret false) (.op 30004 (.mk cB false .dn) (.op 40004 (.ln Instr.D tA.All) (G4 [1,3,51,52,53] [10,11] (.lp2 0 (abV tA 0 (List.replicate tA.aC.toNat false)) (fun x0=>.ret false) (fun x1=>.ret true)))))))))))))) Tryz.func30
def XI (tA:Code) (a:Code) (i:Nat):St:=⟨96,0,[(2,.ptr 10 0 0),(3,.ptr 11 0 0),(5,I (i:Int))],[(10,BOX [I tA.Ins,I tA.Rows,I tA.ay,I tA.aC,SL Instr.D tA.All]),(11,BOX [I a.Ins,I a.Rows,I a.ay,I a.aC,SL Instr.D a.All])]⟩
def Ya (tA:Code) (a:Code):St:=⟨96,0,[(4,B false)],[]⟩
def XZ (tA:Code) (a:Code):St:=⟨96,0,[],[]⟩
def qO (tA:Code) (a:Code) (i:Nat):Option (Nat⊕(Unit⊕Unit)):=let y0:=nth tA.All i;let y1:=nth a.All i;bif decide ((i:Int)<(tA.All.length:Int)) then G1 (i<tA.All.length)<|G1 (i<a.All.length)<|(sW (y0.Num) (y1.Num)).bind fun x0=>bif !x0 then some (.inr (.inl ())) else bif (y0.Op) != (y1.Op) then some (.inr (.inl ())) else bif (y0.To) != (y1.To) then some (.inr (.inl ())) else bif (y0.A_) != (y1.A_) then some (.inr (.inl ())) else bif (y0.B_) != (y1.B_) then some (.inr (.inl ())) else G2 ((i:Int)+1)<|some (.inl (i+1)) else some (.inr (.inr ()))
theorem XL (tA:Code) (a:Code):∀σ:Nat,aO Tryz.prog (nav [1,1,0,1,0,0] (aK Tryz.f10)) (fun (σ:Nat)=>XI tA a σ) (fun (y:Unit⊕Unit)=>bF y (fun _=>.ret) (fun _=>(.exit 0))) (fun (y:Unit⊕Unit)=>bF y (fun y=>Ya tA a) (fun y=>XZ tA a)) σ (qO tA a σ)
 | i=>let y0:=G3 [4] [] (.ret (.inr (.inl ())));aI 1010 (.op 40006 (.ln Instr.D tA.All) (.br 100000048 (.op 60006 (.el Instr.D tA.All (.up i)) (.op 70006 (.el Instr.D a.All (.up i)) (.call [] [] (zk ((nth tA.All i).Num) ((nth a.All i).Num)) .no fun x0=>.br 90006 y0 (.br 90020 y0 (.br 90034 y0 (.br 90048 y0 (.br 100000095 y0 (G3 [2,3,5] [10,11] (.ret (.inl (i+1))))))))))) (G3 [] [] (.ret (.inr (.inr ()))))))
def IE (tA:Code) (a:Code) (i:Nat):Option (Unit⊕Unit):=aQ (fun (σ:Nat)=>qO tA a σ) FU i
def Xk (tA:Code) (a:Code) (i:Nat):=
 aX (XL tA a) (fun y h=>by rcases y with y | y<;>cases h) FU i
def Iu (tA:Code) (a:Code):Option Bool:=bif tA.Ins != a.Ins then some false else bif tA.Rows != a.Rows then some false else bif tA.ay != a.ay then some false else bif tA.aC != a.aC then some false else bif (tA.All.length:Int) != (a.All.length:Int) then some false else (IE tA a 0).bind fun y_=>bF y_ (fun x0=>some false) (fun x1=>some true)
theorem abA (tA:Code) (a:Code):∀r,Iu tA a=some r->aj Tryz.prog 10 0 [AG Code.D tA,AG Code.D a] [] (B r) []:=
 ak 10 (.br 10012 (.ret false) (.br 10026 (.ret false) (.br 10040 (.ret false) (.br 10054 (.ret false) (.op 10058 (.ln Instr.D tA.All) (.op 10064 (.ln Instr.D a.All) (.br 100000043 (.ret false) (G4 [2,3,5] [10,11] (.lp2 0 (Xk tA a 0) (fun x0=>.ret false) (fun x1=>.ret true)))))))))) Tryz.func10
end Go.Ab.M
