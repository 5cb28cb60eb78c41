import Derived.Test.YtcelliafjmmldaaGreatTW
import Derived.Test.YtcelliafjmmldaaGreatCX
namespace Go.Ab.M
open Go.Proofs
set_option linter.unusedVariables false
set_option maxRecDepth 100000
structure bn where
 o:TOp
 a:Rat
 b:Rat
 deriving DecidableEq,Inhabited
abbrev bn.D (x:bn):List D:=TOp.D x.o++Rat.D x.a++Rat.D x.b
structure aX where
 a:Rat
 b:Rat
 deriving DecidableEq,Inhabited
abbrev aX.D (x:aX):List D:=Rat.D x.a++Rat.D x.b
structure Jac where
 Rows:Int
 QU:Int
 All:List Rat
 deriving DecidableEq,Inhabited
abbrev Jac.D (x:Jac):List D:=[.v (.int .i64 x.Rows),.v (.int .i64 x.QU),.sl (x.All.map Rat.D)]
def pF (t:Tape) (x:List Rat):Option (List Rat×Int):=
 (Hu t).bind fun x0=>
 bif !x0 then
 some ([],1)
 else
 bif ((x.length:Nat):Int) != t.Ins then
 some ([],8)
 else
 (Gy t x).bind fun x1=>
 some (x1.1,x1.2)
theorem XD (t:Tape) (x:List Rat):∀r,pF t x=some r→aj Tryz.prog 81 0 [AG Tape.D t,SL Rat.D x] [] (.tup [SL Rat.D r.1,I r.2]) []:=
 ak (enc:=fun r=>.tup [SL Rat.D r.1,I r.2]) (aP:=fun r=>[]) 10 (.call [] [] (XO t) .no fun x0=>.br 100000006 (.ps 1000003 [.n 4] (.ret ([],1))) (.op 30002 (.ln Rat.D x) (.br 100000010 (.ps 1000003 [.n 4] (.ret ([],8))) (.call [] [] (ZR t x) .no fun x1=>.ret (x1.1,x1.2))))) Tryz.func81 (by kernel_rfl) (by kernel_rfl) (by kernel_rfl)
def mX:Option Rat:=
 (iK 0).bind fun x0=>
 some x0
theorem ou:∀r,mX=some r→aj Tryz.prog 249 0 [] [] (AG Rat.D r) []:=
 ak (enc:=fun r=>AG Rat.D r) (aP:=fun r=>[]) 10 (.call [] [] (fQ 0) .no fun x0=>.ret x0) Tryz.func249 (by kernel_rfl) (by kernel_rfl) (by kernel_rfl)
def rG (s:bn):Option (aX×Int):=
 (mX).bind fun x0=>
 (mX).bind fun x1=>
 some (aX.mk x0 x1,0)
theorem Il (s:bn):∀r,rG s=some r→aj Tryz.prog 185 0 [AG bn.D s] [] (.tup [AG aX.D r.1,I r.2]) []:=
 ak (enc:=fun r=>.tup [AG aX.D r.1,I r.2]) (aP:=fun r=>[]) 10 (.call [] [] (ou) .no fun x0=>.call [] [] (ou) .no fun x1=>.ret (aX.mk x0 x1,0)) Tryz.func185 (by kernel_rfl) (by kernel_rfl) (by kernel_rfl)
def EL (s:bn):Option (aX×Int):=
 (iK 1).bind fun x0=>
 (iK 1).bind fun x1=>
 some (aX.mk x0 x1,0)
theorem Qk (s:bn):∀r,EL s=some r→aj Tryz.prog 186 0 [AG bn.D s] [] (.tup [AG aX.D r.1,I r.2]) []:=
 ak (enc:=fun r=>.tup [AG aX.D r.1,I r.2]) (aP:=fun r=>[]) 10 (.call [] [] (fQ 1) .no fun x0=>.call [] [] (fQ 1) .no fun x1=>.ret (aX.mk x0 x1,0)) Tryz.func186 (by kernel_rfl) (by kernel_rfl) (by kernel_rfl)
def EK (s:bn):Option (aX×Int):=
 (iK 1).bind fun x0=>
 (iK (-1)).bind fun x1=>
 some (aX.mk x0 x1,0)
theorem OW (s:bn):∀r,EK s=some r→aj Tryz.prog 187 0 [AG bn.D s] [] (.tup [AG aX.D r.1,I r.2]) []:=
 ak (enc:=fun r=>.tup [AG aX.D r.1,I r.2]) (aP:=fun r=>[]) 10 (.call [] [] (fQ 1) .no fun x0=>.call [] [] (fQ (-1)) .no fun x1=>.ret (aX.mk x0 x1,0)) Tryz.func187 (by kernel_rfl) (by kernel_rfl) (by kernel_rfl)
def EN (s:bn):Option (aX×Int):=
 (nY s.b).bind fun x0=>
 (nY s.a).bind fun x1=>
 some (aX.mk x0 x1,0)
theorem OV (s:bn):∀r,EN s=some r→aj Tryz.prog 188 0 [AG bn.D s] [] (.tup [AG aX.D r.1,I r.2]) []:=
 ak (enc:=fun r=>.tup [AG aX.D r.1,I r.2]) (aP:=fun r=>[]) 10 (.call [] [] (kL s.b) .no fun x0=>.call [] [] (kL s.a) .no fun x1=>.ret (aX.mk x0 x1,0)) Tryz.func188 (by kernel_rfl) (by kernel_rfl) (by kernel_rfl)
def pK (s:bn):Option (aX×Int):=
 (iK 1).bind fun x0=>
 (qL x0 s.b).bind fun x1=>
 bif x1.2 != 0 then
 some (aX.mk (Rat.mk false [] []) (Rat.mk false [] []),x1.2)
 else
 (nU x1.1 x1.1).bind fun x2=>
 (nU s.a x2).bind fun x3=>
 (uP x3).bind fun x4=>
 some (aX.mk x1.1 x4,0)
theorem PO (s:bn):∀r,pK s=some r→aj Tryz.prog 189 0 [AG bn.D s] [] (.tup [AG aX.D r.1,I r.2]) []:=
 ak (enc:=fun r=>.tup [AG aX.D r.1,I r.2]) (aP:=fun r=>[]) 10 (.call [] [] (fQ 1) .no fun x0=>.call [] [] (Bd x0 s.b) .no fun x1=>.br 100000014 (.ps 1000003 [.b 11] (.ret (aX.mk (Rat.mk false [] []) (Rat.mk false [] []),x1.2))) (.call [] [] (qC x1.1 x1.1) .no fun x2=>.call [] [] (qC s.a x2) .no fun x3=>.call [] [] (BQ x3) .no fun x4=>.ret (aX.mk x1.1 x4,0))) Tryz.func189 (by kernel_rfl) (by kernel_rfl) (by kernel_rfl)
def DI (s:bn):Option (aX×Int):=
 (iK (-1)).bind fun x0=>
 (mX).bind fun x1=>
 some (aX.mk x0 x1,0)
theorem Py (s:bn):∀r,DI s=some r→aj Tryz.prog 190 0 [AG bn.D s] [] (.tup [AG aX.D r.1,I r.2]) []:=
 ak (enc:=fun r=>.tup [AG aX.D r.1,I r.2]) (aP:=fun r=>[]) 10 (.call [] [] (fQ (-1)) .no fun x0=>.call [] [] (ou) .no fun x1=>.ret (aX.mk x0 x1,0)) Tryz.func190 (by kernel_rfl) (by kernel_rfl) (by kernel_rfl)
def vw (s:bn):Option (aX×Int):=
 bif decide (s.o.Exp<(-20)) then
 some (aX.mk (Rat.mk false [] []) (Rat.mk false [] []),4)
 else
 bif decide (s.o.Exp>20) then
 some (aX.mk (Rat.mk false [] []) (Rat.mk false [] []),4)
 else
 bif s.o.Exp==0 then
 (mX).bind fun x0=>
 (mX).bind fun x1=>
 some (aX.mk x0 x1,0)
 else
 bif inK .i64 (s.o.Exp-1) then
 (jA s.a (s.o.Exp-1)).bind fun x0=>
 bif x0.2 != 0 then
 some (aX.mk (Rat.mk false [] []) (Rat.mk false [] []),x0.2)
 else
 (iK s.o.Exp).bind fun x1=>
 (nU x1 x0.1).bind fun x2=>
 (mX).bind fun x3=>
 some (aX.mk x2 x3,0)
 else none
theorem OE (s:bn):∀r,vw s=some r→aj Tryz.prog 191 0 [AG bn.D s] [] (.tup [AG aX.D r.1,I r.2]) []:=
 ak (enc:=fun r=>.tup [AG aX.D r.1,I r.2]) (aP:=fun r=>[]) 10 (.br 20006 (.ps 1000003 [.b 11] (.ret (aX.mk (Rat.mk false [] []) (Rat.mk false [] []),4))) (.br 100000010 (.ps 1000003 [.b 11] (.ret (aX.mk (Rat.mk false [] []) (Rat.mk false [] []),4))) (.br 100000018 (.call [] [] (ou) .no fun x0=>.call [] [] (ou) .no fun x1=>.ret (aX.mk x0 x1,0)) (.call [] [] (BF s.a (s.o.Exp-1)) .no fun x0=>.br 100000033 (.ps 1000003 [.b 11] (.ret (aX.mk (Rat.mk false [] []) (Rat.mk false [] []),x0.2))) (.call [] [] (fQ s.o.Exp) .no fun x1=>.call [] [] (qC x1 x0.1) .no fun x2=>.call [] [] (ou) .no fun x3=>.ret (aX.mk x2 x3,0)))))) Tryz.func191 (by kernel_rfl) (by kernel_rfl) (by kernel_rfl)
def jd (s:bn):Option (aX×Int):=
 bif decide (s.o.Code<1) then
 bif decide (s.o.Code=1) then
 some (aX.mk (Rat.mk false [] []) (Rat.mk false [] []),1)
 else
 bif decide (s.o.Code=2) then
 some (aX.mk (Rat.mk false [] []) (Rat.mk false [] []),1)
 else
 bif decide (s.o.Code=3) then
 some (aX.mk (Rat.mk false [] []) (Rat.mk false [] []),1)
 else
 bif decide (s.o.Code=4) then
 some (aX.mk (Rat.mk false [] []) (Rat.mk false [] []),1)
 else
 bif decide (s.o.Code=5) then
 some (aX.mk (Rat.mk false [] []) (Rat.mk false [] []),1)
 else
 bif decide (s.o.Code=6) then
 some (aX.mk (Rat.mk false [] []) (Rat.mk false [] []),1)
 else
 bif decide (s.o.Code=7) then
 some (aX.mk (Rat.mk false [] []) (Rat.mk false [] []),1)
 else
 some (aX.mk (Rat.mk false [] []) (Rat.mk false [] []),1)
 else
 bif decide (s.o.Code=1) then
 bif decide (s.o.Code>7) then
 some (aX.mk (Rat.mk false [] []) (Rat.mk false [] []),1)
 else
 (rG (bn.mk (TOp.mk 1 s.o.A_ s.o.B_ s.o.Exp s.o.Num) s.a s.b)).bind fun x0=>
 some (x0.1,x0.2)
 else
 bif decide (s.o.Code=2) then
 bif decide (s.o.Code>7) then
 some (aX.mk (Rat.mk false [] []) (Rat.mk false [] []),1)
 else
 (EL (bn.mk (TOp.mk 2 s.o.A_ s.o.B_ s.o.Exp s.o.Num) s.a s.b)).bind fun x0=>
 some (x0.1,x0.2)
 else
 bif decide (s.o.Code=3) then
 bif decide (s.o.Code>7) then
 some (aX.mk (Rat.mk false [] []) (Rat.mk false [] []),1)
 else
 (EK (bn.mk (TOp.mk 3 s.o.A_ s.o.B_ s.o.Exp s.o.Num) s.a s.b)).bind fun x0=>
 some (x0.1,x0.2)
 else
 bif decide (s.o.Code=4) then
 bif decide (s.o.Code>7) then
 some (aX.mk (Rat.mk false [] []) (Rat.mk false [] []),1)
 else
 (EN (bn.mk (TOp.mk 4 s.o.A_ s.o.B_ s.o.Exp s.o.Num) s.a s.b)).bind fun x0=>
 some (x0.1,x0.2)
 else
 bif decide (s.o.Code=5) then
 bif decide (s.o.Code>7) then
 some (aX.mk (Rat.mk false [] []) (Rat.mk false [] []),1)
 else
 (pK (bn.mk (TOp.mk 5 s.o.A_ s.o.B_ s.o.Exp s.o.Num) s.a s.b)).bind fun x0=>
 some (x0.1,x0.2)
 else
 bif decide (s.o.Code=6) then
 bif decide (s.o.Code>7) then
 some (aX.mk (Rat.mk false [] []) (Rat.mk false [] []),1)
 else
 (DI (bn.mk (TOp.mk 6 s.o.A_ s.o.B_ s.o.Exp s.o.Num) s.a s.b)).bind fun x0=>
 some (x0.1,x0.2)
 else
 bif decide (s.o.Code=7) then
 bif decide (s.o.Code>7) then
 some (aX.mk (Rat.mk false [] []) (Rat.mk false [] []),1)
 else
 (vw (bn.mk (TOp.mk 7 s.o.A_ s.o.B_ s.o.Exp s.o.Num) s.a s.b)).bind fun x0=>
 some (x0.1,x0.2)
 else
 bif decide (s.o.Code>7) then
 some (aX.mk (Rat.mk false [] []) (Rat.mk false [] []),1)
 else
 none
theorem II (s:bn):∀r,jd s=some r→aj Tryz.prog 137 0 [AG bn.D s] [] (.tup [AG aX.D r.1,I r.2]) []:=
 ak (enc:=fun r=>.tup [AG aX.D r.1,I r.2]) (aP:=fun r=>[]) 10 (.br 20010 (.eqb 4 10 0 .i64 s.o.Code 1 (.ps 1000003 [.b 11] (.ret (aX.mk (Rat.mk false [] []) (Rat.mk false [] []),1))) (.eqb 4 10 0 .i64 s.o.Code 2 (.ps 1000003 [.b 11] (.ret (aX.mk (Rat.mk false [] []) (Rat.mk false [] []),1))) (.eqb 4 10 0 .i64 s.o.Code 3 (.ps 1000003 [.b 11] (.ret (aX.mk (Rat.mk false [] []) (Rat.mk false [] []),1))) (.eqb 4 10 0 .i64 s.o.Code 4 (.ps 1000003 [.b 11] (.ret (aX.mk (Rat.mk false [] []) (Rat.mk false [] []),1))) (.eqb 4 10 0 .i64 s.o.Code 5 (.ps 1000003 [.b 11] (.ret (aX.mk (Rat.mk false [] []) (Rat.mk false [] []),1))) (.eqb 4 10 0 .i64 s.o.Code 6 (.ps 1000003 [.b 11] (.ret (aX.mk (Rat.mk false [] []) (Rat.mk false [] []),1))) (.eqb 4 10 0 .i64 s.o.Code 7 (.ps 1000003 [.b 11] (.ret (aX.mk (Rat.mk false [] []) (Rat.mk false [] []),1))) (.ps 1000003 [.b 11] (.ret (aX.mk (Rat.mk false [] []) (Rat.mk false [] []),1)))))))))) (.eqb 4 10 0 .i64 s.o.Code 1 (.br 100000015 (.ps 1000003 [.b 11] (.ret (aX.mk (Rat.mk false [] []) (Rat.mk false [] []),1))) (.op 40006 (.ix (.up 1)) (.call [] [] (Il (bn.mk (TOp.mk 1 s.o.A_ s.o.B_ s.o.Exp s.o.Num) s.a s.b)) .no fun x0=>.ret (x0.1,x0.2)))) (.eqb 4 10 0 .i64 s.o.Code 2 (.br 100000015 (.ps 1000003 [.b 11] (.ret (aX.mk (Rat.mk false [] []) (Rat.mk false [] []),1))) (.op 40006 (.ix (.up 2)) (.call [] [] (Qk (bn.mk (TOp.mk 2 s.o.A_ s.o.B_ s.o.Exp s.o.Num) s.a s.b)) .no fun x0=>.ret (x0.1,x0.2)))) (.eqb 4 10 0 .i64 s.o.Code 3 (.br 100000015 (.ps 1000003 [.b 11] (.ret (aX.mk (Rat.mk false [] []) (Rat.mk false [] []),1))) (.op 40006 (.ix (.up 3)) (.call [] [] (OW (bn.mk (TOp.mk 3 s.o.A_ s.o.B_ s.o.Exp s.o.Num) s.a s.b)) .no fun x0=>.ret (x0.1,x0.2)))) (.eqb 4 10 0 .i64 s.o.Code 4 (.br 100000015 (.ps 1000003 [.b 11] (.ret (aX.mk (Rat.mk false [] []) (Rat.mk false [] []),1))) (.op 40006 (.ix (.up 4)) (.call [] [] (OV (bn.mk (TOp.mk 4 s.o.A_ s.o.B_ s.o.Exp s.o.Num) s.a s.b)) .no fun x0=>.ret (x0.1,x0.2)))) (.eqb 4 10 0 .i64 s.o.Code 5 (.br 100000015 (.ps 1000003 [.b 11] (.ret (aX.mk (Rat.mk false [] []) (Rat.mk false [] []),1))) (.op 40006 (.ix (.up 5)) (.call [] [] (PO (bn.mk (TOp.mk 5 s.o.A_ s.o.B_ s.o.Exp s.o.Num) s.a s.b)) .no fun x0=>.ret (x0.1,x0.2)))) (.eqb 4 10 0 .i64 s.o.Code 6 (.br 100000015 (.ps 1000003 [.b 11] (.ret (aX.mk (Rat.mk false [] []) (Rat.mk false [] []),1))) (.op 40006 (.ix (.up 6)) (.call [] [] (Py (bn.mk (TOp.mk 6 s.o.A_ s.o.B_ s.o.Exp s.o.Num) s.a s.b)) .no fun x0=>.ret (x0.1,x0.2)))) (.eqb 4 10 0 .i64 s.o.Code 7 (.br 100000015 (.ps 1000003 [.b 11] (.ret (aX.mk (Rat.mk false [] []) (Rat.mk false [] []),1))) (.op 40006 (.ix (.up 7)) (.call [] [] (OE (bn.mk (TOp.mk 7 s.o.A_ s.o.B_ s.o.Exp s.o.Num) s.a s.b)) .no fun x0=>.ret (x0.1,x0.2)))) (.br 100000015 (.ps 1000003 [.b 11] (.ret (aX.mk (Rat.mk false [] []) (Rat.mk false [] []),1))) .nil))))))))) Tryz.func137 (by kernel_rfl) (by kernel_rfl) (by kernel_rfl)
def JV (o:TOp) (a:Rat) (b:Rat):Option (Rat×Rat×Int):=
 (jd (bn.mk o a b)).bind fun x0=>
 some (x0.1.a,x0.1.b,x0.2)
def JM (o:TOp) (v:List Rat):Option aX:=
 bif decide (0≤o.A_) then
 bif decide (o.A_.toNat<v.length) then
 bif decide (0≤o.B_) then
 bif decide (o.B_.toNat<v.length) then
 (jd (bn.mk o (nth v o.A_.toNat) (nth v o.B_.toNat))).bind fun x0=>
 some x0.1
 else none
 else none
 else none
 else none
theorem SK (o:TOp) (v:List Rat):∀r,JM o v=some r→aj Tryz.prog 83 0 [AG TOp.D o,SL Rat.D v] [] (AG aX.D r) []:=
 ak (enc:=fun r=>AG aX.D r) (aP:=fun r=>[]) 10 (.op 10008 (.el Rat.D v .dn) (.op 10018 (.el Rat.D v .dn) (.call [] [] (II (bn.mk o (nth v o.A_.toNat) (nth v o.B_.toNat))) .no fun x0=>.ret x0.1))) Tryz.func83 (by kernel_rfl) (by kernel_rfl) (by kernel_rfl)
def jl (o:TOp) (p:aX) (place:Int):Option (Unit⊕List Edge):=
 bif o.Code==1 then
 some (.inl ())
 else
 bif o.Code==6 then
 some (.inr [Edge.mk o.A_ place p.a])
 else
 bif o.Code==7 then
 some (.inr [Edge.mk o.A_ place p.a])
 else
 bif o.A_==o.B_ then
 (qx p.a p.b).bind fun x0=>
 some (.inr [Edge.mk o.A_ place x0])
 else
 some (.inr [Edge.mk o.A_ place p.a,Edge.mk o.B_ place p.b])
theorem Hf (o:TOp) (p:aX) (place:Int):∀r,jl o p place=some r→aj Tryz.prog 82 0 [AG TOp.D o,AG aX.D p,I place] [] (afR 0 r) [(0,aiB 5 Edge.D r)]:=
 ak (enc:=fun r=>afR 0 r) (aP:=fun r=>[(0,aiB 5 Edge.D r)]) 10 (.br 100000007 (.ret (.inl ())) (.br 30008 (.wc 1000003 6 (.ps 1000003 [.k [6] [12],.m 12 0] (.ret (.inr [Edge.mk o.A_ place p.a])))) (.br 100000011 (.wc 1000003 6 (.ps 1000003 [.k [6] [12],.m 12 0] (.ret (.inr [Edge.mk o.A_ place p.a])))) (.br 100000027 (.call [] [] (vW p.a p.b) .no fun x0=>.wc 1000003 6 (.ps 1000003 [.k [6] [12],.m 12 0] (.ret (.inr [Edge.mk o.A_ place x0])))) (.wc 1000003 6 (.ps 1000003 [.k [6] [12],.m 12 0] (.ret (.inr [Edge.mk o.A_ place p.a,Edge.mk o.B_ place p.b])))))))) Tryz.func82 (by kernel_rfl) (by kernel_rfl) (by kernel_rfl) (fun _=>aea _ _)
def lH (t:Tape) (x0:List Rat×Int) (out:List Edge) (i:Nat):Option ((List Edge×Nat)⊕(List Edge)):=
 bif decide (((i:Nat):Int)<((t.Ops.length:Nat):Int)) then
 bif decide (i<t.Ops.length) then
 (JM (nth t.Ops i) x0.1).bind fun x1=>
 bif inK .i64 (t.Ins+((i:Nat):Int)) then
 (jl (nth t.Ops i) x1 (t.Ins+((i:Nat):Int))).bind fun y_=>aH y_ (fun x2=>
 bif decide (out.length+0≤2147483648) then
 bif inK .i64 (((i:Nat):Int)+1) then
 some (.inl (out++[],i+1))
 else none
 else none)
 (fun x3=>
 bif decide (out.length+x3.length≤2147483648) then
 bif inK .i64 (((i:Nat):Int)+1) then
 some (.inl (out++x3,i+1))
 else none
 else none)
 else none
 else none
 else
 some (.inr out)
def rW (t:Tape) (x0:List Rat×Int) (out:List Edge) (i:Nat):Option (List Edge):=aK (fun (σ:List Edge×Nat)=>lH t x0 σ.1 σ.2) FU (out,i)
def qj (t:Tape) (x:List Rat):Option (List Edge×Int):=
 (pF t x).bind fun x0=>
 bif x0.2 != 0 then
 some ([],x0.2)
 else
 (rW t x0 [] 0).bind fun x1=>
 bif x1.isEmpty then
 (xw).bind fun x2=>
 some ([],0)
 else
 (nC x1).bind fun x2=>
 some (x2,0)
end Go.Ab.M
