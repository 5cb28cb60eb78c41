import Derived.Test.YtpefcgiiigdcdaaGreatTW
import Derived.Test.YtpefcgiiigdcdaaGreatCX
namespace Go.Ab.M
open Go.Proofs
set_option linter.unusedVariables false
set_option maxRecDepth 100000
structure bD where
 o:TOp
 a:Rat
 b:Rat
 deriving DecidableEq,Inhabited
abbrev bD.D (x:bD):List D:=TOp.D x.o++Rat.D x.a++Rat.D x.b
structure aX where
 a:Rat
 b:Rat
 deriving DecidableEq,Inhabited
abbrev aX.D (x:aX):List D:=Rat.D x.a++Rat.D x.b
structure Jac where
 Rows:Int
 ahR:Int
 All:List Rat
 deriving DecidableEq,Inhabited
abbrev Jac.D (x:Jac):List D:=[.v (.int .i64 x.Rows),.v (.int .i64 x.ahR),.sl (x.All.map Rat.D)]
def o9 (t:Tape) (x:List Rat):Option (List Rat×Int):=
 (xQ t).bind fun x0=>
 bif !x0 then
 some ([],1)
 else
 bif ((x.length:Nat):Int) != t.Ins then
 some ([],8)
 else
 (Gp t x).bind fun x1=>
 some (x1.1,x1.2)
theorem Xl (t:Tape) (x:List Rat):∀r,o9 t x=some r→aj Tryz.prog 29 0 [AG Tape.D t,SL Rat.D x] [] (.tup [SL Rat.D r.1,I r.2]) []:=
 ak (enc:=fun r=>.tup [SL Rat.D r.1,I r.2]) (aP:=fun r=>[]) 10 (.call [] [] (MS t) .no fun x0=>.br 100000006 (.ps 1000003 [.n 4] (.ret ([],1))) (.op 30002 (.ln Rat.D x) (.br 100000010 (.ps 1000003 [.n 4] (.ret ([],8))) (.call [] [] (Y7 t x) .no fun x1=>.ret (x1.1,x1.2))))) Tryz.func29 (by kernel_rfl) (by kernel_rfl) (by kernel_rfl)
def nS:Option Rat:=
 (kC 0).bind fun x0=>
 some x0
theorem oG:∀r,nS=some r→aj Tryz.prog 232 0 [] [] (AG Rat.D r) []:=
 ak (enc:=fun r=>AG Rat.D r) (aP:=fun r=>[]) 10 (.call [] [] (jJ 0) .no fun x0=>.ret x0) Tryz.func232 (by kernel_rfl) (by kernel_rfl) (by kernel_rfl)
def rW (s:bD):Option (aX×Int):=
 (nS).bind fun x0=>
 (nS).bind fun x1=>
 some (aX.mk x0 x1,0)
theorem Hf (s:bD):∀r,rW s=some r→aj Tryz.prog 174 0 [AG bD.D s] [] (.tup [AG aX.D r.1,I r.2]) []:=
 ak (enc:=fun r=>.tup [AG aX.D r.1,I r.2]) (aP:=fun r=>[]) 10 (.call [] [] (oG) .no fun x0=>.call [] [] (oG) .no fun x1=>.ret (aX.mk x0 x1,0)) Tryz.func174 (by kernel_rfl) (by kernel_rfl) (by kernel_rfl)
def Dn (s:bD):Option (aX×Int):=
 (kC 1).bind fun x0=>
 (kC 1).bind fun x1=>
 some (aX.mk x0 x1,0)
theorem N9 (s:bD):∀r,Dn s=some r→aj Tryz.prog 175 0 [AG bD.D s] [] (.tup [AG aX.D r.1,I r.2]) []:=
 ak (enc:=fun r=>.tup [AG aX.D r.1,I r.2]) (aP:=fun r=>[]) 10 (.call [] [] (jJ 1) .no fun x0=>.call [] [] (jJ 1) .no fun x1=>.ret (aX.mk x0 x1,0)) Tryz.func175 (by kernel_rfl) (by kernel_rfl) (by kernel_rfl)
def Ee (s:bD):Option (aX×Int):=
 (kC 1).bind fun x0=>
 (kC (-1)).bind fun x1=>
 some (aX.mk x0 x1,0)
theorem PW (s:bD):∀r,Ee s=some r→aj Tryz.prog 176 0 [AG bD.D s] [] (.tup [AG aX.D r.1,I r.2]) []:=
 ak (enc:=fun r=>.tup [AG aX.D r.1,I r.2]) (aP:=fun r=>[]) 10 (.call [] [] (jJ 1) .no fun x0=>.call [] [] (jJ (-1)) .no fun x1=>.ret (aX.mk x0 x1,0)) Tryz.func176 (by kernel_rfl) (by kernel_rfl) (by kernel_rfl)
def CJ (s:bD):Option (aX×Int):=
 (qL s.b).bind fun x0=>
 (qL s.a).bind fun x1=>
 some (aX.mk x0 x1,0)
theorem OH (s:bD):∀r,CJ s=some r→aj Tryz.prog 177 0 [AG bD.D s] [] (.tup [AG aX.D r.1,I r.2]) []:=
 ak (enc:=fun r=>.tup [AG aX.D r.1,I r.2]) (aP:=fun r=>[]) 10 (.call [] [] (nV s.b) .no fun x0=>.call [] [] (nV s.a) .no fun x1=>.ret (aX.mk x0 x1,0)) Tryz.func177 (by kernel_rfl) (by kernel_rfl) (by kernel_rfl)
def pq (s:bD):Option (aX×Int):=
 (kC 1).bind fun x0=>
 (qU x0 s.b).bind fun x1=>
 bif x1.2 != 0 then
 some (aX.mk (Rat.mk false [] []) (Rat.mk false [] []),x1.2)
 else
 (qF x1.1 x1.1).bind fun x2=>
 (qF s.a x2).bind fun x3=>
 (uH x3).bind fun x4=>
 some (aX.mk x1.1 x4,0)
theorem PY (s:bD):∀r,pq s=some r→aj Tryz.prog 178 0 [AG bD.D s] [] (.tup [AG aX.D r.1,I r.2]) []:=
 ak (enc:=fun r=>.tup [AG aX.D r.1,I r.2]) (aP:=fun r=>[]) 10 (.call [] [] (jJ 1) .no fun x0=>.call [] [] (BG x0 s.b) .no fun x1=>.br 100000014 (.ps 1000003 [.b 11] (.ret (aX.mk (Rat.mk false [] []) (Rat.mk false [] []),x1.2))) (.call [] [] (vM x1.1 x1.1) .no fun x2=>.call [] [] (vM s.a x2) .no fun x3=>.call [] [] (Bf x3) .no fun x4=>.ret (aX.mk x1.1 x4,0))) Tryz.func178 (by kernel_rfl) (by kernel_rfl) (by kernel_rfl)
def Dv (s:bD):Option (aX×Int):=
 (kC (-1)).bind fun x0=>
 (nS).bind fun x1=>
 some (aX.mk x0 x1,0)
theorem OI (s:bD):∀r,Dv s=some r→aj Tryz.prog 179 0 [AG bD.D s] [] (.tup [AG aX.D r.1,I r.2]) []:=
 ak (enc:=fun r=>.tup [AG aX.D r.1,I r.2]) (aP:=fun r=>[]) 10 (.call [] [] (jJ (-1)) .no fun x0=>.call [] [] (oG) .no fun x1=>.ret (aX.mk x0 x1,0)) Tryz.func179 (by kernel_rfl) (by kernel_rfl) (by kernel_rfl)
def uU (s:bD):Option (aX×Int):=
 bif decide (s.o.Exp<(-20)) then
 some (aX.mk (Rat.mk false [] []) (Rat.mk false [] []),4)
 else
 bif decide (s.o.Exp>20) then
 some (aX.mk (Rat.mk false [] []) (Rat.mk false [] []),4)
 else
 bif s.o.Exp==0 then
 (nS).bind fun x0=>
 (nS).bind fun x1=>
 some (aX.mk x0 x1,0)
 else
 bif inK .i64 (s.o.Exp-1) then
 (jP s.a (s.o.Exp-1)).bind fun x0=>
 bif x0.2 != 0 then
 some (aX.mk (Rat.mk false [] []) (Rat.mk false [] []),x0.2)
 else
 (kC s.o.Exp).bind fun x1=>
 (qF x1 x0.1).bind fun x2=>
 (nS).bind fun x3=>
 some (aX.mk x2 x3,0)
 else none
theorem OM (s:bD):∀r,uU s=some r→aj Tryz.prog 180 0 [AG bD.D s] [] (.tup [AG aX.D r.1,I r.2]) []:=
 ak (enc:=fun r=>.tup [AG aX.D r.1,I r.2]) (aP:=fun r=>[]) 10 (.br 20006 (.ps 1000003 [.b 11] (.ret (aX.mk (Rat.mk false [] []) (Rat.mk false [] []),4))) (.br 100000010 (.ps 1000003 [.b 11] (.ret (aX.mk (Rat.mk false [] []) (Rat.mk false [] []),4))) (.br 100000018 (.call [] [] (oG) .no fun x0=>.call [] [] (oG) .no fun x1=>.ret (aX.mk x0 x1,0)) (.call [] [] (BO s.a (s.o.Exp-1)) .no fun x0=>.br 100000033 (.ps 1000003 [.b 11] (.ret (aX.mk (Rat.mk false [] []) (Rat.mk false [] []),x0.2))) (.call [] [] (jJ s.o.Exp) .no fun x1=>.call [] [] (vM x1 x0.1) .no fun x2=>.call [] [] (oG) .no fun x3=>.ret (aX.mk x2 x3,0)))))) Tryz.func180 (by kernel_rfl) (by kernel_rfl) (by kernel_rfl)
def jB (s:bD):Option (aX×Int):=
 bif decide (s.o.Code<1) then
 bif decide (s.o.Code=1) then
 some (aX.mk (Rat.mk false [] []) (Rat.mk false [] []),1)
 else
 bif decide (s.o.Code=2) then
 some (aX.mk (Rat.mk false [] []) (Rat.mk false [] []),1)
 else
 bif decide (s.o.Code=3) then
 some (aX.mk (Rat.mk false [] []) (Rat.mk false [] []),1)
 else
 bif decide (s.o.Code=4) then
 some (aX.mk (Rat.mk false [] []) (Rat.mk false [] []),1)
 else
 bif decide (s.o.Code=5) then
 some (aX.mk (Rat.mk false [] []) (Rat.mk false [] []),1)
 else
 bif decide (s.o.Code=6) then
 some (aX.mk (Rat.mk false [] []) (Rat.mk false [] []),1)
 else
 bif decide (s.o.Code=7) then
 some (aX.mk (Rat.mk false [] []) (Rat.mk false [] []),1)
 else
 some (aX.mk (Rat.mk false [] []) (Rat.mk false [] []),1)
 else
 bif decide (s.o.Code=1) then
 bif decide (s.o.Code>7) then
 some (aX.mk (Rat.mk false [] []) (Rat.mk false [] []),1)
 else
 (rW (bD.mk (TOp.mk 1 s.o.A_ s.o.B_ s.o.Exp s.o.Num) s.a s.b)).bind fun x0=>
 some (x0.1,x0.2)
 else
 bif decide (s.o.Code=2) then
 bif decide (s.o.Code>7) then
 some (aX.mk (Rat.mk false [] []) (Rat.mk false [] []),1)
 else
 (Dn (bD.mk (TOp.mk 2 s.o.A_ s.o.B_ s.o.Exp s.o.Num) s.a s.b)).bind fun x0=>
 some (x0.1,x0.2)
 else
 bif decide (s.o.Code=3) then
 bif decide (s.o.Code>7) then
 some (aX.mk (Rat.mk false [] []) (Rat.mk false [] []),1)
 else
 (Ee (bD.mk (TOp.mk 3 s.o.A_ s.o.B_ s.o.Exp s.o.Num) s.a s.b)).bind fun x0=>
 some (x0.1,x0.2)
 else
 bif decide (s.o.Code=4) then
 bif decide (s.o.Code>7) then
 some (aX.mk (Rat.mk false [] []) (Rat.mk false [] []),1)
 else
 (CJ (bD.mk (TOp.mk 4 s.o.A_ s.o.B_ s.o.Exp s.o.Num) s.a s.b)).bind fun x0=>
 some (x0.1,x0.2)
 else
 bif decide (s.o.Code=5) then
 bif decide (s.o.Code>7) then
 some (aX.mk (Rat.mk false [] []) (Rat.mk false [] []),1)
 else
 (pq (bD.mk (TOp.mk 5 s.o.A_ s.o.B_ s.o.Exp s.o.Num) s.a s.b)).bind fun x0=>
 some (x0.1,x0.2)
 else
 bif decide (s.o.Code=6) then
 bif decide (s.o.Code>7) then
 some (aX.mk (Rat.mk false [] []) (Rat.mk false [] []),1)
 else
 (Dv (bD.mk (TOp.mk 6 s.o.A_ s.o.B_ s.o.Exp s.o.Num) s.a s.b)).bind fun x0=>
 some (x0.1,x0.2)
 else
 bif decide (s.o.Code=7) then
 bif decide (s.o.Code>7) then
 some (aX.mk (Rat.mk false [] []) (Rat.mk false [] []),1)
 else
 (uU (bD.mk (TOp.mk 7 s.o.A_ s.o.B_ s.o.Exp s.o.Num) s.a s.b)).bind fun x0=>
 some (x0.1,x0.2)
 else
 bif decide (s.o.Code>7) then
 some (aX.mk (Rat.mk false [] []) (Rat.mk false [] []),1)
 else
 none
theorem Ht (s:bD):∀r,jB s=some r→aj Tryz.prog 125 0 [AG bD.D s] [] (.tup [AG aX.D r.1,I r.2]) []:=
 ak (enc:=fun r=>.tup [AG aX.D r.1,I r.2]) (aP:=fun r=>[]) 10 (.br 20010 (.eqb 4 10 0 .i64 s.o.Code 1 (.ps 1000003 [.b 11] (.ret (aX.mk (Rat.mk false [] []) (Rat.mk false [] []),1))) (.eqb 4 10 0 .i64 s.o.Code 2 (.ps 1000003 [.b 11] (.ret (aX.mk (Rat.mk false [] []) (Rat.mk false [] []),1))) (.eqb 4 10 0 .i64 s.o.Code 3 (.ps 1000003 [.b 11] (.ret (aX.mk (Rat.mk false [] []) (Rat.mk false [] []),1))) (.eqb 4 10 0 .i64 s.o.Code 4 (.ps 1000003 [.b 11] (.ret (aX.mk (Rat.mk false [] []) (Rat.mk false [] []),1))) (.eqb 4 10 0 .i64 s.o.Code 5 (.ps 1000003 [.b 11] (.ret (aX.mk (Rat.mk false [] []) (Rat.mk false [] []),1))) (.eqb 4 10 0 .i64 s.o.Code 6 (.ps 1000003 [.b 11] (.ret (aX.mk (Rat.mk false [] []) (Rat.mk false [] []),1))) (.eqb 4 10 0 .i64 s.o.Code 7 (.ps 1000003 [.b 11] (.ret (aX.mk (Rat.mk false [] []) (Rat.mk false [] []),1))) (.ps 1000003 [.b 11] (.ret (aX.mk (Rat.mk false [] []) (Rat.mk false [] []),1)))))))))) (.eqb 4 10 0 .i64 s.o.Code 1 (.br 100000015 (.ps 1000003 [.b 11] (.ret (aX.mk (Rat.mk false [] []) (Rat.mk false [] []),1))) (.op 40006 (.ix (.up 1)) (.call [] [] (Hf (bD.mk (TOp.mk 1 s.o.A_ s.o.B_ s.o.Exp s.o.Num) s.a s.b)) .no fun x0=>.ret (x0.1,x0.2)))) (.eqb 4 10 0 .i64 s.o.Code 2 (.br 100000015 (.ps 1000003 [.b 11] (.ret (aX.mk (Rat.mk false [] []) (Rat.mk false [] []),1))) (.op 40006 (.ix (.up 2)) (.call [] [] (N9 (bD.mk (TOp.mk 2 s.o.A_ s.o.B_ s.o.Exp s.o.Num) s.a s.b)) .no fun x0=>.ret (x0.1,x0.2)))) (.eqb 4 10 0 .i64 s.o.Code 3 (.br 100000015 (.ps 1000003 [.b 11] (.ret (aX.mk (Rat.mk false [] []) (Rat.mk false [] []),1))) (.op 40006 (.ix (.up 3)) (.call [] [] (PW (bD.mk (TOp.mk 3 s.o.A_ s.o.B_ s.o.Exp s.o.Num) s.a s.b)) .no fun x0=>.ret (x0.1,x0.2)))) (.eqb 4 10 0 .i64 s.o.Code 4 (.br 100000015 (.ps 1000003 [.b 11] (.ret (aX.mk (Rat.mk false [] []) (Rat.mk false [] []),1))) (.op 40006 (.ix (.up 4)) (.call [] [] (OH (bD.mk (TOp.mk 4 s.o.A_ s.o.B_ s.o.Exp s.o.Num) s.a s.b)) .no fun x0=>.ret (x0.1,x0.2)))) (.eqb 4 10 0 .i64 s.o.Code 5 (.br 100000015 (.ps 1000003 [.b 11] (.ret (aX.mk (Rat.mk false [] []) (Rat.mk false [] []),1))) (.op 40006 (.ix (.up 5)) (.call [] [] (PY (bD.mk (TOp.mk 5 s.o.A_ s.o.B_ s.o.Exp s.o.Num) s.a s.b)) .no fun x0=>.ret (x0.1,x0.2)))) (.eqb 4 10 0 .i64 s.o.Code 6 (.br 100000015 (.ps 1000003 [.b 11] (.ret (aX.mk (Rat.mk false [] []) (Rat.mk false [] []),1))) (.op 40006 (.ix (.up 6)) (.call [] [] (OI (bD.mk (TOp.mk 6 s.o.A_ s.o.B_ s.o.Exp s.o.Num) s.a s.b)) .no fun x0=>.ret (x0.1,x0.2)))) (.eqb 4 10 0 .i64 s.o.Code 7 (.br 100000015 (.ps 1000003 [.b 11] (.ret (aX.mk (Rat.mk false [] []) (Rat.mk false [] []),1))) (.op 40006 (.ix (.up 7)) (.call [] [] (OM (bD.mk (TOp.mk 7 s.o.A_ s.o.B_ s.o.Exp s.o.Num) s.a s.b)) .no fun x0=>.ret (x0.1,x0.2)))) (.br 100000015 (.ps 1000003 [.b 11] (.ret (aX.mk (Rat.mk false [] []) (Rat.mk false [] []),1))) .nil))))))))) Tryz.func125 (by kernel_rfl) (by kernel_rfl) (by kernel_rfl)
def JU (o:TOp) (a:Rat) (b:Rat):Option (Rat×Rat×Int):=
 (jB (bD.mk o a b)).bind fun x0=>
 some (x0.1.a,x0.1.b,x0.2)
def Ji (o:TOp) (v:List Rat):Option aX:=
 bif decide (0≤o.A_) then
 bif decide (o.A_.toNat<v.length) then
 bif decide (0≤o.B_) then
 bif decide (o.B_.toNat<v.length) then
 (jB (bD.mk o (nth v o.A_.toNat) (nth v o.B_.toNat))).bind fun x0=>
 some x0.1
 else none
 else none
 else none
 else none
theorem SB (o:TOp) (v:List Rat):∀r,Ji o v=some r→aj Tryz.prog 80 0 [AG TOp.D o,SL Rat.D v] [] (AG aX.D r) []:=
 ak (enc:=fun r=>AG aX.D r) (aP:=fun r=>[]) 10 (.op 10008 (.el Rat.D v .dn) (.op 10018 (.el Rat.D v .dn) (.call [] [] (Ht (bD.mk o (nth v o.A_.toNat) (nth v o.B_.toNat))) .no fun x0=>.ret x0.1))) Tryz.func80 (by kernel_rfl) (by kernel_rfl) (by kernel_rfl)
def jL (o:TOp) (p:aX) (place:Int):Option (Unit⊕List Edge):=
 bif o.Code==1 then
 some (.inl ())
 else
 bif o.Code==6 then
 some (.inr [Edge.mk o.A_ place p.a])
 else
 bif o.Code==7 then
 some (.inr [Edge.mk o.A_ place p.a])
 else
 bif o.A_==o.B_ then
 (uj p.a p.b).bind fun x0=>
 some (.inr [Edge.mk o.A_ place x0])
 else
 some (.inr [Edge.mk o.A_ place p.a,Edge.mk o.B_ place p.b])
theorem F6 (o:TOp) (p:aX) (place:Int):∀r,jL o p place=some r→aj Tryz.prog 121 0 [AG TOp.D o,AG aX.D p,I place] [] (adl 0 r) [(0,afV 5 Edge.D r)]:=
 ak (enc:=fun r=>adl 0 r) (aP:=fun r=>[(0,afV 5 Edge.D r)]) 10 (.br 100000007 (.ret (.inl ())) (.br 30008 (.wc 1000003 6 (.ps 1000003 [.k [6] [12],.m 12 0] (.ret (.inr [Edge.mk o.A_ place p.a])))) (.br 100000011 (.wc 1000003 6 (.ps 1000003 [.k [6] [12],.m 12 0] (.ret (.inr [Edge.mk o.A_ place p.a])))) (.br 100000027 (.call [] [] (BM p.a p.b) .no fun x0=>.wc 1000003 6 (.ps 1000003 [.k [6] [12],.m 12 0] (.ret (.inr [Edge.mk o.A_ place x0])))) (.wc 1000003 6 (.ps 1000003 [.k [6] [12],.m 12 0] (.ret (.inr [Edge.mk o.A_ place p.a,Edge.mk o.B_ place p.b])))))))) Tryz.func121 (by kernel_rfl) (by kernel_rfl) (by kernel_rfl) (fun _=>aaM _ _)
def mP (t:Tape) (x0:List Rat×Int) (out:List Edge) (i:Nat):Option ((List Edge×Nat)⊕(List Edge)):=
 bif decide (((i:Nat):Int)<((t.Ops.length:Nat):Int)) then
 bif decide (i<t.Ops.length) then
 (Ji (nth t.Ops i) x0.1).bind fun x1=>
 bif inK .i64 (t.Ins+((i:Nat):Int)) then
 (jL (nth t.Ops i) x1 (t.Ins+((i:Nat):Int))).bind fun y_=>aN y_ (fun x2=>
 bif decide (out.length+0≤2147483648) then
 bif inK .i64 (((i:Nat):Int)+1) then
 some (.inl (out++[],i+1))
 else none
 else none)
 (fun x3=>
 bif decide (out.length+x3.length≤2147483648) then
 bif inK .i64 (((i:Nat):Int)+1) then
 some (.inl (out++x3,i+1))
 else none
 else none)
 else none
 else none
 else
 some (.inr out)
def sF (t:Tape) (x0:List Rat×Int) (out:List Edge) (i:Nat):Option (List Edge):=aK (fun (σ:List Edge×Nat)=>mP t x0 σ.1 σ.2) FU (out,i)
def qy (t:Tape) (x:List Rat):Option (List Edge×Int):=
 (o9 t x).bind fun x0=>
 bif x0.2 != 0 then
 some ([],x0.2)
 else
 (sF t x0 [] 0).bind fun x1=>
 bif x1.isEmpty then
 (wV).bind fun x2=>
 some ([],0)
 else
 (qX x1).bind fun x2=>
 some (x2,0)
end Go.Ab.M
