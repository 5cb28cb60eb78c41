import Derived.Test.YtcelliafjmmldaaGreatTW
import Derived.Test.YtcelliafjmmldaaGreatCX
namespace Go.Ab.M
open Go.Proofs
set_option linter.unusedVariables false
set_option maxRecDepth 100000
structure bn where
 o:TOp
 a:Rat
 b:Rat
 deriving DecidableEq,Inhabited
abbrev bn.D (x:bn):List D:=TOp.D x.o++Rat.D x.a++Rat.D x.b
structure aX where
 a:Rat
 b:Rat
 deriving DecidableEq,Inhabited
abbrev aX.D (x:aX):List D:=Rat.D x.a++Rat.D x.b
structure Jac where
 Rows:Int
 Qv:Int
 All:List Rat
 deriving DecidableEq,Inhabited
abbrev Jac.D (x:Jac):List D:=[.v (.int .i64 x.Rows),.v (.int .i64 x.Qv),.sl (x.All.map Rat.D)]
def lY (t:Tape) (x:List Rat):Option (List Rat×Int):=
 (Hq t).bind fun x0=>
 bif !x0 then
 some ([],1)
 else
 bif ((x.length:Nat):Int) != t.Ins then
 some ([],8)
 else
 (GV t x).bind fun x1=>
 some (x1.1,x1.2)
theorem F5 (t:Tape) (x:List Rat):∀r,lY t x=some r→aj Tryz.prog 81 0 [AG Tape.D t,SL Rat.D x] [] (.tup [SL Rat.D r.1,I r.2]) []:=
 au (enc:=fun r=>.tup [SL Rat.D r.1,I r.2]) (aQ:=fun r=>[]) 10 (.call [] [] (Xk t) .no fun x0=>.br 100000006 (.ps 1000003 [.n 4] (.ret ([],1))) (.op 30002 (.ln Rat.D x) (.br 100000010 (.ps 1000003 [.n 4] (.ret ([],8))) (.call [] [] (Yr t x) .no fun x1=>.ret (x1.1,x1.2))))) Tryz.func81 (by kernel_rfl) (by kernel_rfl) (by kernel_rfl)
def oC:Option Rat:=
 (gJ 0).bind fun x0=>
 some x0
theorem oW:∀r,oC=some r→aj Tryz.prog 249 0 [] [] (AG Rat.D r) []:=
 au (enc:=fun r=>AG Rat.D r) (aQ:=fun r=>[]) 10 (.call [] [] (fE 0) .no fun x0=>.ret x0) Tryz.func249 (by kernel_rfl) (by kernel_rfl) (by kernel_rfl)
def rU (s:bn):Option (aX×Int):=
 (oC).bind fun x0=>
 (oC).bind fun x1=>
 some (aX.mk x0 x1,0)
theorem Iq (s:bn):∀r,rU s=some r→aj Tryz.prog 185 0 [AG bn.D s] [] (.tup [AG aX.D r.1,I r.2]) []:=
 au (enc:=fun r=>.tup [AG aX.D r.1,I r.2]) (aQ:=fun r=>[]) 10 (.call [] [] (oW) .no fun x0=>.call [] [] (oW) .no fun x1=>.ret (aX.mk x0 x1,0)) Tryz.func185 (by kernel_rfl) (by kernel_rfl) (by kernel_rfl)
def Ez (s:bn):Option (aX×Int):=
 (gJ 1).bind fun x0=>
 (gJ 1).bind fun x1=>
 some (aX.mk x0 x1,0)
theorem Oy (s:bn):∀r,Ez s=some r→aj Tryz.prog 186 0 [AG bn.D s] [] (.tup [AG aX.D r.1,I r.2]) []:=
 au (enc:=fun r=>.tup [AG aX.D r.1,I r.2]) (aQ:=fun r=>[]) 10 (.call [] [] (fE 1) .no fun x0=>.call [] [] (fE 1) .no fun x1=>.ret (aX.mk x0 x1,0)) Tryz.func186 (by kernel_rfl) (by kernel_rfl) (by kernel_rfl)
def DK (s:bn):Option (aX×Int):=
 (gJ 1).bind fun x0=>
 (gJ (-1)).bind fun x1=>
 some (aX.mk x0 x1,0)
theorem P8 (s:bn):∀r,DK s=some r→aj Tryz.prog 187 0 [AG bn.D s] [] (.tup [AG aX.D r.1,I r.2]) []:=
 au (enc:=fun r=>.tup [AG aX.D r.1,I r.2]) (aQ:=fun r=>[]) 10 (.call [] [] (fE 1) .no fun x0=>.call [] [] (fE (-1)) .no fun x1=>.ret (aX.mk x0 x1,0)) Tryz.func187 (by kernel_rfl) (by kernel_rfl) (by kernel_rfl)
def Dl (s:bn):Option (aX×Int):=
 (kZ s.b).bind fun x0=>
 (kZ s.a).bind fun x1=>
 some (aX.mk x0 x1,0)
theorem Ol (s:bn):∀r,Dl s=some r→aj Tryz.prog 188 0 [AG bn.D s] [] (.tup [AG aX.D r.1,I r.2]) []:=
 au (enc:=fun r=>.tup [AG aX.D r.1,I r.2]) (aQ:=fun r=>[]) 10 (.call [] [] (gW s.b) .no fun x0=>.call [] [] (gW s.a) .no fun x1=>.ret (aX.mk x0 x1,0)) Tryz.func188 (by kernel_rfl) (by kernel_rfl) (by kernel_rfl)
def qh (s:bn):Option (aX×Int):=
 (gJ 1).bind fun x0=>
 (qU x0 s.b).bind fun x1=>
 bif x1.2 != 0 then
 some (aX.mk (Rat.mk false [] []) (Rat.mk false [] []),x1.2)
 else
 (ji x1.1 x1.1).bind fun x2=>
 (ji s.a x2).bind fun x3=>
 (uQ x3).bind fun x4=>
 some (aX.mk x1.1 x4,0)
theorem O5 (s:bn):∀r,qh s=some r→aj Tryz.prog 189 0 [AG bn.D s] [] (.tup [AG aX.D r.1,I r.2]) []:=
 au (enc:=fun r=>.tup [AG aX.D r.1,I r.2]) (aQ:=fun r=>[]) 10 (.call [] [] (fE 1) .no fun x0=>.call [] [] (BL x0 s.b) .no fun x1=>.br 100000014 (.ps 1000003 [.b 11] (.ret (aX.mk (Rat.mk false [] []) (Rat.mk false [] []),x1.2))) (.call [] [] (lQ x1.1 x1.1) .no fun x2=>.call [] [] (lQ s.a x2) .no fun x3=>.call [] [] (Ba x3) .no fun x4=>.ret (aX.mk x1.1 x4,0))) Tryz.func189 (by kernel_rfl) (by kernel_rfl) (by kernel_rfl)
def Dt (s:bn):Option (aX×Int):=
 (gJ (-1)).bind fun x0=>
 (oC).bind fun x1=>
 some (aX.mk x0 x1,0)
theorem P7 (s:bn):∀r,Dt s=some r→aj Tryz.prog 190 0 [AG bn.D s] [] (.tup [AG aX.D r.1,I r.2]) []:=
 au (enc:=fun r=>.tup [AG aX.D r.1,I r.2]) (aQ:=fun r=>[]) 10 (.call [] [] (fE (-1)) .no fun x0=>.call [] [] (oW) .no fun x1=>.ret (aX.mk x0 x1,0)) Tryz.func190 (by kernel_rfl) (by kernel_rfl) (by kernel_rfl)
def vH (s:bn):Option (aX×Int):=
 bif decide (s.o.Exp<(-20)) then
 some (aX.mk (Rat.mk false [] []) (Rat.mk false [] []),4)
 else
 bif decide (s.o.Exp>20) then
 some (aX.mk (Rat.mk false [] []) (Rat.mk false [] []),4)
 else
 bif s.o.Exp==0 then
 (oC).bind fun x0=>
 (oC).bind fun x1=>
 some (aX.mk x0 x1,0)
 else
 bif inK .i64 (s.o.Exp-1) then
 (jS s.a (s.o.Exp-1)).bind fun x0=>
 bif x0.2 != 0 then
 some (aX.mk (Rat.mk false [] []) (Rat.mk false [] []),x0.2)
 else
 (gJ s.o.Exp).bind fun x1=>
 (ji x1 x0.1).bind fun x2=>
 (oC).bind fun x3=>
 some (aX.mk x2 x3,0)
 else none
theorem Oa (s:bn):∀r,vH s=some r→aj Tryz.prog 191 0 [AG bn.D s] [] (.tup [AG aX.D r.1,I r.2]) []:=
 au (enc:=fun r=>.tup [AG aX.D r.1,I r.2]) (aQ:=fun r=>[]) 10 (.br 20006 (.ps 1000003 [.b 11] (.ret (aX.mk (Rat.mk false [] []) (Rat.mk false [] []),4))) (.br 100000010 (.ps 1000003 [.b 11] (.ret (aX.mk (Rat.mk false [] []) (Rat.mk false [] []),4))) (.br 100000018 (.call [] [] (oW) .no fun x0=>.call [] [] (oW) .no fun x1=>.ret (aX.mk x0 x1,0)) (.call [] [] (AZ s.a (s.o.Exp-1)) .no fun x0=>.br 100000033 (.ps 1000003 [.b 11] (.ret (aX.mk (Rat.mk false [] []) (Rat.mk false [] []),x0.2))) (.call [] [] (fE s.o.Exp) .no fun x1=>.call [] [] (lQ x1 x0.1) .no fun x2=>.call [] [] (oW) .no fun x3=>.ret (aX.mk x2 x3,0)))))) Tryz.func191 (by kernel_rfl) (by kernel_rfl) (by kernel_rfl)
def jB (s:bn):Option (aX×Int):=
 bif decide (s.o.Code<1) then
 bif decide (s.o.Code=1) then
 some (aX.mk (Rat.mk false [] []) (Rat.mk false [] []),1)
 else
 bif decide (s.o.Code=2) then
 some (aX.mk (Rat.mk false [] []) (Rat.mk false [] []),1)
 else
 bif decide (s.o.Code=3) then
 some (aX.mk (Rat.mk false [] []) (Rat.mk false [] []),1)
 else
 bif decide (s.o.Code=4) then
 some (aX.mk (Rat.mk false [] []) (Rat.mk false [] []),1)
 else
 bif decide (s.o.Code=5) then
 some (aX.mk (Rat.mk false [] []) (Rat.mk false [] []),1)
 else
 bif decide (s.o.Code=6) then
 some (aX.mk (Rat.mk false [] []) (Rat.mk false [] []),1)
 else
 bif decide (s.o.Code=7) then
 some (aX.mk (Rat.mk false [] []) (Rat.mk false [] []),1)
 else
 some (aX.mk (Rat.mk false [] []) (Rat.mk false [] []),1)
 else
 bif decide (s.o.Code=1) then
 bif decide (s.o.Code>7) then
 some (aX.mk (Rat.mk false [] []) (Rat.mk false [] []),1)
 else
 (rU (bn.mk (TOp.mk 1 s.o.A_ s.o.B_ s.o.Exp s.o.Num) s.a s.b)).bind fun x0=>
 some (x0.1,x0.2)
 else
 bif decide (s.o.Code=2) then
 bif decide (s.o.Code>7) then
 some (aX.mk (Rat.mk false [] []) (Rat.mk false [] []),1)
 else
 (Ez (bn.mk (TOp.mk 2 s.o.A_ s.o.B_ s.o.Exp s.o.Num) s.a s.b)).bind fun x0=>
 some (x0.1,x0.2)
 else
 bif decide (s.o.Code=3) then
 bif decide (s.o.Code>7) then
 some (aX.mk (Rat.mk false [] []) (Rat.mk false [] []),1)
 else
 (DK (bn.mk (TOp.mk 3 s.o.A_ s.o.B_ s.o.Exp s.o.Num) s.a s.b)).bind fun x0=>
 some (x0.1,x0.2)
 else
 bif decide (s.o.Code=4) then
 bif decide (s.o.Code>7) then
 some (aX.mk (Rat.mk false [] []) (Rat.mk false [] []),1)
 else
 (Dl (bn.mk (TOp.mk 4 s.o.A_ s.o.B_ s.o.Exp s.o.Num) s.a s.b)).bind fun x0=>
 some (x0.1,x0.2)
 else
 bif decide (s.o.Code=5) then
 bif decide (s.o.Code>7) then
 some (aX.mk (Rat.mk false [] []) (Rat.mk false [] []),1)
 else
 (qh (bn.mk (TOp.mk 5 s.o.A_ s.o.B_ s.o.Exp s.o.Num) s.a s.b)).bind fun x0=>
 some (x0.1,x0.2)
 else
 bif decide (s.o.Code=6) then
 bif decide (s.o.Code>7) then
 some (aX.mk (Rat.mk false [] []) (Rat.mk false [] []),1)
 else
 (Dt (bn.mk (TOp.mk 6 s.o.A_ s.o.B_ s.o.Exp s.o.Num) s.a s.b)).bind fun x0=>
 some (x0.1,x0.2)
 else
 bif decide (s.o.Code=7) then
 bif decide (s.o.Code>7) then
 some (aX.mk (Rat.mk false [] []) (Rat.mk false [] []),1)
 else
 (vH (bn.mk (TOp.mk 7 s.o.A_ s.o.B_ s.o.Exp s.o.Num) s.a s.b)).bind fun x0=>
 some (x0.1,x0.2)
 else
 bif decide (s.o.Code>7) then
 some (aX.mk (Rat.mk false [] []) (Rat.mk false [] []),1)
 else
 none
theorem Ht (s:bn):∀r,jB s=some r→aj Tryz.prog 137 0 [AG bn.D s] [] (.tup [AG aX.D r.1,I r.2]) []:=
 au (enc:=fun r=>.tup [AG aX.D r.1,I r.2]) (aQ:=fun r=>[]) 10 (.br 20010 (.eqb 4 10 0 .i64 s.o.Code 1 (.ps 1000003 [.b 11] (.ret (aX.mk (Rat.mk false [] []) (Rat.mk false [] []),1))) (.eqb 4 10 0 .i64 s.o.Code 2 (.ps 1000003 [.b 11] (.ret (aX.mk (Rat.mk false [] []) (Rat.mk false [] []),1))) (.eqb 4 10 0 .i64 s.o.Code 3 (.ps 1000003 [.b 11] (.ret (aX.mk (Rat.mk false [] []) (Rat.mk false [] []),1))) (.eqb 4 10 0 .i64 s.o.Code 4 (.ps 1000003 [.b 11] (.ret (aX.mk (Rat.mk false [] []) (Rat.mk false [] []),1))) (.eqb 4 10 0 .i64 s.o.Code 5 (.ps 1000003 [.b 11] (.ret (aX.mk (Rat.mk false [] []) (Rat.mk false [] []),1))) (.eqb 4 10 0 .i64 s.o.Code 6 (.ps 1000003 [.b 11] (.ret (aX.mk (Rat.mk false [] []) (Rat.mk false [] []),1))) (.eqb 4 10 0 .i64 s.o.Code 7 (.ps 1000003 [.b 11] (.ret (aX.mk (Rat.mk false [] []) (Rat.mk false [] []),1))) (.ps 1000003 [.b 11] (.ret (aX.mk (Rat.mk false [] []) (Rat.mk false [] []),1)))))))))) (.eqb 4 10 0 .i64 s.o.Code 1 (.br 100000015 (.ps 1000003 [.b 11] (.ret (aX.mk (Rat.mk false [] []) (Rat.mk false [] []),1))) (.op 40006 (.ix (.up 1)) (.call [] [] (Iq (bn.mk (TOp.mk 1 s.o.A_ s.o.B_ s.o.Exp s.o.Num) s.a s.b)) .no fun x0=>.ret (x0.1,x0.2)))) (.eqb 4 10 0 .i64 s.o.Code 2 (.br 100000015 (.ps 1000003 [.b 11] (.ret (aX.mk (Rat.mk false [] []) (Rat.mk false [] []),1))) (.op 40006 (.ix (.up 2)) (.call [] [] (Oy (bn.mk (TOp.mk 2 s.o.A_ s.o.B_ s.o.Exp s.o.Num) s.a s.b)) .no fun x0=>.ret (x0.1,x0.2)))) (.eqb 4 10 0 .i64 s.o.Code 3 (.br 100000015 (.ps 1000003 [.b 11] (.ret (aX.mk (Rat.mk false [] []) (Rat.mk false [] []),1))) (.op 40006 (.ix (.up 3)) (.call [] [] (P8 (bn.mk (TOp.mk 3 s.o.A_ s.o.B_ s.o.Exp s.o.Num) s.a s.b)) .no fun x0=>.ret (x0.1,x0.2)))) (.eqb 4 10 0 .i64 s.o.Code 4 (.br 100000015 (.ps 1000003 [.b 11] (.ret (aX.mk (Rat.mk false [] []) (Rat.mk false [] []),1))) (.op 40006 (.ix (.up 4)) (.call [] [] (Ol (bn.mk (TOp.mk 4 s.o.A_ s.o.B_ s.o.Exp s.o.Num) s.a s.b)) .no fun x0=>.ret (x0.1,x0.2)))) (.eqb 4 10 0 .i64 s.o.Code 5 (.br 100000015 (.ps 1000003 [.b 11] (.ret (aX.mk (Rat.mk false [] []) (Rat.mk false [] []),1))) (.op 40006 (.ix (.up 5)) (.call [] [] (O5 (bn.mk (TOp.mk 5 s.o.A_ s.o.B_ s.o.Exp s.o.Num) s.a s.b)) .no fun x0=>.ret (x0.1,x0.2)))) (.eqb 4 10 0 .i64 s.o.Code 6 (.br 100000015 (.ps 1000003 [.b 11] (.ret (aX.mk (Rat.mk false [] []) (Rat.mk false [] []),1))) (.op 40006 (.ix (.up 6)) (.call [] [] (P7 (bn.mk (TOp.mk 6 s.o.A_ s.o.B_ s.o.Exp s.o.Num) s.a s.b)) .no fun x0=>.ret (x0.1,x0.2)))) (.eqb 4 10 0 .i64 s.o.Code 7 (.br 100000015 (.ps 1000003 [.b 11] (.ret (aX.mk (Rat.mk false [] []) (Rat.mk false [] []),1))) (.op 40006 (.ix (.up 7)) (.call [] [] (Oa (bn.mk (TOp.mk 7 s.o.A_ s.o.B_ s.o.Exp s.o.Num) s.a s.b)) .no fun x0=>.ret (x0.1,x0.2)))) (.br 100000015 (.ps 1000003 [.b 11] (.ret (aX.mk (Rat.mk false [] []) (Rat.mk false [] []),1))) .nil))))))))) Tryz.func137 (by kernel_rfl) (by kernel_rfl) (by kernel_rfl)
def JX (o:TOp) (a:Rat) (b:Rat):Option (Rat×Rat×Int):=
 (jB (bn.mk o a b)).bind fun x0=>
 some (x0.1.a,x0.1.b,x0.2)
def Gw (o:TOp) (v:List Rat):Option aX:=
 bif decide (0≤o.A_) then
 bif decide (o.A_.toNat<v.length) then
 bif decide (0≤o.B_) then
 bif decide (o.B_.toNat<v.length) then
 (jB (bn.mk o (nth v o.A_.toNat) (nth v o.B_.toNat))).bind fun x0=>
 some x0.1
 else none
 else none
 else none
 else none
theorem Fp (o:TOp) (v:List Rat):∀r,Gw o v=some r→aj Tryz.prog 83 0 [AG TOp.D o,SL Rat.D v] [] (AG aX.D r) []:=
 au (enc:=fun r=>AG aX.D r) (aQ:=fun r=>[]) 10 (.op 10008 (.el Rat.D v .dn) (.op 10018 (.el Rat.D v .dn) (.call [] [] (Ht (bn.mk o (nth v o.A_.toNat) (nth v o.B_.toNat))) .no fun x0=>.ret x0.1))) Tryz.func83 (by kernel_rfl) (by kernel_rfl) (by kernel_rfl)
def jH (o:TOp) (p:aX) (place:Int):Option (Unit⊕List Edge):=
 bif o.Code==1 then
 some (.inl ())
 else
 bif o.Code==6 then
 some (.inr [Edge.mk o.A_ place p.a])
 else
 bif o.Code==7 then
 some (.inr [Edge.mk o.A_ place p.a])
 else
 bif o.A_==o.B_ then
 (nM p.a p.b).bind fun x0=>
 some (.inr [Edge.mk o.A_ place x0])
 else
 some (.inr [Edge.mk o.A_ place p.a,Edge.mk o.B_ place p.b])
theorem Gq (o:TOp) (p:aX) (place:Int):∀r,jH o p place=some r→aj Tryz.prog 82 0 [AG TOp.D o,AG aX.D p,I place] [] (af0 0 r) [(0,ajg 5 Edge.D r)]:=
 au (enc:=fun r=>af0 0 r) (aQ:=fun r=>[(0,ajg 5 Edge.D r)]) 10 (.br 100000007 (.ret (.inl ())) (.br 30008 (.wc 1000003 6 (.ps 1000003 [.k [6] [12],.m 12 0] (.ret (.inr [Edge.mk o.A_ place p.a])))) (.br 100000011 (.wc 1000003 6 (.ps 1000003 [.k [6] [12],.m 12 0] (.ret (.inr [Edge.mk o.A_ place p.a])))) (.br 100000027 (.call [] [] (qN p.a p.b) .no fun x0=>.wc 1000003 6 (.ps 1000003 [.k [6] [12],.m 12 0] (.ret (.inr [Edge.mk o.A_ place x0])))) (.wc 1000003 6 (.ps 1000003 [.k [6] [12],.m 12 0] (.ret (.inr [Edge.mk o.A_ place p.a,Edge.mk o.B_ place p.b])))))))) Tryz.func82 (by kernel_rfl) (by kernel_rfl) (by kernel_rfl) (fun _=>aff _ _)
def mW (t:Tape) (x0:List Rat×Int) (out:List Edge) (i:Nat):Option ((List Edge×Nat)⊕(List Edge)):=
 bif decide (((i:Nat):Int)<((t.Ops.length:Nat):Int)) then
 bif decide (i<t.Ops.length) then
 (Gw (nth t.Ops i) x0.1).bind fun x1=>
 bif inK .i64 (t.Ins+((i:Nat):Int)) then
 (jH (nth t.Ops i) x1 (t.Ins+((i:Nat):Int))).bind fun y_=>aK y_ (fun x2=>
 bif decide (out.length+0≤2147483648) then
 bif inK .i64 (((i:Nat):Int)+1) then
 some (.inl (out++[],i+1))
 else none
 else none)
 (fun x3=>
 bif decide (out.length+x3.length≤2147483648) then
 bif inK .i64 (((i:Nat):Int)+1) then
 some (.inl (out++x3,i+1))
 else none
 else none)
 else none
 else none
 else
 some (.inr out)
def sJ (t:Tape) (x0:List Rat×Int) (out:List Edge) (i:Nat):Option (List Edge):=aI (fun (σ:List Edge×Nat)=>mW t x0 σ.1 σ.2) FU (out,i)
def fV (t:Tape) (x:List Rat):Option (List Edge×Int):=
 (lY t x).bind fun x0=>
 bif x0.2 != 0 then
 some ([],x0.2)
 else
 (sJ t x0 [] 0).bind fun x1=>
 bif x1.isEmpty then
 (xg).bind fun x2=>
 some ([],0)
 else
 (lX x1).bind fun x2=>
 some (x2,0)
def xk (tA:Tape) (a1:List Rat) (x0:List Rat×Int) (i:List Rat) (i1:Nat):St:=⟨74,0,[(3,.ptr 10 0 0),(8,SL Rat.D x0.1),(10,dw 100023 i),(30,SL Rat.D a1),(31,I ((a1.length:Nat):Int)),(32,I ((i1:Nat):Int))],[(10,BOX [I tA.Ins,SL TOp.D tA.Ops,SL (cI .i64) tA.aB]),(100023,dO 3 Rat.D i)]⟩
def yF (tA:Tape) (a1:List Rat) (x0:List Rat×Int) (i:List Rat):St:=⟨74,0,[(3,.ptr 10 0 0),(8,SL Rat.D x0.1),(10,dw 100023 i)],[(10,BOX [I tA.Ins,SL TOp.D tA.Ops,SL (cI .i64) tA.aB]),(100023,dO 3 Rat.D i)]⟩
def mF (tA:Tape) (a1:List Rat) (x0:List Rat×Int) (i:List Rat) (i1:Nat):Option ((List Rat×Nat)⊕(List Rat)):=
 bif decide (((i1:Nat):Int)<((a1.length:Nat):Int)) then
 bif decide (i1<a1.length) then
 (kZ (nth a1 i1)).bind fun x1=>
 bif decide (i.length+1≤2147483648) then
 bif inK .i64 (((i1:Nat):Int)+1) then
 some (.inl (i++[x1],i1+1))
 else none
 else none
 else none
 else
 some (.inr i)
theorem QI (tA:Tape) (a1:List Rat) (x0:List Rat×Int):∀σ:List Rat×Nat,aP Tryz.prog (nav [1,1,1,1,1,0,1,0,0] (ah Tryz.f34)) (fun (σ:List Rat×Nat)=>xk tA a1 x0 σ.1 σ.2) (fun (_:List Rat)=>(.exit 0)) (fun (y:List Rat)=>yF tA a1 x0 y) σ (mF tA a1 x0 σ.1 σ.2)
 | ([],i1)=>aJ 1010 (.br 100000033 (.op 90000 (.el Rat.D a1 (.up i1)) (.call [] [] (gW (nth a1 i1)) .no fun x1=>.op 100008 (.ap Rat.D [] [x1] 3 fun _=>⟨rfl,rfl⟩) (.ps 1000003 [.k [3,8,10,30,31,32] [10,1012],.m 1012 100023] (.ret (.inl ([x1],i1+1)))))) (.ps 1000003 [.k [3,8,10] [10,100023]] (.ret (.inr [])))) (by kernel_rfl)
 | (i_h::i_t,i1)=>aJ 1010 (.br 100000033 (.op 90000 (.el Rat.D a1 (.up i1)) (.call [] [] (gW (nth a1 i1)) .no fun x1=>.op 100008 (.ap Rat.D (i_h::i_t) [x1] 3 fun _=>⟨rfl,rfl⟩) (.ps 1000003 [.k [3,8,10,30,31,32] [10,1012],.m 1012 100023] (.ret (.inl ((i_h::i_t)++[x1],i1+1)))))) (.ps 1000003 [.k [3,8,10] [10,100023]] (.ret (.inr (i_h::i_t))))) (by kernel_rfl)
def yQ (tA:Tape) (a1:List Rat) (x0:List Rat×Int) (i:List Rat) (i1:Nat):Option (List Rat):=aI (fun (σ:List Rat×Nat)=>mF tA a1 x0 σ.1 σ.2) FU (i,i1)
theorem Qk (tA:Tape) (a1:List Rat) (x0:List Rat×Int) (i:List Rat) (i1:Nat):∀y:List Rat,yQ tA a1 x0 i i1=some y→Runs Tryz.prog (.loop (nav [1,1,1,1,1,0,1,0,0] (ah Tryz.f34))) (xk tA a1 x0 i i1) ((.exit 0)) ((fun (y:List Rat)=>yF tA a1 x0 y) y):=
 bf (head:=fun (σ:List Rat×Nat)=>xk tA a1 x0 σ.1 σ.2) (eo:=fun (_:List Rat)=>(.exit 0)) (so:=fun (y:List Rat)=>yF tA a1 x0 y) (QI tA a1 x0) (fun _ h=>by cases h) FU (i,i1)
def ug (tA:Tape) (x0:List Rat×Int) (i:List Rat) (i1:Nat):St:=⟨74,0,[(8,SL Rat.D x0.1),(10,dw 100023 i),(43,SL TOp.D tA.Ops),(44,I ((tA.Ops.length:Nat):Int)),(45,I ((i1:Nat):Int))],[(100023,dO 3 Rat.D i)]⟩
def uw (tA:Tape) (x0:List Rat×Int) (i:List Rat):St:=⟨74,0,[(10,dw 100023 i)],[(100023,dO 3 Rat.D i)]⟩
def dM (tA:Tape) (x0:List Rat×Int) (i:List Rat) (i1:Nat):Option ((List Rat×Nat)⊕(List Rat)):=
 bif decide (((i1:Nat):Int)<((tA.Ops.length:Nat):Int)) then
 bif decide (i1<tA.Ops.length) then
 (Gw (nth tA.Ops i1) x0.1).bind fun x2=>
 bif decide (0≤(nth tA.Ops i1).A_) then
 bif decide (((nth tA.Ops i1).A_).toNat<i.length) then
 bif decide (((nth tA.Ops i1).A_).toNat<i.length) then
 (ji x2.a (nth i (((nth tA.Ops i1).A_).toNat))).bind fun x3=>
 bif decide (0≤(nth tA.Ops i1).B_) then
 bif decide (((nth tA.Ops i1).B_).toNat<i.length) then
 bif decide (((nth tA.Ops i1).B_).toNat<i.length) then
 (ji x2.b (nth i (((nth tA.Ops i1).B_).toNat))).bind fun x4=>
 (nM x3 x4).bind fun x5=>
 bif decide (i.length+1≤2147483648) then
 bif inK .i64 (((i1:Nat):Int)+1) then
 some (.inl (i++[x5],i1+1))
 else none
 else none
 else none
 else none
 else none
 else none
 else none
 else none
 else none
 else
 some (.inr i)
theorem Nl (tA:Tape) (x0:List Rat×Int):∀σ:List Rat×Nat,aP Tryz.prog (nav [1,1,1,1,1,1,0,1,0,0] (ah Tryz.f34)) (fun (σ:List Rat×Nat)=>ug tA x0 σ.1 σ.2) (fun (_:List Rat)=>(.exit 2)) (fun (y:List Rat)=>uw tA x0 y) σ (dM tA x0 σ.1 σ.2)
 | ([],i1)=>aJ 1010 (.br 100000046 (.op 140000 (.el TOp.D tA.Ops (.up i1)) (.call [] [] (Fp (nth tA.Ops i1) x0.1) .no fun x2=>.op 160012 (.el Rat.D ([]:List Rat) .dn) .nil)) (.ps 1000003 [.k [10] [100023]] (.ret (.inr [])))) (by kernel_rfl)
 | (i_h::i_t,i1)=>aJ 1010 (.br 100000046 (.op 140000 (.el TOp.D tA.Ops (.up i1)) (.call [] [] (Fp (nth tA.Ops i1) x0.1) .no fun x2=>.op 160012 (.el Rat.D (i_h::i_t) .dn) (.op 160014 (.ld Rat.D (i_h::i_t)) (.call [] [] (lQ x2.a (nth (i_h::i_t) (((nth tA.Ops i1).A_).toNat))) .no fun x3=>.op 160028 (.el Rat.D (i_h::i_t) .dn) (.op 160030 (.ld Rat.D (i_h::i_t)) (.call [] [] (lQ x2.b (nth (i_h::i_t) (((nth tA.Ops i1).B_).toNat))) .no fun x4=>.call [] [] (qN x3 x4) .no fun x5=>.op 160038 (.ap Rat.D (i_h::i_t) [x5] 3 fun _=>⟨rfl,rfl⟩) (.ps 1000003 [.k [8,10,43,44,45] [1013],.m 1013 100023] (.ret (.inl ((i_h::i_t)++[x5],i1+1)))))))))) (.ps 1000003 [.k [10] [100023]] (.ret (.inr (i_h::i_t))))) (by kernel_rfl)
def tC (tA:Tape) (x0:List Rat×Int) (i:List Rat) (i1:Nat):Option (List Rat):=aI (fun (σ:List Rat×Nat)=>dM tA x0 σ.1 σ.2) FU (i,i1)
theorem CY (tA:Tape) (x0:List Rat×Int) (i:List Rat) (i1:Nat):∀y:List Rat,tC tA x0 i i1=some y→Runs Tryz.prog (.loop (nav [1,1,1,1,1,1,0,1,0,0] (ah Tryz.f34))) (ug tA x0 i i1) ((.exit 2)) ((fun (y:List Rat)=>uw tA x0 y) y):=
 bf (head:=fun (σ:List Rat×Nat)=>ug tA x0 σ.1 σ.2) (eo:=fun (_:List Rat)=>(.exit 2)) (so:=fun (y:List Rat)=>uw tA x0 y) (Nl tA x0) (fun _ h=>by cases h) FU (i,i1)
def lH (tA:Tape) (a:List Rat) (a1:List Rat):Option (List Rat×Int):=
 (lY tA a).bind fun x0=>
 bif x0.2 != 0 then
 some ([],x0.2)
 else
 bif ((a1.length:Nat):Int) != tA.Ins then
 some ([],8)
 else
 (yQ tA a1 x0 [] 0).bind fun x1=>
 bif x1.isEmpty then
 (tC tA x0 [] 0).bind fun x2=>
 some (x2,0)
 else
 bif !x1.isEmpty then
 (tC tA x0 x1 0).bind fun x2=>
 some (x2,0)
 else none
theorem VO (tA:Tape) (a:List Rat) (a1:List Rat):∀r,lH tA a a1=some r→aj Tryz.prog 34 0 [AG Tape.D tA,SL Rat.D a,SL Rat.D a1] [] (.tup [SL Rat.D r.1,I r.2]) []:=
 au (enc:=fun r=>.tup [SL Rat.D r.1,I r.2]) (aQ:=fun r=>[]) 10 (.call [] [] (F5 tA a) .no fun x0=>.br 100000023 (.ps 1000003 [.n 6] (.ret ([],x0.2))) (.op 40002 (.ln Rat.D a1) (.br 100000029 (.ps 1000003 [.n 6] (.ret ([],8))) (.op 70002 (.ln Rat.D a1) (.ps 1000001 [.k [3,8,10,30,31,32] [10,100023]] (.lp1 0 (Qk tA a1 x0 [] 0) fun x1=>.cl 1 10 100023 3 Rat.D x1 (.ps 1 [.k [3,8,10] [10]] (.op 120004 (.ln TOp.D tA.Ops) (.ps 1000001 [.k [8,10,43,44,45] [100023]] (.lp1 0 (CY tA x0 [] 0) fun x2=>.oz 5 10 100023 3 Rat.D x2 (.ps 5 [.k [10] []] (.ret (x2,0))))))) (.ps 1 [.k [3,8,10] [10,100023]] (.op 120004 (.ln TOp.D tA.Ops) (.ps 1000001 [.k [8,10,43,44,45] [100023]] (.ow 1000001 10 100023 3 Rat.D x1 .no (.ps 1000001 [.k [8,10,43,44,45] [100023]] (.lp1 0 (CY tA x0 x1 0) fun x2=>.oz 5 10 100023 3 Rat.D x2 (.ps 5 [.k [10] []] (.ret (x2,0))))))))))))))) Tryz.func34 (by kernel_rfl) (by kernel_rfl) (by kernel_rfl)
def o9 (tA:Tape) (a:List Rat) (i:Nat) (x2:List Rat×Int) (i1:Nat) (o1:List Rat):St:=⟨82,0,[(1,SL Rat.D a),(2,.ptr 10 0 0),(4,.ptr 11 0 0),(8,.ptr 13 0 0),(9,I ((i:Nat):Int)),(11,SL Rat.D x2.1),(39,I tA.Ins),(40,I ((i:Nat):Int)),(58,SL (cI .i64) tA.aB),(59,I ((tA.aB.length:Nat):Int)),(60,I ((i1:Nat):Int))],[(10,BOX [I tA.Ins,SL TOp.D tA.Ops,SL (cI .i64) tA.aB]),(11,BOX [I 0,I 0,fJ]),(12,ROW 3 Rat.D o1 0),(13,BOX [I ((tA.aB.length:Nat):Int),I tA.Ins,.msl 12 0 none (some ((((tA.aB.length:Nat):Int)*tA.Ins).toNat))])]⟩
def o8 (tA:Tape) (a:List Rat) (i:Nat) (x2:List Rat×Int) (o1:List Rat):St:=⟨82,0,[(1,SL Rat.D a),(2,.ptr 10 0 0),(4,.ptr 11 0 0),(8,.ptr 13 0 0),(39,I tA.Ins),(40,I ((i:Nat):Int))],[(10,BOX [I tA.Ins,SL TOp.D tA.Ops,SL (cI .i64) tA.aB]),(11,BOX [I 0,I 0,fJ]),(12,ROW 3 Rat.D o1 0),(13,BOX [I ((tA.aB.length:Nat):Int),I tA.Ins,.msl 12 0 none (some ((((tA.aB.length:Nat):Int)*tA.Ins).toNat))])]⟩
def iE (tA:Tape) (a:List Rat) (i:Nat) (x2:List Rat×Int) (i1:Nat) (o1:List Rat):Option ((Nat×List Rat)⊕(List Rat)):=
 bif decide (((i1:Nat):Int)<((tA.aB.length:Nat):Int)) then
 bif decide (i1<tA.aB.length) then
 bif inK .i64 (((i1:Nat):Int)*tA.Ins) then
 bif inK .i64 ((((i1:Nat):Int)*tA.Ins)+((i:Nat):Int)) then
 bif decide (0≤nth tA.aB i1) then
 bif decide ((nth tA.aB i1).toNat<x2.1.length) then
 (kZ (nth x2.1 ((nth tA.aB i1).toNat))).bind fun x3=>
 bif decide (0≤(((i1:Nat):Int)*tA.Ins)+((i:Nat):Int)) then
 bif decide (((((i1:Nat):Int)*tA.Ins)+((i:Nat):Int)).toNat<o1.length) then
 bif decide (((((i1:Nat):Int)*tA.Ins)+((i:Nat):Int)).toNat<o1.length) then
 bif inK .i64 (((i1:Nat):Int)+1) then
 some (.inl (i1+1,o1.set (((((i1:Nat):Int)*tA.Ins)+((i:Nat):Int)).toNat) x3))
 else none
 else none
 else none
 else none
 else none
 else none
 else none
 else none
 else none
 else
 some (.inr o1)
theorem Jf (tA:Tape) (a:List Rat) (i:Nat) (x2:List Rat×Int):∀σ:Nat×List Rat,aP Tryz.prog (nav [1,1,1,0,1,0,0,1,1,0,0,1,1,1,1,1,0,0] (ah Tryz.f29)) (fun (σ:Nat×List Rat)=>o9 tA a i x2 σ.1 σ.2) (fun (_:List Rat)=>(.exit 2)) (fun (y:List Rat)=>o8 tA a i x2 y) σ (iE tA a i x2 σ.1 σ.2)
 | (i1,o1)=>aJ 2010 (.br 100000061 (.op 130002 (.el (cI .i64) tA.aB (.up i1)) (.op 140020 (.el Rat.D x2.1 .dn) (.call [] [] (gW (nth x2.1 ((nth tA.aB i1).toNat))) .no fun x3=>.op 140026 (.el Rat.D o1 .dn) (.op 140028 (.st Rat.D o1 x3) (.ps 1000003 [.k [1,2,4,8,9,11,39,40,58,59,60] [10,11,12,13]] (.ret (.inl (i1+1,o1.set (((((i1:Nat):Int)*tA.Ins)+((i:Nat):Int)).toNat) x3)))))))) (.ps 1000003 [.k [1,2,4,8,39,40] [10,11,12,13]] (.ret (.inr o1)))) (by kernel_rfl)
def oG (tA:Tape) (a:List Rat) (i:Nat) (x2:List Rat×Int) (i1:Nat) (o1:List Rat):Option (List Rat):=aI (fun (σ:Nat×List Rat)=>iE tA a i x2 σ.1 σ.2) FU (i1,o1)
theorem Je (tA:Tape) (a:List Rat) (i:Nat) (x2:List Rat×Int) (i1:Nat) (o1:List Rat):∀y:List Rat,oG tA a i x2 i1 o1=some y→Runs Tryz.prog (.loop (nav [1,1,1,0,1,0,0,1,1,0,0,1,1,1,1,1,0,0] (ah Tryz.f29))) (o9 tA a i x2 i1 o1) ((.exit 2)) ((fun (y:List Rat)=>o8 tA a i x2 y) y):=
 bf (head:=fun (σ:Nat×List Rat)=>o9 tA a i x2 σ.1 σ.2) (eo:=fun (_:List Rat)=>(.exit 2)) (so:=fun (y:List Rat)=>o8 tA a i x2 y) (Jf tA a i x2) (fun _ h=>by cases h) FU (i1,o1)
def rV (tA:Tape) (a:List Rat) (i:Nat) (o:List Rat):St:=⟨82,0,[(1,SL Rat.D a),(2,.ptr 10 0 0),(4,.ptr 11 0 0),(8,.ptr 13 0 0),(39,I tA.Ins),(40,I ((i:Nat):Int))],[(10,BOX [I tA.Ins,SL TOp.D tA.Ops,SL (cI .i64) tA.aB]),(11,BOX [I 0,I 0,fJ]),(12,ROW 3 Rat.D o 0),(13,BOX [I ((tA.aB.length:Nat):Int),I tA.Ins,.msl 12 0 none (some ((((tA.aB.length:Nat):Int)*tA.Ins).toNat))])]⟩
def sD (tA:Tape) (a:List Rat) (o:List Rat):St:=⟨82,0,[(4,.ptr 11 0 0),(8,.ptr 13 0 0)],[(11,BOX [I 0,I 0,fJ]),(12,ROW 3 Rat.D o 0),(13,BOX [I ((tA.aB.length:Nat):Int),I tA.Ins,.msl 12 0 none (some ((((tA.aB.length:Nat):Int)*tA.Ins).toNat))])]⟩
def jy (tA:Tape) (a:List Rat) (i:Nat) (o:List Rat):Option ((Nat×List Rat)⊕(List Rat)):=
 bif decide (((i:Nat):Int)<tA.Ins) then
 bif decide (0≤tA.Ins) then
 bif decide (tA.Ins.toNat≤2147483648) then
 (gJ 1).bind fun x1=>
 bif decide (i<(List.replicate tA.Ins.toNat (Rat.mk false [] [])).length) then
 bif decide (i<(List.replicate tA.Ins.toNat (Rat.mk false [] [])).length) then
 (lH tA a ((List.replicate tA.Ins.toNat (Rat.mk false [] [])).set i x1)).bind fun x2=>
 (oG tA a i x2 0 o).bind fun x3=>
 bif inK .i64 (((i:Nat):Int)+1) then
 some (.inl (i+1,x3))
 else none
 else none
 else none
 else none
 else none
 else
 some (.inr o)
theorem Me (tA:Tape) (a:List Rat):∀σ:Nat×List Rat,aP Tryz.prog (nav [1,1,1,0,1,0,0] (ah Tryz.f29)) (fun (σ:Nat×List Rat)=>rV tA a σ.1 σ.2) (fun (_:List Rat)=>(.exit 0)) (fun (y:List Rat)=>sD tA a y) σ (jy tA a σ.1 σ.2)
 | (i,o)=>aJ 1010 (.br 100000041 (.op 80004 (.mk Rat.D (Rat.mk false [] []) .dn) (.call [] [] (fE 1) .no fun x1=>.op 90006 (.el Rat.D (List.replicate tA.Ins.toNat (Rat.mk false [] [])) (.up i)) (.op 90008 (.st Rat.D (List.replicate tA.Ins.toNat (Rat.mk false [] [])) x1) (.call [] [] (VO tA a ((List.replicate tA.Ins.toNat (Rat.mk false [] [])).set i x1)) .no fun x2=>.op 110004 (.ln (cI .i64) tA.aB) (.ps 1000001 [.k [1,2,4,8,9,11,39,40,58,59,60] [10,11,12,13]] (.lp1 0 (Je tA a i x2 0 o) fun x3=>.ps 1000003 [.k [1,2,4,8,39,40] [10,11,12,13]] (.ret (.inl (i+1,x3))))))))) (.ps 1000003 [.k [4,8] [11,12,13]] (.ret (.inr o)))) (by kernel_rfl)
def qY (tA:Tape) (a:List Rat) (i:Nat) (o:List Rat):Option (List Rat):=aI (fun (σ:Nat×List Rat)=>jy tA a σ.1 σ.2) FU (i,o)
theorem LU (tA:Tape) (a:List Rat) (i:Nat) (o:List Rat):∀y:List Rat,qY tA a i o=some y→Runs Tryz.prog (.loop (nav [1,1,1,0,1,0,0] (ah Tryz.f29))) (rV tA a i o) ((.exit 0)) ((fun (y:List Rat)=>sD tA a y) y):=
 bf (head:=fun (σ:Nat×List Rat)=>rV tA a σ.1 σ.2) (eo:=fun (_:List Rat)=>(.exit 0)) (so:=fun (y:List Rat)=>sD tA a y) (Me tA a) (fun _ h=>by cases h) FU (i,o)
def gV (tA:Tape) (a:List Rat):Option (Jac×Int):=
 (lY tA a).bind fun x0=>
 bif x0.2 != 0 then
 some (Jac.mk 0 0 [],x0.2)
 else
 bif inK .i64 (((tA.aB.length:Nat):Int)*tA.Ins) then
 bif decide (0≤((tA.aB.length:Nat):Int)*tA.Ins) then
 bif decide ((((tA.aB.length:Nat):Int)*tA.Ins).toNat≤2147483648) then
 (qY tA a 0 (List.replicate ((((tA.aB.length:Nat):Int)*tA.Ins).toNat) (Rat.mk false [] []))).bind fun x1=>
 some (Jac.mk ((tA.aB.length:Nat):Int) tA.Ins x1,0)
 else none
 else none
 else none
theorem Qc (tA:Tape) (a:List Rat):∀r,gV tA a=some r→aj Tryz.prog 29 0 [AG Tape.D tA,SL Rat.D a] [] (.tup [AG Jac.D r.1,I r.2]) []:=
 au (enc:=fun r=>.tup [AG Jac.D r.1,I r.2]) (aQ:=fun r=>[]) 10 (.call [] [] (F5 tA a) .no fun x0=>.br 100000022 (.ps 1000003 [.b 11] (.ret (Jac.mk 0 0 [],x0.2))) (.op 40004 (.ln (cI .i64) tA.aB) (.op 40014 (.ln (cI .i64) tA.aB) (.op 40022 (.mk Rat.D (Rat.mk false [] []) .dn) (.ps 1000001 [.k [1,2,4,8,39,40] [10,11,12,13]] (.lp1 0 (LU tA a 0 (List.replicate ((((tA.aB.length:Nat):Int)*tA.Ins).toNat) (Rat.mk false [] []))) fun x1=>.ps 1000003 [.b 11] (.ret (Jac.mk ((tA.aB.length:Nat):Int) tA.Ins x1,0)))))))) Tryz.func29 (by kernel_rfl) (by kernel_rfl) (by kernel_rfl)
end Go.Ab.M
