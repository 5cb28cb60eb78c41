import Derived.Test.YtcelliafjmmldaaGreatTF
import Derived.Test.YtcelliafjmmldaaGreatCV
namespace Go.Ab.M
open Go.Proofs
set_option linter.unusedVariables false
set_option maxRecDepth 100000
structure TOp where
 Code:Int
 A_:Int
 B_:Int
 Exp:Int
 Num:Rat
 deriving DecidableEq,Inhabited
abbrev TOp.D (x:TOp):List D:=[.v (.int .i64 x.Code)]++[.v (.int .i64 x.A_)]++[.v (.int .i64 x.B_)]++[.v (.int .i64 x.Exp)]++Rat.D x.Num
structure Tape where
 Ins:Int
 Ops:List TOp
 aG:List Int
 deriving DecidableEq,Inhabited
abbrev Tape.D (x:Tape):List D:=[.v (.int .i64 x.Ins),.sl (x.Ops.map TOp.D),.sl (x.aG.map (cI .i64))]
def wK (tA:Tape) (i:List Int) (i1:Nat):St:=⟨85,0,[(1,.ptr 10 0 0),(4,bI 100018 i),(38,I tA.Ins),(39,I ((i1:Nat):Int))],[(10,BOX [I tA.Ins,SL TOp.D tA.Ops,SL (cI .i64) tA.aG]),(100018,bM 1 (cI .i64) i)]⟩
def wC (tA:Tape) (i:List Int):St:=⟨85,0,[(1,.ptr 10 0 0),(4,bI 100018 i)],[(10,BOX [I tA.Ins,SL TOp.D tA.Ops,SL (cI .i64) tA.aG]),(100018,bM 1 (cI .i64) i)]⟩
def kN (tA:Tape) (i:List Int) (i1:Nat):Option ((List Int×Nat)⊕(List Int)):=
 bif decide (((i1:Nat):Int)<tA.Ins) then
 bif decide (i.length+1≤2147483648) then
 bif inK .i64 (((i1:Nat):Int)+1) then
 some (.inl (i++[1],i1+1))
 else none
 else none
 else
 some (.inr i)
theorem O3 (tA:Tape):∀σ:List Int×Nat,aN Tryz.prog (nav [1,1,1,0,1,0,0] (ah Tryz.f174)) (fun (σ:List Int×Nat)=>wK tA σ.1 σ.2) (fun (_:List Int)=>(.exit 0)) (fun (y:List Int)=>wC tA y) σ (kN tA σ.1 σ.2)
 | ([],i1)=>aF 1010 (.br 100000040 (.op 60004 (.ap (cI .i64) [] [1] 1 fun _=>⟨rfl,rfl⟩) (.ps 1000003 [.k [1,4,38,39] [10,1011],.m 1011 100018] (.ret (.inl ([1],i1+1))))) (.ps 1000003 [.k [1,4] [10,100018]] (.ret (.inr [])))) (by kernel_rfl)
 | (i_h::i_t,i1)=>aF 1010 (.br 100000040 (.op 60004 (.ap (cI .i64) (i_h::i_t) [1] 1 fun _=>⟨rfl,rfl⟩) (.ps 1000003 [.k [1,4,38,39] [10,1011],.m 1011 100018] (.ret (.inl ((i_h::i_t)++[1],i1+1))))) (.ps 1000003 [.k [1,4] [10,100018]] (.ret (.inr (i_h::i_t))))) (by kernel_rfl)
def vU (tA:Tape) (i:List Int) (i1:Nat):Option (List Int):=aK (fun (σ:List Int×Nat)=>kN tA σ.1 σ.2) FU (i,i1)
theorem OL (tA:Tape) (i:List Int) (i1:Nat):∀y:List Int,vU tA i i1=some y→Runs Tryz.prog (.loop (nav [1,1,1,0,1,0,0] (ah Tryz.f174))) (wK tA i i1) ((.exit 0)) ((fun (y:List Int)=>wC tA y) y):=
 aS (head:=fun (σ:List Int×Nat)=>wK tA σ.1 σ.2) (eo:=fun (_:List Int)=>(.exit 0)) (so:=fun (y:List Int)=>wC tA y) (O3 tA) (fun _ h=>by cases h) FU (i,i1)
def X7:ByteArray:=⟨#[]⟩
def Aq (a1:List Int) (out:List Int):St:=⟨32,0,[(0,SL (cI .u32) a1),(3,bI 100019 out)],[(100019,bM 1 (cI .u8) out)]⟩
def Ah (out:List Int):St:=⟨32,0,[(3,bI 100019 out)],[(100019,bM 1 (cI .u8) out)]⟩
def cZ (a1:List Int) (out:List Int):Option ((List Int×List Int)⊕(List Int)):=
 (kH a1).bind fun x0=>
 bif decide (x0>0) then
 (mW a1 10).bind fun x1=>
 bif decide (out.length+1≤2147483648) then
 some (.inl (x1.1,out++[IntKind.wrap .u8 (IntKind.wrap .u32 (48+x1.2.1))]))
 else none
 else
 bif ((out.length:Nat):Int)==0 then
 (mW a1 10).bind fun x1=>
 bif decide (out.length+1≤2147483648) then
 some (.inl (x1.1,out++[IntKind.wrap .u8 (IntKind.wrap .u32 (48+x1.2.1))]))
 else none
 else
 some (.inr out)
theorem TR:∀σ:List Int×List Int,aN Tryz.prog (nav [1,1,0,0,0] (ah Tryz.f314)) (fun (σ:List Int×List Int)=>Aq σ.1 σ.2) (fun (_:List Int)=>(.exit 0)) (fun (y:List Int)=>Ah y) σ (cZ σ.1 σ.2)
 | (a1,[])=>aF 1010 (.call [] [] (uV a1) .no fun x0=>.br 20008 (.call [] [] (pV a1 10) .no fun x1=>.op 40006 .wr (.op 40010 (.ap (cI .u8) [] [IntKind.wrap .u8 (IntKind.wrap .u32 (48+x1.2.1))] 1 fun _=>⟨rfl,rfl⟩) (.ps 1000003 [.k [0,3] [1011],.m 1011 100019] (.ret (.inl (x1.1,[IntKind.wrap .u8 (IntKind.wrap .u32 (48+x1.2.1))])))))) (.call [] [] (pV a1 10) .no fun x1=>.op 40006 .wr (.op 40010 (.ap (cI .u8) [] [IntKind.wrap .u8 (IntKind.wrap .u32 (48+x1.2.1))] 1 fun _=>⟨rfl,rfl⟩) (.ps 1000003 [.k [0,3] [1011],.m 1011 100019] (.ret (.inl (x1.1,[IntKind.wrap .u8 (IntKind.wrap .u32 (48+x1.2.1))]))))))) (by kernel_rfl)
 | (a1,dP::dO)=>aF 1010 (.call [] [] (uV a1) .no fun x0=>.br 20008 (.call [] [] (pV a1 10) .no fun x1=>.op 40006 .wr (.op 40010 (.ap (cI .u8) (dP::dO) [IntKind.wrap .u8 (IntKind.wrap .u32 (48+x1.2.1))] 1 fun _=>⟨rfl,rfl⟩) (.ps 1000003 [.k [0,3] [1011],.m 1011 100019] (.ret (.inl (x1.1,(dP::dO)++[IntKind.wrap .u8 (IntKind.wrap .u32 (48+x1.2.1))])))))) (.op 20010 (.ln (cI .u8) (dP::dO)) (.br 100000014 (.call [] [] (pV a1 10) .no fun x1=>.op 40006 .wr (.op 40010 (.ap (cI .u8) (dP::dO) [IntKind.wrap .u8 (IntKind.wrap .u32 (48+x1.2.1))] 1 fun _=>⟨rfl,rfl⟩) (.ps 1000003 [.k [0,3] [1011],.m 1011 100019] (.ret (.inl (x1.1,(dP::dO)++[IntKind.wrap .u8 (IntKind.wrap .u32 (48+x1.2.1))])))))) (.ps 1000003 [.k [3] [100019]] (.ret (.inr (dP::dO))))))) (by kernel_rfl)
def Ic (a1:List Int) (out:List Int):Option (List Int):=aK (fun (σ:List Int×List Int)=>cZ σ.1 σ.2) FU (a1,out)
theorem Ur (a1:List Int) (out:List Int):∀y:List Int,Ic a1 out=some y→Runs Tryz.prog (.loop (nav [1,1,0,0,0] (ah Tryz.f314))) (Aq a1 out) ((.exit 0)) ((fun (y:List Int)=>Ah y) y):=
 aS (head:=fun (σ:List Int×List Int)=>Aq σ.1 σ.2) (eo:=fun (_:List Int)=>(.exit 0)) (so:=fun (y:List Int)=>Ah y) (TR) (fun _ h=>by cases h) FU (a1,out)
def iO:St:=⟨28,0,[(0,SL (cI .u8) ([]:List Int)),(2,I 0),(3,I (((([]:List Int).length:Nat):Int)-1))],[]⟩
def iM:St:=⟨28,0,[],[]⟩
def mQ:Option (Unit⊕Unit):=
 bif decide (0<(((([]:List Int).length:Nat):Int)-1)) then
 bif decide (0≤((([]:List Int).length:Nat):Int)-1) then
 bif decide ((((([]:List Int).length:Nat):Int)-1).toNat<([]:List Int).length) then
 bif decide (0<([]:List Int).length) then
 bif decide (0<([]:List Int).length) then
 none
 else none
 else none
 else none
 else none
 else
 some (.inr ())
theorem zN:∀σ:Unit,aN Tryz.prog (nav [1,0,0] (ah Tryz.f316)) (fun (σ:Unit)=>iO) (fun (_:Unit)=>(.exit 0)) (fun (y:Unit)=>iM) σ (mQ)
 | ()=>aF 1010 (.br 100000009 (.op 30012 (.el (cI .u8) ([]:List Int) .dn) (.op 30020 (.el (cI .u8) ([]:List Int) (.up 0)) (.op 30024 (.el (cI .u8) ([]:List Int) (.up 0)) .nil))) (.ps 1000003 [.k [] []] (.ret (.inr ())))) (by kernel_rfl)
def o9:Option Unit:=aK (fun (σ:Unit)=>mQ) FU ()
theorem zh:∀y:Unit,o9=some y→Runs Tryz.prog (.loop (nav [1,0,0] (ah Tryz.f316))) (iO) ((.exit 0)) ((fun (y:Unit)=>iM) y):=
 aS (head:=fun (σ:Unit)=>iO) (eo:=fun (_:Unit)=>(.exit 0)) (so:=fun (y:Unit)=>iM) (zN) (fun _ h=>by cases h) FU ()
def rV:Option Unit:=
 bif inK .i64 (((([]:List Int).length:Nat):Int)-1) then
 (o9).bind fun x0=>
 some ()
 else none
theorem BM:∀r,rV=some r→aj Tryz.prog 316 0 [SL (cI .u8) ([]:List Int)] [] (.tup []) []:=
 ak (enc:=fun r=>.tup []) (aP:=fun r=>[]) 10 (.op 2 (.ln (cI .u8) ([]:List Int)) (.ps 1000001 [.k [0,2,3] []] (.lp1 0 (zh) fun x0=>.ret ()))) Tryz.func316 (by kernel_rfl) (by kernel_rfl) (by kernel_rfl)
def gX (i:Nat) (j:Int) (s:List Int):St:=⟨28,1,[(0,.msl 0 0 none none),(2,I ((i:Nat):Int)),(3,I j)],[(0,ROW 1 (cI .u8) s 0)]⟩
def gW (o:List Int):St:=⟨28,1,[],[(0,ROW 1 (cI .u8) o 0)]⟩
def dF (i:Nat) (j:Int) (s:List Int):Option ((Nat×Int×List Int)⊕(List Int)):=
 bif decide (((i:Nat):Int)<j) then
 bif decide (0≤j) then
 bif decide (j.toNat<s.length) then
 bif decide (j.toNat<s.length) then
 bif decide (i<s.length) then
 bif decide (i<s.length) then
 bif decide (i<s.length) then
 bif decide (i<s.length) then
 bif decide (0≤j) then
 bif decide (j.toNat<(s.set i (nth s j.toNat)).length) then
 bif decide (j.toNat<(s.set i (nth s j.toNat)).length) then
 bif inK .i64 (((i:Nat):Int)+1) then
 bif inK .i64 (j-1) then
 some (.inl (i+1,j-1,(s.set i (nth s j.toNat)).set j.toNat (nth s i)))
 else none
 else none
 else none
 else none
 else none
 else none
 else none
 else none
 else none
 else none
 else none
 else none
 else
 some (.inr s)
theorem wM:∀σ:Nat×Int×List Int,aN Tryz.prog (nav [1,0,0] (ah Tryz.f316)) (fun (σ:Nat×Int×List Int)=>gX σ.1 σ.2.1 σ.2.2) (fun (_:List Int)=>(.exit 0)) (fun (y:List Int)=>gW y) σ (dF σ.1 σ.2.1 σ.2.2)
 | (i,j,s)=>aF 1010 (.br 100000009 (.op 30012 (.el (cI .u8) s .dn) (.op 30014 (.ld (cI .u8) s) (.op 30020 (.el (cI .u8) s (.up i)) (.op 30022 (.ld (cI .u8) s) (.op 30024 (.el (cI .u8) s (.up i)) (.op 30026 (.st (cI .u8) s (nth s j.toNat)) (.op 30028 (.el (cI .u8) (s.set i (nth s j.toNat)) .dn) (.op 30030 (.st (cI .u8) (s.set i (nth s j.toNat)) (nth s i)) (.ps 1000003 [.k [0,2,3] [0]] (.ret (.inl (i+1,j-1,(s.set i (nth s j.toNat)).set j.toNat (nth s i))))))))))))) (.ps 1000003 [.k [] [0]] (.ret (.inr s)))) (by kernel_rfl)
def fF (i:Nat) (j:Int) (s:List Int):Option (List Int):=aK (fun (σ:Nat×Int×List Int)=>dF σ.1 σ.2.1 σ.2.2) FU (i,j,s)
theorem wL (i:Nat) (j:Int) (s:List Int):∀y:List Int,fF i j s=some y→Runs Tryz.prog (.loop (nav [1,0,0] (ah Tryz.f316))) (gX i j s) ((.exit 0)) ((fun (y:List Int)=>gW y) y):=
 aS (head:=fun (σ:Nat×Int×List Int)=>gX σ.1 σ.2.1 σ.2.2) (eo:=fun (_:List Int)=>(.exit 0)) (so:=fun (y:List Int)=>gW y) (wM) (fun _ h=>by cases h) FU (i,j,s)
def gy (o0:List Int):Option (List Int):=
 bif inK .i64 (((o0.length:Nat):Int)-1) then
 (fF 0 (((o0.length:Nat):Int)-1) o0).bind fun x0=>
 some x0
 else none
theorem zk (o0:List Int):∀r,gy o0=some r→aj Tryz.prog 316 1 [.msl 0 0 none none] [(0,ROW 1 (cI .u8) o0 0)] (.tup []) [(0,ROW 1 (cI .u8) r 0)]:=
 ak (enc:=fun r=>.tup []) (aP:=fun r=>[(0,ROW 1 (cI .u8) r 0)]) 10 (.op 2 (.ln (cI .u8) o0) (.ps 1000001 [.k [0,2,3] [0]] (.lp1 0 (wL 0 (((o0.length:Nat):Int)-1) o0) fun x0=>.ret x0))) Tryz.func316 (by kernel_rfl) (by kernel_rfl) (by kernel_rfl)
def Oh (a:List Int):Option ByteArray:=
 (Ic a []).bind fun x0=>
 bif x0.isEmpty then
 (rV).bind fun x1=>
 some (strOfNums ([]:List Int))
 else
 (gy x0).bind fun x1=>
 some (strOfNums x1)
theorem XY (a:List Int):∀r,Oh a=some r→aj Tryz.prog 314 0 [SL (cI .u32) a] [] (SX r) []:=
 ak (enc:=fun r=>SX r) (aP:=fun r=>[]) 10 (.ps 1000001 [.k [0,3] [100019]] (.lp1 0 (Ur a []) fun x0=>.cl 1 3 100019 1 (cI .u8) x0 (.ps 1 [.k [3] []] (.call [] [] (BM) .no fun x1=>.ps 12 [.n 3] (.op 70002 (.bs ([]:List Int)) (.ret (strOfNums ([]:List Int)))))) (.ps 1 [.k [3] [100019]] (.call [100019] [] (zk x0) .no fun x1=>.op 70002 (.bs x1) (.ret (strOfNums x1)))))) Tryz.func314 (by kernel_rfl) (by kernel_rfl) (by kernel_rfl)
def pq (a:List Int):Option Int:=
 (Oh a).bind fun x0=>
 some ((x0.size:Nat):Int)
theorem J7 (a:List Int):∀r,pq a=some r→aj Tryz.prog 307 0 [SL (cI .u32) a] [] (I r) []:=
 ak (enc:=fun r=>I r) (aP:=fun r=>[]) 10 (.call [] [] (XY a) .no fun x0=>.ret ((x0.size:Nat):Int)) Tryz.func307 (by kernel_rfl) (by kernel_rfl) (by kernel_rfl)
def yQ (x:Rat):Option Bool:=
 (uz x).bind fun x0=>
 bif x0 then
 (pq x.Num).bind fun x1=>
 bif decide (x1≤40) then
 (pq x.Den).bind fun x2=>
 some (decide (x2≤40))
 else
 some false
 else
 some false
theorem RJ (x:Rat):∀r,yQ x=some r→aj Tryz.prog 283 0 [AG Rat.D x] [] (B r) []:=
 ak (enc:=fun r=>B r) (aP:=fun r=>[]) 10 (.call [] [] (La x) .no fun x0=>.br 10006 (.call [] [] (J7 x.Num) .no fun x1=>.br 10018 (.call [] [] (J7 x.Den) .no fun x2=>.ret (decide (x2≤40))) (.ret false)) (.ret false)) Tryz.func283 (by kernel_rfl) (by kernel_rfl) (by kernel_rfl)
def oL (x:Rat):Option Bool:=
 bif !x.Neg then
 bif ((x.Num.length:Nat):Int)==0 then
 some (((x.Den.length:Nat):Int)==0)
 else
 some false
 else
 some false
theorem lg (x:Rat):∀r,oL x=some r→aj Tryz.prog 284 0 [AG Rat.D x] [] (B r) []:=
 ak (enc:=fun r=>B r) (aP:=fun r=>[]) 10 (.br 10008 (.op 10012 (.ln (cI .u32) x.Num) (.br 10020 (.op 10024 (.ln (cI .u32) x.Den) (.ret (((x.Den.length:Nat):Int)==0))) (.ret false))) (.ret false)) Tryz.func284 (by kernel_rfl) (by kernel_rfl) (by kernel_rfl)
def zM (o:TOp):Option Bool:=
 bif o.Code==1 then
 (yQ o.Num).bind fun x0=>
 bif !x0 then
 some false
 else
 bif o.A_ != 0 then
 some false
 else
 bif o.B_ != 0 then
 some false
 else
 bif o.Exp != 0 then
 some false
 else
 (oL (Rat.mk false [] [])).bind fun x1=>
 bif x1 then
 bif decide (o.Exp≥(-20)) then
 bif decide (o.Exp≤20) then
 bif o.Code != 7 then
 some true
 else
 some (o.B_==0)
 else
 some false
 else
 some false
 else
 some false
 else
 bif o.Code==6 then
 bif o.B_ != 0 then
 some false
 else
 bif o.Exp != 0 then
 some false
 else
 (oL o.Num).bind fun x0=>
 bif x0 then
 bif decide (o.Exp≥(-20)) then
 bif decide (o.Exp≤20) then
 bif o.Code != 7 then
 some true
 else
 some (o.B_==0)
 else
 some false
 else
 some false
 else
 some false
 else
 bif o.Code==2 then
 bif o.Exp != 0 then
 some false
 else
 (oL o.Num).bind fun x0=>
 bif x0 then
 bif decide (o.Exp≥(-20)) then
 bif decide (o.Exp≤20) then
 bif o.Code != 7 then
 some true
 else
 some (o.B_==0)
 else
 some false
 else
 some false
 else
 some false
 else
 bif o.Code==3 then
 bif o.Exp != 0 then
 some false
 else
 (oL o.Num).bind fun x0=>
 bif x0 then
 bif decide (o.Exp≥(-20)) then
 bif decide (o.Exp≤20) then
 bif o.Code != 7 then
 some true
 else
 some (o.B_==0)
 else
 some false
 else
 some false
 else
 some false
 else
 bif o.Code==4 then
 bif o.Exp != 0 then
 some false
 else
 (oL o.Num).bind fun x0=>
 bif x0 then
 bif decide (o.Exp≥(-20)) then
 bif decide (o.Exp≤20) then
 bif o.Code != 7 then
 some true
 else
 some (o.B_==0)
 else
 some false
 else
 some false
 else
 some false
 else
 bif o.Code==5 then
 bif o.Exp != 0 then
 some false
 else
 (oL o.Num).bind fun x0=>
 bif x0 then
 bif decide (o.Exp≥(-20)) then
 bif decide (o.Exp≤20) then
 bif o.Code != 7 then
 some true
 else
 some (o.B_==0)
 else
 some false
 else
 some false
 else
 some false
 else
 bif o.Code==7 then
 (oL o.Num).bind fun x0=>
 bif x0 then
 bif decide (o.Exp≥(-20)) then
 bif decide (o.Exp≤20) then
 bif o.Code != 7 then
 some true
 else
 some (o.B_==0)
 else
 some false
 else
 some false
 else
 some false
 else
 some false
theorem KI (o:TOp):∀r,zM o=some r→aj Tryz.prog 234 0 [AG TOp.D o] [] (B r) []:=
 ak (enc:=fun r=>B r) (aP:=fun r=>[]) 10 (.br 100000005 (.call [] [] (RJ o.Num) .no fun x0=>.br 90010 (.ret false) (.br 100000024 (.ret false) (.br 100000029 (.ret false) (.br 100000032 (.ret false) (.call [] [] (lg (Rat.mk false [] [])) .no fun x1=>.br 160008 (.br 160018 (.br 160028 (.br 160036 (.ret true) (.ret (o.B_==0))) (.ret false)) (.ret false)) (.ret false)))))) (.br 100000007 (.br 100000029 (.ret false) (.br 100000032 (.ret false) (.call [] [] (lg o.Num) .no fun x0=>.br 160008 (.br 160018 (.br 160028 (.br 160036 (.ret true) (.ret (o.B_==0))) (.ret false)) (.ret false)) (.ret false)))) (.br 100000009 (.br 100000032 (.ret false) (.call [] [] (lg o.Num) .no fun x0=>.br 160008 (.br 160018 (.br 160028 (.br 160036 (.ret true) (.ret (o.B_==0))) (.ret false)) (.ret false)) (.ret false))) (.br 100000009 (.br 100000032 (.ret false) (.call [] [] (lg o.Num) .no fun x0=>.br 160008 (.br 160018 (.br 160028 (.br 160036 (.ret true) (.ret (o.B_==0))) (.ret false)) (.ret false)) (.ret false))) (.br 100000009 (.br 100000032 (.ret false) (.call [] [] (lg o.Num) .no fun x0=>.br 160008 (.br 160018 (.br 160028 (.br 160036 (.ret true) (.ret (o.B_==0))) (.ret false)) (.ret false)) (.ret false))) (.br 100000009 (.br 100000032 (.ret false) (.call [] [] (lg o.Num) .no fun x0=>.br 160008 (.br 160018 (.br 160028 (.br 160036 (.ret true) (.ret (o.B_==0))) (.ret false)) (.ret false)) (.ret false))) (.br 100000014 (.call [] [] (lg o.Num) .no fun x0=>.br 160008 (.br 160018 (.br 160028 (.br 160036 (.ret true) (.ret (o.B_==0))) (.ret false)) (.ret false)) (.ret false)) (.ret false)))))))) Tryz.func234 (by kernel_rfl) (by kernel_rfl) (by kernel_rfl)
def Pz (n:Int):Option Int:=
 bif inK .i64 (0-n) then
 some (mxI n (0-n))
 else none
theorem Z7 (n:Int):∀r,Pz n=some r→aj Tryz.prog 285 0 [I n] [] (I r) []:=
 ak (enc:=fun r=>I r) (aP:=fun r=>[]) 10 (.ret (mxI n (0-n))) Tryz.func285 (by kernel_rfl) (by kernel_rfl) (by kernel_rfl)
def uX (o:TOp) (w:List Int):Option (Int×Bool):=
 bif o.Code==1 then
 some (1,true)
 else
 bif decide (o.A_<0) then
 some (0,false)
 else
 bif decide (o.A_≥((w.length:Nat):Int)) then
 some (0,false)
 else
 bif decide (o.B_<0) then
 some (0,false)
 else
 bif decide (o.B_≥((w.length:Nat):Int)) then
 some (0,false)
 else
 bif decide (0≤o.A_) then
 bif decide (o.A_.toNat<w.length) then
 bif o.Code==2 then
 bif decide (0≤o.B_) then
 bif decide (o.B_.toNat<w.length) then
 bif inK .i64 ((nth w o.A_.toNat)+(nth w o.B_.toNat)) then
 some ((nth w o.A_.toNat)+(nth w o.B_.toNat),decide (((nth w o.A_.toNat)+(nth w o.B_.toNat))≤200))
 else none
 else none
 else none
 else
 bif o.Code==3 then
 bif decide (0≤o.B_) then
 bif decide (o.B_.toNat<w.length) then
 bif inK .i64 ((nth w o.A_.toNat)+(nth w o.B_.toNat)) then
 some ((nth w o.A_.toNat)+(nth w o.B_.toNat),decide (((nth w o.A_.toNat)+(nth w o.B_.toNat))≤200))
 else none
 else none
 else none
 else
 bif o.Code==4 then
 bif decide (0≤o.B_) then
 bif decide (o.B_.toNat<w.length) then
 bif inK .i64 ((nth w o.A_.toNat)+(nth w o.B_.toNat)) then
 some ((nth w o.A_.toNat)+(nth w o.B_.toNat),decide (((nth w o.A_.toNat)+(nth w o.B_.toNat))≤200))
 else none
 else none
 else none
 else
 bif o.Code==5 then
 bif decide (0≤o.B_) then
 bif decide (o.B_.toNat<w.length) then
 bif inK .i64 ((nth w o.A_.toNat)+(nth w o.B_.toNat)) then
 some ((nth w o.A_.toNat)+(nth w o.B_.toNat),decide (((nth w o.A_.toNat)+(nth w o.B_.toNat))≤200))
 else none
 else none
 else none
 else
 bif o.Code==7 then
 (Pz o.Exp).bind fun x0=>
 bif inK .i64 ((nth w o.A_.toNat)*(mxI 1 x0)) then
 some ((nth w o.A_.toNat)*(mxI 1 x0),decide (((nth w o.A_.toNat)*(mxI 1 x0))≤200))
 else none
 else
 some (nth w o.A_.toNat,decide ((nth w o.A_.toNat)≤200))
 else none
 else none
theorem J4 (o:TOp) (w:List Int):∀r,uX o w=some r→aj Tryz.prog 235 0 [AG TOp.D o,SL (cI .i64) w] [] (.tup [I r.1,B r.2]) []:=
 ak (enc:=fun r=>.tup [I r.1,B r.2]) (aP:=fun r=>[]) 10 (.br 100000009 (.ret (1,true)) (.br 30008 (.ret (0,false)) (.op 30014 (.ln (cI .i64) w) (.br 30022 (.ret (0,false)) (.br 30032 (.ret (0,false)) (.op 30038 (.ln (cI .i64) w) (.br 100000031 (.ret (0,false)) (.op 50006 (.el (cI .i64) w .dn) (.br 100000039 (.op 110008 (.el (cI .i64) w .dn) (.ret ((nth w o.A_.toNat)+(nth w o.B_.toNat),decide (((nth w o.A_.toNat)+(nth w o.B_.toNat))≤200)))) (.br 100000039 (.op 110008 (.el (cI .i64) w .dn) (.ret ((nth w o.A_.toNat)+(nth w o.B_.toNat),decide (((nth w o.A_.toNat)+(nth w o.B_.toNat))≤200)))) (.br 100000039 (.op 110008 (.el (cI .i64) w .dn) (.ret ((nth w o.A_.toNat)+(nth w o.B_.toNat),decide (((nth w o.A_.toNat)+(nth w o.B_.toNat))≤200)))) (.br 100000039 (.op 110008 (.el (cI .i64) w .dn) (.ret ((nth w o.A_.toNat)+(nth w o.B_.toNat),decide (((nth w o.A_.toNat)+(nth w o.B_.toNat))≤200)))) (.br 100000051 (.call [] [] (Z7 o.Exp) .no fun x0=>.ret ((nth w o.A_.toNat)*(mxI 1 x0),decide (((nth w o.A_.toNat)*(mxI 1 x0))≤200))) (.ret (nth w o.A_.toNat,decide ((nth w o.A_.toNat)≤200)))))))))))))))) Tryz.func235 (by kernel_rfl) (by kernel_rfl) (by kernel_rfl)
def rF (tA:Tape) (i:List Int) (i1:Nat):St:=⟨85,0,[(1,.ptr 10 0 0),(4,bI 100018 i),(46,SL TOp.D tA.Ops),(47,I ((tA.Ops.length:Nat):Int)),(48,I ((i1:Nat):Int))],[(10,BOX [I tA.Ins,SL TOp.D tA.Ops,SL (cI .i64) tA.aG]),(100018,bM 1 (cI .i64) i)]⟩
def rD (tA:Tape):St:=⟨85,0,[(2,bZ),(3,B false)],[]⟩
def rO (tA:Tape) (i:List Int):St:=⟨85,0,[(1,.ptr 10 0 0),(4,bI 100018 i)],[(10,BOX [I tA.Ins,SL TOp.D tA.Ops,SL (cI .i64) tA.aG]),(100018,bM 1 (cI .i64) i)]⟩
def jf (tA:Tape) (i:List Int) (i1:Nat):Option ((List Int×Nat)⊕(Unit⊕(List Int))):=
 bif decide (((i1:Nat):Int)<((tA.Ops.length:Nat):Int)) then
 bif decide (i1<tA.Ops.length) then
 (zM (nth tA.Ops i1)).bind fun x1=>
 bif !x1 then
 some (.inr (.inl ()))
 else
 (uX (nth tA.Ops i1) i).bind fun x2=>
 bif !x2.2 then
 some (.inr (.inl ()))
 else
 bif decide (i.length+1≤2147483648) then
 bif inK .i64 (((i1:Nat):Int)+1) then
 some (.inl (i++[x2.1],i1+1))
 else none
 else none
 else none
 else
 some (.inr (.inr i))
theorem MI (tA:Tape):∀σ:List Int×Nat,aN Tryz.prog (nav [1,1,1,1,0,1,0,0] (ah Tryz.f174)) (fun (σ:List Int×Nat)=>rF tA σ.1 σ.2) (fun (y:Unit⊕(List Int))=>aH y (fun _=>.ret) (fun _=>(.exit 2))) (fun (y:Unit⊕(List Int))=>aH y (fun y=>rD tA) (fun y=>rO tA y)) σ (jf tA σ.1 σ.2)
 | ([],i1)=>aF 1010 (.br 100000049 (.op 100000 (.el TOp.D tA.Ops (.up i1)) (.call [] [] (KI (nth tA.Ops i1)) .no fun x1=>.br 100000054 (.ps 1000003 [.k [2,3] []] (.ret (.inr (.inl ())))) (.call [] [] (J4 (nth tA.Ops i1) []) .no fun x2=>.br 100000062 (.ps 1000003 [.k [2,3] []] (.ret (.inr (.inl ())))) (.op 160006 (.ap (cI .i64) [] [x2.1] 1 fun _=>⟨rfl,rfl⟩) (.ps 1000003 [.k [1,4,46,47,48] [10,1012],.m 1012 100018] (.ret (.inl ([x2.1],i1+1)))))))) (.ps 1000003 [.k [1,4] [10,100018]] (.ret (.inr (.inr []))))) (by kernel_rfl)
 | (i_h::i_t,i1)=>aF 1010 (.br 100000049 (.op 100000 (.el TOp.D tA.Ops (.up i1)) (.call [] [] (KI (nth tA.Ops i1)) .no fun x1=>.br 100000054 (.ps 1000003 [.k [2,3] []] (.ret (.inr (.inl ())))) (.call [] [] (J4 (nth tA.Ops i1) (i_h::i_t)) (.yes fun _=>⟨rfl,trivial⟩) fun x2=>.br 100000062 (.ps 1000003 [.k [2,3] []] (.ret (.inr (.inl ())))) (.op 160006 (.ap (cI .i64) (i_h::i_t) [x2.1] 1 fun _=>⟨rfl,rfl⟩) (.ps 1000003 [.k [1,4,46,47,48] [10,1012],.m 1012 100018] (.ret (.inl ((i_h::i_t)++[x2.1],i1+1)))))))) (.ps 1000003 [.k [1,4] [10,100018]] (.ret (.inr (.inr (i_h::i_t)))))) (by kernel_rfl)
def lM (tA:Tape) (i:List Int) (i1:Nat):Option (Unit⊕(List Int)):=aK (fun (σ:List Int×Nat)=>jf tA σ.1 σ.2) FU (i,i1)
theorem AX (tA:Tape) (i:List Int) (i1:Nat):∀y:Unit⊕(List Int),lM tA i i1=some y→Runs Tryz.prog (.loop (nav [1,1,1,1,0,1,0,0] (ah Tryz.f174))) (rF tA i i1) (aH y (fun _=>.ret) (fun _=>(.exit 2))) ((fun (y:Unit⊕(List Int))=>aH y (fun y=>rD tA) (fun y=>rO tA y)) y):=
 aS (head:=fun (σ:List Int×Nat)=>rF tA σ.1 σ.2) (eo:=fun (y:Unit⊕(List Int))=>aH y (fun _=>.ret) (fun _=>(.exit 2))) (so:=fun (y:Unit⊕(List Int))=>aH y (fun y=>rD tA) (fun y=>rO tA y)) (MI tA) (fun y h=>by rcases y with y | y<;>cases h) FU (i,i1)
def qY (tA:Tape) (x2:List Int) (i:Nat):St:=⟨85,0,[(4,SL (cI .i64) x2),(69,SL (cI .i64) tA.aG),(70,I ((tA.aG.length:Nat):Int)),(71,I ((i:Nat):Int))],[]⟩
def ru (tA:Tape) (x2:List Int):St:=⟨85,0,[(2,bZ),(3,B false)],[]⟩
def rJ (tA:Tape) (x2:List Int):St:=⟨85,0,[(4,SL (cI .i64) x2)],[]⟩
def iZ (tA:Tape) (x2:List Int) (i:Nat):Option (Nat⊕(Unit⊕Unit)):=
 bif decide (((i:Nat):Int)<((tA.aG.length:Nat):Int)) then
 bif decide (i<tA.aG.length) then
 bif decide ((nth tA.aG i)<0) then
 some (.inr (.inl ()))
 else
 bif decide ((nth tA.aG i)≥((x2.length:Nat):Int)) then
 some (.inr (.inl ()))
 else
 bif inK .i64 (((i:Nat):Int)+1) then
 some (.inl (i+1))
 else none
 else none
 else
 some (.inr (.inr ()))
theorem Me (tA:Tape) (x2:List Int):∀σ:Nat,aN Tryz.prog (nav [1,1,1,1,1,0,1,0,0] (ah Tryz.f174)) (fun (σ:Nat)=>qY tA x2 σ) (fun (y:Unit⊕Unit)=>aH y (fun _=>.ret) (fun _=>(.exit 4))) (fun (y:Unit⊕Unit)=>aH y (fun y=>ru tA x2) (fun y=>rJ tA x2)) σ (iZ tA x2 σ)
 | i=>aF 1010 (.br 100000072 (.op 200000 (.el (cI .i64) tA.aG (.up i)) (.br 210006 (.ps 1000003 [.k [2,3] []] (.ret (.inr (.inl ())))) (.op 210010 (.ln (cI .i64) x2) (.br 100000082 (.ps 1000003 [.k [2,3] []] (.ret (.inr (.inl ())))) (.ps 1000003 [.k [4,69,70,71] []] (.ret (.inl (i+1)))))))) (.ps 1000003 [.k [4] []] (.ret (.inr (.inr ()))))) (by kernel_rfl)
def lX (tA:Tape) (x2:List Int) (i:Nat):Option (Unit⊕Unit):=aK (fun (σ:Nat)=>iZ tA x2 σ) FU i
theorem AU (tA:Tape) (x2:List Int) (i:Nat):∀y:Unit⊕Unit,lX tA x2 i=some y→Runs Tryz.prog (.loop (nav [1,1,1,1,1,0,1,0,0] (ah Tryz.f174))) (qY tA x2 i) (aH y (fun _=>.ret) (fun _=>(.exit 4))) ((fun (y:Unit⊕Unit)=>aH y (fun y=>ru tA x2) (fun y=>rJ tA x2)) y):=
 aS (head:=fun (σ:Nat)=>qY tA x2 σ) (eo:=fun (y:Unit⊕Unit)=>aH y (fun _=>.ret) (fun _=>(.exit 4))) (so:=fun (y:Unit⊕Unit)=>aH y (fun y=>ru tA x2) (fun y=>rJ tA x2)) (Me tA x2) (fun y h=>by rcases y with y | y<;>cases h) FU i
def BJ (tA:Tape):Option (List Int×Bool):=
 bif decide (tA.Ins<1) then
 some ([],false)
 else
 bif decide (tA.Ins>40) then
 some ([],false)
 else
 bif decide (((tA.aG.length:Nat):Int)<1) then
 some ([],false)
 else
 bif decide (((tA.aG.length:Nat):Int)>40) then
 some ([],false)
 else
 bif decide (((tA.Ops.length:Nat):Int)>400) then
 some ([],false)
 else
 (vU tA [] 0).bind fun x0=>
 bif x0.isEmpty then
 (lM tA [] 0).bind fun y_=>aH y_ (fun x1=>
 some ([],false))
 (fun x2=>
 (lX tA x2 0).bind fun y_=>aH y_ (fun x3=>
 some ([],false))
 (fun x4=>
 some (x2,true)))
 else
 bif !x0.isEmpty then
 (lM tA x0 0).bind fun y_=>aH y_ (fun x1=>
 some ([],false))
 (fun x2=>
 (lX tA x2 0).bind fun y_=>aH y_ (fun x3=>
 some ([],false))
 (fun x4=>
 some (x2,true)))
 else none
theorem Uf (tA:Tape):∀r,BJ tA=some r→aj Tryz.prog 174 0 [AG Tape.D tA] [] (.tup [SL (cI .i64) r.1,B r.2]) []:=
 ak (enc:=fun r=>.tup [SL (cI .i64) r.1,B r.2]) (aP:=fun r=>[]) 10 (.br 10008 (.ps 1000003 [.n 2] (.ret ([],false))) (.br 10018 (.ps 1000003 [.n 2] (.ret ([],false))) (.op 10022 (.ln (cI .i64) tA.aG) (.br 10030 (.ps 1000003 [.n 2] (.ret ([],false))) (.op 10034 (.ln (cI .i64) tA.aG) (.br 10042 (.ps 1000003 [.n 2] (.ret ([],false))) (.op 10046 (.ln TOp.D tA.Ops) (.br 100000036 (.ps 1000003 [.n 2] (.ret ([],false))) (.ps 1000001 [.k [1,4,38,39] [10,100018]] (.lp1 0 (OL tA [] 0) fun x0=>.cl 1 4 100018 1 (cI .i64) x0 (.ps 1 [.k [1,4] [10]] (.op 80004 (.ln TOp.D tA.Ops) (.ps 1000001 [.k [1,4,46,47,48] [10,100018]] (.lp2 0 (AX tA [] 0) (fun x1=>.ps 1000003 [.n 2] (.ret ([],false))) (fun x2=>.oz 5 4 100018 1 (cI .i64) x2 (.ps 5 [.k [1,4] [10]] (.op 180004 (.ln (cI .i64) tA.aG) (.ps 1000001 [.k [4,69,70,71] []] (.lp2 0 (AU tA x2 0) (fun x3=>.ps 1000003 [.n 2] (.ret ([],false))) (fun x4=>.ret (x2,true))))))))))) (.ps 1 [.k [1,4] [10,100018]] (.op 80004 (.ln TOp.D tA.Ops) (.ps 1000001 [.k [1,4,46,47,48] [10,100018]] (.ow 1000001 4 100018 1 (cI .i64) x0 .no (.ps 1000001 [.k [1,4,46,47,48] [10,100018]] (.lp2 0 (AX tA x0 0) (fun x1=>.ps 1000003 [.n 2] (.ret ([],false))) (fun x2=>.oz 5 4 100018 1 (cI .i64) x2 (.ps 5 [.k [1,4] [10]] (.op 180004 (.ln (cI .i64) tA.aG) (.ps 1000001 [.k [4,69,70,71] []] (.lp2 0 (AU tA x2 0) (fun x3=>.ps 1000003 [.n 2] (.ret ([],false))) (fun x4=>.ret (x2,true))))))))))))))))))))))) Tryz.func174 (by kernel_rfl) (by kernel_rfl) (by kernel_rfl)
def Hu (t:Tape):Option Bool:=
 (BJ t).bind fun x0=>
 some x0.2
theorem XO (t:Tape):∀r,Hu t=some r→aj Tryz.prog 120 0 [AG Tape.D t] [] (B r) []:=
 ak (enc:=fun r=>B r) (aP:=fun r=>[]) 10 (.call [] [] (Uf t) .no fun x0=>.ret x0.2) Tryz.func120 (by kernel_rfl) (by kernel_rfl) (by kernel_rfl)
def tJ (x:Rat) (e:Int):Option Rat:=
 bif e != 0 then
 none
 else
 some x
theorem yP (x:Rat) (e:Int):∀r,tJ x e=some r→aj Tryz.prog 255 0 [AG Rat.D x,I e] [] (AG Rat.D r) []:=
 ak (enc:=fun r=>AG Rat.D r) (aP:=fun r=>[]) 10 (.br 100000006 .nil (.ret x)) Tryz.func255 (by kernel_rfl) (by kernel_rfl) (by kernel_rfl)
def sD (o0:List Rat) (tA:TOp):Option Rat:=
 bif tA.Code==2 then
 bif decide (0≤tA.A_) then
 bif decide (tA.A_.toNat<o0.length) then
 bif decide (tA.A_.toNat<o0.length) then
 bif decide (0≤tA.B_) then
 bif decide (tA.B_.toNat<o0.length) then
 bif decide (tA.B_.toNat<o0.length) then
 (qx (nth o0 tA.A_.toNat) (nth o0 tA.B_.toNat)).bind fun x0=>
 some x0
 else none
 else none
 else none
 else none
 else none
 else none
 else
 bif tA.Code==3 then
 bif decide (0≤tA.A_) then
 bif decide (tA.A_.toNat<o0.length) then
 bif decide (tA.A_.toNat<o0.length) then
 bif decide (0≤tA.B_) then
 bif decide (tA.B_.toNat<o0.length) then
 bif decide (tA.B_.toNat<o0.length) then
 (Cj (nth o0 tA.A_.toNat) (nth o0 tA.B_.toNat)).bind fun x0=>
 some x0
 else none
 else none
 else none
 else none
 else none
 else none
 else
 bif tA.Code==4 then
 bif decide (0≤tA.A_) then
 bif decide (tA.A_.toNat<o0.length) then
 bif decide (tA.A_.toNat<o0.length) then
 bif decide (0≤tA.B_) then
 bif decide (tA.B_.toNat<o0.length) then
 bif decide (tA.B_.toNat<o0.length) then
 (nU (nth o0 tA.A_.toNat) (nth o0 tA.B_.toNat)).bind fun x0=>
 some x0
 else none
 else none
 else none
 else none
 else none
 else none
 else
 bif tA.Code==5 then
 bif decide (0≤tA.A_) then
 bif decide (tA.A_.toNat<o0.length) then
 bif decide (tA.A_.toNat<o0.length) then
 bif decide (0≤tA.B_) then
 bif decide (tA.B_.toNat<o0.length) then
 bif decide (tA.B_.toNat<o0.length) then
 (qL (nth o0 tA.A_.toNat) (nth o0 tA.B_.toNat)).bind fun x0=>
 (tJ x0.1 x0.2).bind fun x1=>
 some x1
 else none
 else none
 else none
 else none
 else none
 else none
 else
 bif tA.Code==6 then
 bif decide (0≤tA.A_) then
 bif decide (tA.A_.toNat<o0.length) then
 bif decide (tA.A_.toNat<o0.length) then
 (uP (nth o0 tA.A_.toNat)).bind fun x0=>
 some x0
 else none
 else none
 else none
 else
 bif tA.Code==7 then
 bif decide (0≤tA.A_) then
 bif decide (tA.A_.toNat<o0.length) then
 bif decide (tA.A_.toNat<o0.length) then
 (jA (nth o0 tA.A_.toNat) tA.Exp).bind fun x0=>
 (tJ x0.1 x0.2).bind fun x1=>
 some x1
 else none
 else none
 else none
 else
 (nY tA.Num).bind fun x0=>
 some x0
theorem aaY (o0:List Rat) (tA:TOp):∀r,sD o0 tA=some r→aj Tryz.prog 195 1 [AG TOp.D tA,.msl 0 0 none none] [(0,ROW 3 Rat.D o0 0)] (AG Rat.D r) [(0,ROW 3 Rat.D o0 0)]:=
 ak (enc:=fun r=>AG Rat.D r) (aP:=fun r=>[(0,ROW 3 Rat.D o0 0)]) 10 (.br 100000007 (.op 30006 (.el Rat.D o0 .dn) (.op 30008 (.ld Rat.D o0) (.op 30016 (.el Rat.D o0 .dn) (.op 30018 (.ld Rat.D o0) (.call [] [] (vW (nth o0 tA.A_.toNat) (nth o0 tA.B_.toNat)) .no fun x0=>.ret x0))))) (.br 100000020 (.op 50006 (.el Rat.D o0 .dn) (.op 50008 (.ld Rat.D o0) (.op 50016 (.el Rat.D o0 .dn) (.op 50018 (.ld Rat.D o0) (.call [] [] (O4 (nth o0 tA.A_.toNat) (nth o0 tA.B_.toNat)) .no fun x0=>.ret x0))))) (.br 100000033 (.op 70006 (.el Rat.D o0 .dn) (.op 70008 (.ld Rat.D o0) (.op 70016 (.el Rat.D o0 .dn) (.op 70018 (.ld Rat.D o0) (.call [] [] (qC (nth o0 tA.A_.toNat) (nth o0 tA.B_.toNat)) .no fun x0=>.ret x0))))) (.br 100000046 (.op 90006 (.el Rat.D o0 .dn) (.op 90008 (.ld Rat.D o0) (.op 90016 (.el Rat.D o0 .dn) (.op 90018 (.ld Rat.D o0) (.call [] [] (Bd (nth o0 tA.A_.toNat) (nth o0 tA.B_.toNat)) .no fun x0=>.call [] [] (yP x0.1 x0.2) .no fun x1=>.ret x1))))) (.br 100000062 (.op 110006 (.el Rat.D o0 .dn) (.op 110008 (.ld Rat.D o0) (.call [] [] (BQ (nth o0 tA.A_.toNat)) .no fun x0=>.ret x0))) (.br 100000070 (.op 130006 (.el Rat.D o0 .dn) (.op 130008 (.ld Rat.D o0) (.call [] [] (BF (nth o0 tA.A_.toNat) tA.Exp) .no fun x0=>.call [] [] (yP x0.1 x0.2) .no fun x1=>.ret x1))) (.call [] [] (kL tA.Num) .no fun x0=>.ret x0))))))) Tryz.func195 (by kernel_rfl) (by kernel_rfl) (by kernel_rfl)
def ab8 (tA:TOp):Option Rat:=
 bif tA.Code==2 then
 bif decide (0≤tA.A_) then
 bif decide (tA.A_.toNat<([]:List Rat).length) then
 bif decide (0≤tA.B_) then
 bif decide (tA.B_.toNat<([]:List Rat).length) then
 (qx (nth ([]:List Rat) tA.A_.toNat) (nth ([]:List Rat) tA.B_.toNat)).bind fun x0=>
 some x0
 else none
 else none
 else none
 else none
 else
 bif tA.Code==3 then
 bif decide (0≤tA.A_) then
 bif decide (tA.A_.toNat<([]:List Rat).length) then
 bif decide (0≤tA.B_) then
 bif decide (tA.B_.toNat<([]:List Rat).length) then
 (Cj (nth ([]:List Rat) tA.A_.toNat) (nth ([]:List Rat) tA.B_.toNat)).bind fun x0=>
 some x0
 else none
 else none
 else none
 else none
 else
 bif tA.Code==4 then
 bif decide (0≤tA.A_) then
 bif decide (tA.A_.toNat<([]:List Rat).length) then
 bif decide (0≤tA.B_) then
 bif decide (tA.B_.toNat<([]:List Rat).length) then
 (nU (nth ([]:List Rat) tA.A_.toNat) (nth ([]:List Rat) tA.B_.toNat)).bind fun x0=>
 some x0
 else none
 else none
 else none
 else none
 else
 bif tA.Code==5 then
 bif decide (0≤tA.A_) then
 bif decide (tA.A_.toNat<([]:List Rat).length) then
 bif decide (0≤tA.B_) then
 bif decide (tA.B_.toNat<([]:List Rat).length) then
 (qL (nth ([]:List Rat) tA.A_.toNat) (nth ([]:List Rat) tA.B_.toNat)).bind fun x0=>
 (tJ x0.1 x0.2).bind fun x1=>
 some x1
 else none
 else none
 else none
 else none
 else
 bif tA.Code==6 then
 bif decide (0≤tA.A_) then
 bif decide (tA.A_.toNat<([]:List Rat).length) then
 (uP (nth ([]:List Rat) tA.A_.toNat)).bind fun x0=>
 some x0
 else none
 else none
 else
 bif tA.Code==7 then
 bif decide (0≤tA.A_) then
 bif decide (tA.A_.toNat<([]:List Rat).length) then
 (jA (nth ([]:List Rat) tA.A_.toNat) tA.Exp).bind fun x0=>
 (tJ x0.1 x0.2).bind fun x1=>
 some x1
 else none
 else none
 else
 (nY tA.Num).bind fun x0=>
 some x0
theorem Xx (tA:TOp):∀r,ab8 tA=some r→aj Tryz.prog 195 0 [AG TOp.D tA,SL Rat.D ([]:List Rat)] [] (AG Rat.D r) []:=
 ak (enc:=fun r=>AG Rat.D r) (aP:=fun r=>[]) 10 (.br 100000007 (.op 30006 (.el Rat.D ([]:List Rat) .dn) (.op 30016 (.el Rat.D ([]:List Rat) .dn) (.call [] [] (vW (nth ([]:List Rat) tA.A_.toNat) (nth ([]:List Rat) tA.B_.toNat)) .no fun x0=>.ret x0))) (.br 100000020 (.op 50006 (.el Rat.D ([]:List Rat) .dn) (.op 50016 (.el Rat.D ([]:List Rat) .dn) (.call [] [] (O4 (nth ([]:List Rat) tA.A_.toNat) (nth ([]:List Rat) tA.B_.toNat)) .no fun x0=>.ret x0))) (.br 100000033 (.op 70006 (.el Rat.D ([]:List Rat) .dn) (.op 70016 (.el Rat.D ([]:List Rat) .dn) (.call [] [] (qC (nth ([]:List Rat) tA.A_.toNat) (nth ([]:List Rat) tA.B_.toNat)) .no fun x0=>.ret x0))) (.br 100000046 (.op 90006 (.el Rat.D ([]:List Rat) .dn) (.op 90016 (.el Rat.D ([]:List Rat) .dn) (.call [] [] (Bd (nth ([]:List Rat) tA.A_.toNat) (nth ([]:List Rat) tA.B_.toNat)) .no fun x0=>.call [] [] (yP x0.1 x0.2) .no fun x1=>.ret x1))) (.br 100000062 (.op 110006 (.el Rat.D ([]:List Rat) .dn) (.call [] [] (BQ (nth ([]:List Rat) tA.A_.toNat)) .no fun x0=>.ret x0)) (.br 100000070 (.op 130006 (.el Rat.D ([]:List Rat) .dn) (.call [] [] (BF (nth ([]:List Rat) tA.A_.toNat) tA.Exp) .no fun x0=>.call [] [] (yP x0.1 x0.2) .no fun x1=>.ret x1)) (.call [] [] (kL tA.Num) .no fun x0=>.ret x0))))))) Tryz.func195 (by kernel_rfl) (by kernel_rfl) (by kernel_rfl)
end Go.Ab.M
