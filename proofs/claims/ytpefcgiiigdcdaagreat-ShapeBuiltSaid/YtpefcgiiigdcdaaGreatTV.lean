import Derived.Test.YtpefcgiiigdcdaaGreatTF
import Derived.Test.YtpefcgiiigdcdaaGreatCV
namespace Go.Ab.M
open Go.Proofs
set_option linter.unusedVariables false
set_option maxRecDepth 100000
structure TOp where
 Code:Int
 A_:Int
 B_:Int
 Exp:Int
 Num:Rat
 deriving DecidableEq,Inhabited
abbrev TOp.D (x:TOp):List D:=[.v (.int .i64 x.Code)]++[.v (.int .i64 x.A_)]++[.v (.int .i64 x.B_)]++[.v (.int .i64 x.Exp)]++Rat.D x.Num
structure Tape where
 Ins:Int
 Ops:List TOp
 aH:List Int
 deriving DecidableEq,Inhabited
abbrev Tape.D (x:Tape):List D:=[.v (.int .i64 x.Ins),.sl (x.Ops.map TOp.D),.sl (x.aH.map (cI .i64))]
def uT (tA:Tape) (i:List Int) (i1:Nat):St:=⟨85,0,[(1,.ptr 10 0 0),(4,bZ 100018 i),(38,I tA.Ins),(39,I ((i1:Nat):Int))],[(10,BOX [I tA.Ins,SL TOp.D tA.Ops,SL (cI .i64) tA.aH]),(100018,dG 1 (cI .i64) i)]⟩
def vO (tA:Tape) (i:List Int):St:=⟨85,0,[(1,.ptr 10 0 0),(4,bZ 100018 i)],[(10,BOX [I tA.Ins,SL TOp.D tA.Ops,SL (cI .i64) tA.aH]),(100018,dG 1 (cI .i64) i)]⟩
def lH (tA:Tape) (i:List Int) (i1:Nat):Option ((List Int×Nat)⊕(List Int)):=
 bif decide (((i1:Nat):Int)<tA.Ins) then
 bif decide (i.length+1≤2147483648) then
 bif inK .i64 (((i1:Nat):Int)+1) then
 some (.inl (i++[1],i1+1))
 else none
 else none
 else
 some (.inr i)
theorem Oz (tA:Tape):∀σ:List Int×Nat,aJ Tryz.prog (nav [1,1,1,0,1,0,0] (ah Tryz.f136)) (fun (σ:List Int×Nat)=>uT tA σ.1 σ.2) (fun (_:List Int)=>(.exit 0)) (fun (y:List Int)=>vO tA y) σ (lH tA σ.1 σ.2)
 | ([],i1)=>aB 1010 (.br 100000040 (.op 60004 (.ap (cI .i64) [] [1] 1 fun _=>⟨rfl,rfl⟩) (.ps 1000003 [.k [1,4,38,39] [10,1011],.m 1011 100018] (.ret (.inl ([1],i1+1))))) (.ps 1000003 [.k [1,4] [10,100018]] (.ret (.inr [])))) (by kernel_rfl)
 | (i_h::i_t,i1)=>aB 1010 (.br 100000040 (.op 60004 (.ap (cI .i64) (i_h::i_t) [1] 1 fun _=>⟨rfl,rfl⟩) (.ps 1000003 [.k [1,4,38,39] [10,1011],.m 1011 100018] (.ret (.inl ((i_h::i_t)++[1],i1+1))))) (.ps 1000003 [.k [1,4] [10,100018]] (.ret (.inr (i_h::i_t))))) (by kernel_rfl)
def vT (tA:Tape) (i:List Int) (i1:Nat):Option (List Int):=aK (fun (σ:List Int×Nat)=>lH tA σ.1 σ.2) FU (i,i1)
theorem OW (tA:Tape) (i:List Int) (i1:Nat):∀y:List Int,vT tA i i1=some y→Runs Tryz.prog (.loop (nav [1,1,1,0,1,0,0] (ah Tryz.f136))) (uT tA i i1) ((.exit 0)) ((fun (y:List Int)=>vO tA y) y):=
 aU (head:=fun (σ:List Int×Nat)=>uT tA σ.1 σ.2) (eo:=fun (_:List Int)=>(.exit 0)) (so:=fun (y:List Int)=>vO tA y) (Oz tA) (fun _ h=>by cases h) FU (i,i1)
def XJ:ByteArray:=⟨#[]⟩
def AL (a1:List Int) (out:List Int):St:=⟨32,0,[(0,SL (cI .u32) a1),(3,bZ 100019 out)],[(100019,dG 1 (cI .u8) out)]⟩
def zQ (out:List Int):St:=⟨32,0,[(3,bZ 100019 out)],[(100019,dG 1 (cI .u8) out)]⟩
def cO (a1:List Int) (out:List Int):Option ((List Int×List Int)⊕(List Int)):=
 (lC a1).bind fun x0=>
 bif decide (x0>0) then
 (nH a1 10).bind fun x1=>
 bif decide (out.length+1≤2147483648) then
 some (.inl (x1.1,out++[IntKind.wrap .u8 (IntKind.wrap .u32 (48+x1.2.1))]))
 else none
 else
 bif ((out.length:Nat):Int)==0 then
 (nH a1 10).bind fun x1=>
 bif decide (out.length+1≤2147483648) then
 some (.inl (x1.1,out++[IntKind.wrap .u8 (IntKind.wrap .u32 (48+x1.2.1))]))
 else none
 else
 some (.inr out)
theorem SN:∀σ:List Int×List Int,aJ Tryz.prog (nav [1,1,0,0,0] (ah Tryz.f252)) (fun (σ:List Int×List Int)=>AL σ.1 σ.2) (fun (_:List Int)=>(.exit 0)) (fun (y:List Int)=>zQ y) σ (cO σ.1 σ.2)
 | (a1,[])=>aB 1010 (.call [] [] (uh a1) .no fun x0=>.br 20008 (.call [] [] (pG a1 10) .no fun x1=>.op 40006 .wr (.op 40010 (.ap (cI .u8) [] [IntKind.wrap .u8 (IntKind.wrap .u32 (48+x1.2.1))] 1 fun _=>⟨rfl,rfl⟩) (.ps 1000003 [.k [0,3] [1011],.m 1011 100019] (.ret (.inl (x1.1,[IntKind.wrap .u8 (IntKind.wrap .u32 (48+x1.2.1))])))))) (.call [] [] (pG a1 10) .no fun x1=>.op 40006 .wr (.op 40010 (.ap (cI .u8) [] [IntKind.wrap .u8 (IntKind.wrap .u32 (48+x1.2.1))] 1 fun _=>⟨rfl,rfl⟩) (.ps 1000003 [.k [0,3] [1011],.m 1011 100019] (.ret (.inl (x1.1,[IntKind.wrap .u8 (IntKind.wrap .u32 (48+x1.2.1))]))))))) (by kernel_rfl)
 | (a1,dK::dM)=>aB 1010 (.call [] [] (uh a1) .no fun x0=>.br 20008 (.call [] [] (pG a1 10) .no fun x1=>.op 40006 .wr (.op 40010 (.ap (cI .u8) (dK::dM) [IntKind.wrap .u8 (IntKind.wrap .u32 (48+x1.2.1))] 1 fun _=>⟨rfl,rfl⟩) (.ps 1000003 [.k [0,3] [1011],.m 1011 100019] (.ret (.inl (x1.1,(dK::dM)++[IntKind.wrap .u8 (IntKind.wrap .u32 (48+x1.2.1))])))))) (.op 20010 (.ln (cI .u8) (dK::dM)) (.br 100000014 (.call [] [] (pG a1 10) .no fun x1=>.op 40006 .wr (.op 40010 (.ap (cI .u8) (dK::dM) [IntKind.wrap .u8 (IntKind.wrap .u32 (48+x1.2.1))] 1 fun _=>⟨rfl,rfl⟩) (.ps 1000003 [.k [0,3] [1011],.m 1011 100019] (.ret (.inl (x1.1,(dK::dM)++[IntKind.wrap .u8 (IntKind.wrap .u32 (48+x1.2.1))])))))) (.ps 1000003 [.k [3] [100019]] (.ret (.inr (dK::dM))))))) (by kernel_rfl)
def Hr (a1:List Int) (out:List Int):Option (List Int):=aK (fun (σ:List Int×List Int)=>cO σ.1 σ.2) FU (a1,out)
theorem Ug (a1:List Int) (out:List Int):∀y:List Int,Hr a1 out=some y→Runs Tryz.prog (.loop (nav [1,1,0,0,0] (ah Tryz.f252))) (AL a1 out) ((.exit 0)) ((fun (y:List Int)=>zQ y) y):=
 aU (head:=fun (σ:List Int×List Int)=>AL σ.1 σ.2) (eo:=fun (_:List Int)=>(.exit 0)) (so:=fun (y:List Int)=>zQ y) (SN) (fun _ h=>by cases h) FU (a1,out)
def iU:St:=⟨28,0,[(0,SL (cI .u8) ([]:List Int)),(2,I 0),(3,I (((([]:List Int).length:Nat):Int)-1))],[]⟩
def iZ:St:=⟨28,0,[],[]⟩
def nI:Option (Unit⊕Unit):=
 bif decide (0<(((([]:List Int).length:Nat):Int)-1)) then
 bif decide (0≤((([]:List Int).length:Nat):Int)-1) then
 bif decide ((((([]:List Int).length:Nat):Int)-1).toNat<([]:List Int).length) then
 bif decide (0<([]:List Int).length) then
 bif decide (0<([]:List Int).length) then
 none
 else none
 else none
 else none
 else none
 else
 some (.inr ())
theorem zu:∀σ:Unit,aJ Tryz.prog (nav [1,0,0] (ah Tryz.f267)) (fun (σ:Unit)=>iU) (fun (_:Unit)=>(.exit 0)) (fun (y:Unit)=>iZ) σ (nI)
 | ()=>aB 1010 (.br 100000009 (.op 30012 (.el (cI .u8) ([]:List Int) .dn) (.op 30020 (.el (cI .u8) ([]:List Int) (.up 0)) (.op 30024 (.el (cI .u8) ([]:List Int) (.up 0)) .nil))) (.ps 1000003 [.k [] []] (.ret (.inr ())))) (by kernel_rfl)
def qj:Option Unit:=aK (fun (σ:Unit)=>nI) FU ()
theorem yU:∀y:Unit,qj=some y→Runs Tryz.prog (.loop (nav [1,0,0] (ah Tryz.f267))) (iU) ((.exit 0)) ((fun (y:Unit)=>iZ) y):=
 aU (head:=fun (σ:Unit)=>iU) (eo:=fun (_:Unit)=>(.exit 0)) (so:=fun (y:Unit)=>iZ) (zu) (fun _ h=>by cases h) FU ()
def rZ:Option Unit:=
 bif inK .i64 (((([]:List Int).length:Nat):Int)-1) then
 (qj).bind fun x0=>
 some ()
 else none
theorem Bv:∀r,rZ=some r→aj Tryz.prog 267 0 [SL (cI .u8) ([]:List Int)] [] (.tup []) []:=
 ak (enc:=fun r=>.tup []) (aP:=fun r=>[]) 10 (.op 2 (.ln (cI .u8) ([]:List Int)) (.ps 1000001 [.k [0,2,3] []] (.lp1 0 (yU) fun x0=>.ret ()))) Tryz.func267 (by kernel_rfl) (by kernel_rfl) (by kernel_rfl)
def iD (i:Nat) (j:Int) (s:List Int):St:=⟨28,1,[(0,.msl 0 0 none none),(2,I ((i:Nat):Int)),(3,I j)],[(0,ROW 1 (cI .u8) s 0)]⟩
def iE (o:List Int):St:=⟨28,1,[],[(0,ROW 1 (cI .u8) o 0)]⟩
def dF (i:Nat) (j:Int) (s:List Int):Option ((Nat×Int×List Int)⊕(List Int)):=
 bif decide (((i:Nat):Int)<j) then
 bif decide (0≤j) then
 bif decide (j.toNat<s.length) then
 bif decide (j.toNat<s.length) then
 bif decide (i<s.length) then
 bif decide (i<s.length) then
 bif decide (i<s.length) then
 bif decide (i<s.length) then
 bif decide (0≤j) then
 bif decide (j.toNat<(s.set i (nth s j.toNat)).length) then
 bif decide (j.toNat<(s.set i (nth s j.toNat)).length) then
 bif inK .i64 (((i:Nat):Int)+1) then
 bif inK .i64 (j-1) then
 some (.inl (i+1,j-1,(s.set i (nth s j.toNat)).set j.toNat (nth s i)))
 else none
 else none
 else none
 else none
 else none
 else none
 else none
 else none
 else none
 else none
 else none
 else none
 else
 some (.inr s)
theorem wI:∀σ:Nat×Int×List Int,aJ Tryz.prog (nav [1,0,0] (ah Tryz.f267)) (fun (σ:Nat×Int×List Int)=>iD σ.1 σ.2.1 σ.2.2) (fun (_:List Int)=>(.exit 0)) (fun (y:List Int)=>iE y) σ (dF σ.1 σ.2.1 σ.2.2)
 | (i,j,s)=>aB 1010 (.br 100000009 (.op 30012 (.el (cI .u8) s .dn) (.op 30014 (.ld (cI .u8) s) (.op 30020 (.el (cI .u8) s (.up i)) (.op 30022 (.ld (cI .u8) s) (.op 30024 (.el (cI .u8) s (.up i)) (.op 30026 (.st (cI .u8) s (nth s j.toNat)) (.op 30028 (.el (cI .u8) (s.set i (nth s j.toNat)) .dn) (.op 30030 (.st (cI .u8) (s.set i (nth s j.toNat)) (nth s i)) (.ps 1000003 [.k [0,2,3] [0]] (.ret (.inl (i+1,j-1,(s.set i (nth s j.toNat)).set j.toNat (nth s i))))))))))))) (.ps 1000003 [.k [] [0]] (.ret (.inr s)))) (by kernel_rfl)
def gI (i:Nat) (j:Int) (s:List Int):Option (List Int):=aK (fun (σ:Nat×Int×List Int)=>dF σ.1 σ.2.1 σ.2.2) FU (i,j,s)
theorem wH (i:Nat) (j:Int) (s:List Int):∀y:List Int,gI i j s=some y→Runs Tryz.prog (.loop (nav [1,0,0] (ah Tryz.f267))) (iD i j s) ((.exit 0)) ((fun (y:List Int)=>iE y) y):=
 aU (head:=fun (σ:Nat×Int×List Int)=>iD σ.1 σ.2.1 σ.2.2) (eo:=fun (_:List Int)=>(.exit 0)) (so:=fun (y:List Int)=>iE y) (wI) (fun _ h=>by cases h) FU (i,j,s)
def ig (o0:List Int):Option (List Int):=
 bif inK .i64 (((o0.length:Nat):Int)-1) then
 (gI 0 (((o0.length:Nat):Int)-1) o0).bind fun x0=>
 some x0
 else none
theorem yQ (o0:List Int):∀r,ig o0=some r→aj Tryz.prog 267 1 [.msl 0 0 none none] [(0,ROW 1 (cI .u8) o0 0)] (.tup []) [(0,ROW 1 (cI .u8) r 0)]:=
 ak (enc:=fun r=>.tup []) (aP:=fun r=>[(0,ROW 1 (cI .u8) r 0)]) 10 (.op 2 (.ln (cI .u8) o0) (.ps 1000001 [.k [0,2,3] [0]] (.lp1 0 (wH 0 (((o0.length:Nat):Int)-1) o0) fun x0=>.ret x0))) Tryz.func267 (by kernel_rfl) (by kernel_rfl) (by kernel_rfl)
def NH (a:List Int):Option ByteArray:=
 (Hr a []).bind fun x0=>
 bif x0.isEmpty then
 (rZ).bind fun x1=>
 some (strOfNums ([]:List Int))
 else
 (ig x0).bind fun x1=>
 some (strOfNums x1)
theorem Xi (a:List Int):∀r,NH a=some r→aj Tryz.prog 252 0 [SL (cI .u32) a] [] (SX r) []:=
 ak (enc:=fun r=>SX r) (aP:=fun r=>[]) 10 (.ps 1000001 [.k [0,3] [100019]] (.lp1 0 (Ug a []) fun x0=>.cl 1 3 100019 1 (cI .u8) x0 (.ps 1 [.k [3] []] (.call [] [] (Bv) .no fun x1=>.ps 12 [.n 3] (.op 70002 (.bs ([]:List Int)) (.ret (strOfNums ([]:List Int)))))) (.ps 1 [.k [3] [100019]] (.call [100019] [] (yQ x0) .no fun x1=>.op 70002 (.bs x1) (.ret (strOfNums x1)))))) Tryz.func252 (by kernel_rfl) (by kernel_rfl) (by kernel_rfl)
def pz (a:List Int):Option Int:=
 (NH a).bind fun x0=>
 some ((x0.size:Nat):Int)
theorem J8 (a:List Int):∀r,pz a=some r→aj Tryz.prog 215 0 [SL (cI .u32) a] [] (I r) []:=
 ak (enc:=fun r=>I r) (aP:=fun r=>[]) 10 (.call [] [] (Xi a) .no fun x0=>.ret ((x0.size:Nat):Int)) Tryz.func215 (by kernel_rfl) (by kernel_rfl) (by kernel_rfl)
def yO (x:Rat):Option Bool:=
 (uK x).bind fun x0=>
 bif x0 then
 (pz x.Num).bind fun x1=>
 bif decide (x1≤40) then
 (pz x.Den).bind fun x2=>
 some (decide (x2≤40))
 else
 some false
 else
 some false
theorem QJ (x:Rat):∀r,yO x=some r→aj Tryz.prog 237 0 [AG Rat.D x] [] (B r) []:=
 ak (enc:=fun r=>B r) (aP:=fun r=>[]) 10 (.call [] [] (KO x) .no fun x0=>.br 10006 (.call [] [] (J8 x.Num) .no fun x1=>.br 10018 (.call [] [] (J8 x.Den) .no fun x2=>.ret (decide (x2≤40))) (.ret false)) (.ret false)) Tryz.func237 (by kernel_rfl) (by kernel_rfl) (by kernel_rfl)
def pY (x:Rat):Option Bool:=
 bif !x.Neg then
 bif ((x.Num.length:Nat):Int)==0 then
 some (((x.Den.length:Nat):Int)==0)
 else
 some false
 else
 some false
theorem lQ (x:Rat):∀r,pY x=some r→aj Tryz.prog 238 0 [AG Rat.D x] [] (B r) []:=
 ak (enc:=fun r=>B r) (aP:=fun r=>[]) 10 (.br 10008 (.op 10012 (.ln (cI .u32) x.Num) (.br 10020 (.op 10024 (.ln (cI .u32) x.Den) (.ret (((x.Den.length:Nat):Int)==0))) (.ret false))) (.ret false)) Tryz.func238 (by kernel_rfl) (by kernel_rfl) (by kernel_rfl)
def zB (o:TOp):Option Bool:=
 bif o.Code==1 then
 (yO o.Num).bind fun x0=>
 bif !x0 then
 some false
 else
 bif o.A_ != 0 then
 some false
 else
 bif o.B_ != 0 then
 some false
 else
 bif o.Exp != 0 then
 some false
 else
 (pY (Rat.mk false [] [])).bind fun x1=>
 bif x1 then
 bif decide (o.Exp≥(-20)) then
 bif decide (o.Exp≤20) then
 bif o.Code != 7 then
 some true
 else
 some (o.B_==0)
 else
 some false
 else
 some false
 else
 some false
 else
 bif o.Code==6 then
 bif o.B_ != 0 then
 some false
 else
 bif o.Exp != 0 then
 some false
 else
 (pY o.Num).bind fun x0=>
 bif x0 then
 bif decide (o.Exp≥(-20)) then
 bif decide (o.Exp≤20) then
 bif o.Code != 7 then
 some true
 else
 some (o.B_==0)
 else
 some false
 else
 some false
 else
 some false
 else
 bif o.Code==2 then
 bif o.Exp != 0 then
 some false
 else
 (pY o.Num).bind fun x0=>
 bif x0 then
 bif decide (o.Exp≥(-20)) then
 bif decide (o.Exp≤20) then
 bif o.Code != 7 then
 some true
 else
 some (o.B_==0)
 else
 some false
 else
 some false
 else
 some false
 else
 bif o.Code==3 then
 bif o.Exp != 0 then
 some false
 else
 (pY o.Num).bind fun x0=>
 bif x0 then
 bif decide (o.Exp≥(-20)) then
 bif decide (o.Exp≤20) then
 bif o.Code != 7 then
 some true
 else
 some (o.B_==0)
 else
 some false
 else
 some false
 else
 some false
 else
 bif o.Code==4 then
 bif o.Exp != 0 then
 some false
 else
 (pY o.Num).bind fun x0=>
 bif x0 then
 bif decide (o.Exp≥(-20)) then
 bif decide (o.Exp≤20) then
 bif o.Code != 7 then
 some true
 else
 some (o.B_==0)
 else
 some false
 else
 some false
 else
 some false
 else
 bif o.Code==5 then
 bif o.Exp != 0 then
 some false
 else
 (pY o.Num).bind fun x0=>
 bif x0 then
 bif decide (o.Exp≥(-20)) then
 bif decide (o.Exp≤20) then
 bif o.Code != 7 then
 some true
 else
 some (o.B_==0)
 else
 some false
 else
 some false
 else
 some false
 else
 bif o.Code==7 then
 (pY o.Num).bind fun x0=>
 bif x0 then
 bif decide (o.Exp≥(-20)) then
 bif decide (o.Exp≤20) then
 bif o.Code != 7 then
 some true
 else
 some (o.B_==0)
 else
 some false
 else
 some false
 else
 some false
 else
 some false
theorem JK (o:TOp):∀r,zB o=some r→aj Tryz.prog 186 0 [AG TOp.D o] [] (B r) []:=
 ak (enc:=fun r=>B r) (aP:=fun r=>[]) 10 (.br 100000005 (.call [] [] (QJ o.Num) .no fun x0=>.br 90010 (.ret false) (.br 100000024 (.ret false) (.br 100000029 (.ret false) (.br 100000032 (.ret false) (.call [] [] (lQ (Rat.mk false [] [])) .no fun x1=>.br 160008 (.br 160018 (.br 160028 (.br 160036 (.ret true) (.ret (o.B_==0))) (.ret false)) (.ret false)) (.ret false)))))) (.br 100000007 (.br 100000029 (.ret false) (.br 100000032 (.ret false) (.call [] [] (lQ o.Num) .no fun x0=>.br 160008 (.br 160018 (.br 160028 (.br 160036 (.ret true) (.ret (o.B_==0))) (.ret false)) (.ret false)) (.ret false)))) (.br 100000009 (.br 100000032 (.ret false) (.call [] [] (lQ o.Num) .no fun x0=>.br 160008 (.br 160018 (.br 160028 (.br 160036 (.ret true) (.ret (o.B_==0))) (.ret false)) (.ret false)) (.ret false))) (.br 100000009 (.br 100000032 (.ret false) (.call [] [] (lQ o.Num) .no fun x0=>.br 160008 (.br 160018 (.br 160028 (.br 160036 (.ret true) (.ret (o.B_==0))) (.ret false)) (.ret false)) (.ret false))) (.br 100000009 (.br 100000032 (.ret false) (.call [] [] (lQ o.Num) .no fun x0=>.br 160008 (.br 160018 (.br 160028 (.br 160036 (.ret true) (.ret (o.B_==0))) (.ret false)) (.ret false)) (.ret false))) (.br 100000009 (.br 100000032 (.ret false) (.call [] [] (lQ o.Num) .no fun x0=>.br 160008 (.br 160018 (.br 160028 (.br 160036 (.ret true) (.ret (o.B_==0))) (.ret false)) (.ret false)) (.ret false))) (.br 100000014 (.call [] [] (lQ o.Num) .no fun x0=>.br 160008 (.br 160018 (.br 160028 (.br 160036 (.ret true) (.ret (o.B_==0))) (.ret false)) (.ret false)) (.ret false)) (.ret false)))))))) Tryz.func186 (by kernel_rfl) (by kernel_rfl) (by kernel_rfl)
def OL (n:Int):Option Int:=
 bif inK .i64 (0-n) then
 some (mxI n (0-n))
 else none
theorem aaH (n:Int):∀r,OL n=some r→aj Tryz.prog 239 0 [I n] [] (I r) []:=
 ak (enc:=fun r=>I r) (aP:=fun r=>[]) 10 (.ret (mxI n (0-n))) Tryz.func239 (by kernel_rfl) (by kernel_rfl) (by kernel_rfl)
def uo (o:TOp) (w:List Int):Option (Int×Bool):=
 bif o.Code==1 then
 some (1,true)
 else
 bif decide (o.A_<0) then
 some (0,false)
 else
 bif decide (o.A_≥((w.length:Nat):Int)) then
 some (0,false)
 else
 bif decide (o.B_<0) then
 some (0,false)
 else
 bif decide (o.B_≥((w.length:Nat):Int)) then
 some (0,false)
 else
 bif decide (0≤o.A_) then
 bif decide (o.A_.toNat<w.length) then
 bif o.Code==2 then
 bif decide (0≤o.B_) then
 bif decide (o.B_.toNat<w.length) then
 bif inK .i64 ((nth w o.A_.toNat)+(nth w o.B_.toNat)) then
 some ((nth w o.A_.toNat)+(nth w o.B_.toNat),decide (((nth w o.A_.toNat)+(nth w o.B_.toNat))≤200))
 else none
 else none
 else none
 else
 bif o.Code==3 then
 bif decide (0≤o.B_) then
 bif decide (o.B_.toNat<w.length) then
 bif inK .i64 ((nth w o.A_.toNat)+(nth w o.B_.toNat)) then
 some ((nth w o.A_.toNat)+(nth w o.B_.toNat),decide (((nth w o.A_.toNat)+(nth w o.B_.toNat))≤200))
 else none
 else none
 else none
 else
 bif o.Code==4 then
 bif decide (0≤o.B_) then
 bif decide (o.B_.toNat<w.length) then
 bif inK .i64 ((nth w o.A_.toNat)+(nth w o.B_.toNat)) then
 some ((nth w o.A_.toNat)+(nth w o.B_.toNat),decide (((nth w o.A_.toNat)+(nth w o.B_.toNat))≤200))
 else none
 else none
 else none
 else
 bif o.Code==5 then
 bif decide (0≤o.B_) then
 bif decide (o.B_.toNat<w.length) then
 bif inK .i64 ((nth w o.A_.toNat)+(nth w o.B_.toNat)) then
 some ((nth w o.A_.toNat)+(nth w o.B_.toNat),decide (((nth w o.A_.toNat)+(nth w o.B_.toNat))≤200))
 else none
 else none
 else none
 else
 bif o.Code==7 then
 (OL o.Exp).bind fun x0=>
 bif inK .i64 ((nth w o.A_.toNat)*(mxI 1 x0)) then
 some ((nth w o.A_.toNat)*(mxI 1 x0),decide (((nth w o.A_.toNat)*(mxI 1 x0))≤200))
 else none
 else
 some (nth w o.A_.toNat,decide ((nth w o.A_.toNat)≤200))
 else none
 else none
theorem Jo (o:TOp) (w:List Int):∀r,uo o w=some r→aj Tryz.prog 187 0 [AG TOp.D o,SL (cI .i64) w] [] (.tup [I r.1,B r.2]) []:=
 ak (enc:=fun r=>.tup [I r.1,B r.2]) (aP:=fun r=>[]) 10 (.br 100000009 (.ret (1,true)) (.br 30008 (.ret (0,false)) (.op 30014 (.ln (cI .i64) w) (.br 30022 (.ret (0,false)) (.br 30032 (.ret (0,false)) (.op 30038 (.ln (cI .i64) w) (.br 100000031 (.ret (0,false)) (.op 50006 (.el (cI .i64) w .dn) (.br 100000039 (.op 110008 (.el (cI .i64) w .dn) (.ret ((nth w o.A_.toNat)+(nth w o.B_.toNat),decide (((nth w o.A_.toNat)+(nth w o.B_.toNat))≤200)))) (.br 100000039 (.op 110008 (.el (cI .i64) w .dn) (.ret ((nth w o.A_.toNat)+(nth w o.B_.toNat),decide (((nth w o.A_.toNat)+(nth w o.B_.toNat))≤200)))) (.br 100000039 (.op 110008 (.el (cI .i64) w .dn) (.ret ((nth w o.A_.toNat)+(nth w o.B_.toNat),decide (((nth w o.A_.toNat)+(nth w o.B_.toNat))≤200)))) (.br 100000039 (.op 110008 (.el (cI .i64) w .dn) (.ret ((nth w o.A_.toNat)+(nth w o.B_.toNat),decide (((nth w o.A_.toNat)+(nth w o.B_.toNat))≤200)))) (.br 100000051 (.call [] [] (aaH o.Exp) .no fun x0=>.ret ((nth w o.A_.toNat)*(mxI 1 x0),decide (((nth w o.A_.toNat)*(mxI 1 x0))≤200))) (.ret (nth w o.A_.toNat,decide ((nth w o.A_.toNat)≤200)))))))))))))))) Tryz.func187 (by kernel_rfl) (by kernel_rfl) (by kernel_rfl)
def rJ (tA:Tape) (i:List Int) (i1:Nat):St:=⟨85,0,[(1,.ptr 10 0 0),(4,bZ 100018 i),(46,SL TOp.D tA.Ops),(47,I ((tA.Ops.length:Nat):Int)),(48,I ((i1:Nat):Int))],[(10,BOX [I tA.Ins,SL TOp.D tA.Ops,SL (cI .i64) tA.aH]),(100018,dG 1 (cI .i64) i)]⟩
def rM (tA:Tape):St:=⟨85,0,[(2,gq),(3,B false)],[]⟩
def rQ (tA:Tape) (i:List Int):St:=⟨85,0,[(1,.ptr 10 0 0),(4,bZ 100018 i)],[(10,BOX [I tA.Ins,SL TOp.D tA.Ops,SL (cI .i64) tA.aH]),(100018,dG 1 (cI .i64) i)]⟩
def jw (tA:Tape) (i:List Int) (i1:Nat):Option ((List Int×Nat)⊕(Unit⊕(List Int))):=
 bif decide (((i1:Nat):Int)<((tA.Ops.length:Nat):Int)) then
 bif decide (i1<tA.Ops.length) then
 (zB (nth tA.Ops i1)).bind fun x1=>
 bif !x1 then
 some (.inr (.inl ()))
 else
 (uo (nth tA.Ops i1) i).bind fun x2=>
 bif !x2.2 then
 some (.inr (.inl ()))
 else
 bif decide (i.length+1≤2147483648) then
 bif inK .i64 (((i1:Nat):Int)+1) then
 some (.inl (i++[x2.1],i1+1))
 else none
 else none
 else none
 else
 some (.inr (.inr i))
theorem L6 (tA:Tape):∀σ:List Int×Nat,aJ Tryz.prog (nav [1,1,1,1,0,1,0,0] (ah Tryz.f136)) (fun (σ:List Int×Nat)=>rJ tA σ.1 σ.2) (fun (y:Unit⊕(List Int))=>aN y (fun _=>.ret) (fun _=>(.exit 2))) (fun (y:Unit⊕(List Int))=>aN y (fun y=>rM tA) (fun y=>rQ tA y)) σ (jw tA σ.1 σ.2)
 | ([],i1)=>aB 1010 (.br 100000049 (.op 100000 (.el TOp.D tA.Ops (.up i1)) (.call [] [] (JK (nth tA.Ops i1)) .no fun x1=>.br 100000054 (.ps 1000003 [.k [2,3] []] (.ret (.inr (.inl ())))) (.call [] [] (Jo (nth tA.Ops i1) []) .no fun x2=>.br 100000062 (.ps 1000003 [.k [2,3] []] (.ret (.inr (.inl ())))) (.op 160006 (.ap (cI .i64) [] [x2.1] 1 fun _=>⟨rfl,rfl⟩) (.ps 1000003 [.k [1,4,46,47,48] [10,1012],.m 1012 100018] (.ret (.inl ([x2.1],i1+1)))))))) (.ps 1000003 [.k [1,4] [10,100018]] (.ret (.inr (.inr []))))) (by kernel_rfl)
 | (i_h::i_t,i1)=>aB 1010 (.br 100000049 (.op 100000 (.el TOp.D tA.Ops (.up i1)) (.call [] [] (JK (nth tA.Ops i1)) .no fun x1=>.br 100000054 (.ps 1000003 [.k [2,3] []] (.ret (.inr (.inl ())))) (.call [] [] (Jo (nth tA.Ops i1) (i_h::i_t)) (.yes fun _=>⟨rfl,trivial⟩) fun x2=>.br 100000062 (.ps 1000003 [.k [2,3] []] (.ret (.inr (.inl ())))) (.op 160006 (.ap (cI .i64) (i_h::i_t) [x2.1] 1 fun _=>⟨rfl,rfl⟩) (.ps 1000003 [.k [1,4,46,47,48] [10,1012],.m 1012 100018] (.ret (.inl ((i_h::i_t)++[x2.1],i1+1)))))))) (.ps 1000003 [.k [1,4] [10,100018]] (.ret (.inr (.inr (i_h::i_t)))))) (by kernel_rfl)
def mX (tA:Tape) (i:List Int) (i1:Nat):Option (Unit⊕(List Int)):=aK (fun (σ:List Int×Nat)=>jw tA σ.1 σ.2) FU (i,i1)
theorem AY (tA:Tape) (i:List Int) (i1:Nat):∀y:Unit⊕(List Int),mX tA i i1=some y→Runs Tryz.prog (.loop (nav [1,1,1,1,0,1,0,0] (ah Tryz.f136))) (rJ tA i i1) (aN y (fun _=>.ret) (fun _=>(.exit 2))) ((fun (y:Unit⊕(List Int))=>aN y (fun y=>rM tA) (fun y=>rQ tA y)) y):=
 aU (head:=fun (σ:List Int×Nat)=>rJ tA σ.1 σ.2) (eo:=fun (y:Unit⊕(List Int))=>aN y (fun _=>.ret) (fun _=>(.exit 2))) (so:=fun (y:Unit⊕(List Int))=>aN y (fun y=>rM tA) (fun y=>rQ tA y)) (L6 tA) (fun y h=>by rcases y with y | y<;>cases h) FU (i,i1)
def rH (tA:Tape) (x2:List Int) (i:Nat):St:=⟨85,0,[(4,SL (cI .i64) x2),(69,SL (cI .i64) tA.aH),(70,I ((tA.aH.length:Nat):Int)),(71,I ((i:Nat):Int))],[]⟩
def rX (tA:Tape) (x2:List Int):St:=⟨85,0,[(2,gq),(3,B false)],[]⟩
def rV (tA:Tape) (x2:List Int):St:=⟨85,0,[(4,SL (cI .i64) x2)],[]⟩
def jr (tA:Tape) (x2:List Int) (i:Nat):Option (Nat⊕(Unit⊕Unit)):=
 bif decide (((i:Nat):Int)<((tA.aH.length:Nat):Int)) then
 bif decide (i<tA.aH.length) then
 bif decide ((nth tA.aH i)<0) then
 some (.inr (.inl ()))
 else
 bif decide ((nth tA.aH i)≥((x2.length:Nat):Int)) then
 some (.inr (.inl ()))
 else
 bif inK .i64 (((i:Nat):Int)+1) then
 some (.inl (i+1))
 else none
 else none
 else
 some (.inr (.inr ()))
theorem LZ (tA:Tape) (x2:List Int):∀σ:Nat,aJ Tryz.prog (nav [1,1,1,1,1,0,1,0,0] (ah Tryz.f136)) (fun (σ:Nat)=>rH tA x2 σ) (fun (y:Unit⊕Unit)=>aN y (fun _=>.ret) (fun _=>(.exit 4))) (fun (y:Unit⊕Unit)=>aN y (fun y=>rX tA x2) (fun y=>rV tA x2)) σ (jr tA x2 σ)
 | i=>aB 1010 (.br 100000072 (.op 200000 (.el (cI .i64) tA.aH (.up i)) (.br 210006 (.ps 1000003 [.k [2,3] []] (.ret (.inr (.inl ())))) (.op 210010 (.ln (cI .i64) x2) (.br 100000082 (.ps 1000003 [.k [2,3] []] (.ret (.inr (.inl ())))) (.ps 1000003 [.k [4,69,70,71] []] (.ret (.inl (i+1)))))))) (.ps 1000003 [.k [4] []] (.ret (.inr (.inr ()))))) (by kernel_rfl)
def lZ (tA:Tape) (x2:List Int) (i:Nat):Option (Unit⊕Unit):=aK (fun (σ:Nat)=>jr tA x2 σ) FU i
theorem AV (tA:Tape) (x2:List Int) (i:Nat):∀y:Unit⊕Unit,lZ tA x2 i=some y→Runs Tryz.prog (.loop (nav [1,1,1,1,1,0,1,0,0] (ah Tryz.f136))) (rH tA x2 i) (aN y (fun _=>.ret) (fun _=>(.exit 4))) ((fun (y:Unit⊕Unit)=>aN y (fun y=>rX tA x2) (fun y=>rV tA x2)) y):=
 aU (head:=fun (σ:Nat)=>rH tA x2 σ) (eo:=fun (y:Unit⊕Unit)=>aN y (fun _=>.ret) (fun _=>(.exit 4))) (so:=fun (y:Unit⊕Unit)=>aN y (fun y=>rX tA x2) (fun y=>rV tA x2)) (LZ tA x2) (fun y h=>by rcases y with y | y<;>cases h) FU i
def BJ (tA:Tape):Option (List Int×Bool):=
 bif decide (tA.Ins<1) then
 some ([],false)
 else
 bif decide (tA.Ins>40) then
 some ([],false)
 else
 bif decide (((tA.aH.length:Nat):Int)<1) then
 some ([],false)
 else
 bif decide (((tA.aH.length:Nat):Int)>40) then
 some ([],false)
 else
 bif decide (((tA.Ops.length:Nat):Int)>400) then
 some ([],false)
 else
 (vT tA [] 0).bind fun x0=>
 bif x0.isEmpty then
 (mX tA [] 0).bind fun y_=>aN y_ (fun x1=>
 some ([],false))
 (fun x2=>
 (lZ tA x2 0).bind fun y_=>aN y_ (fun x3=>
 some ([],false))
 (fun x4=>
 some (x2,true)))
 else
 bif !x0.isEmpty then
 (mX tA x0 0).bind fun y_=>aN y_ (fun x1=>
 some ([],false))
 (fun x2=>
 (lZ tA x2 0).bind fun y_=>aN y_ (fun x3=>
 some ([],false))
 (fun x4=>
 some (x2,true)))
 else none
theorem Tq (tA:Tape):∀r,BJ tA=some r→aj Tryz.prog 136 0 [AG Tape.D tA] [] (.tup [SL (cI .i64) r.1,B r.2]) []:=
 ak (enc:=fun r=>.tup [SL (cI .i64) r.1,B r.2]) (aP:=fun r=>[]) 10 (.br 10008 (.ps 1000003 [.n 2] (.ret ([],false))) (.br 10018 (.ps 1000003 [.n 2] (.ret ([],false))) (.op 10022 (.ln (cI .i64) tA.aH) (.br 10030 (.ps 1000003 [.n 2] (.ret ([],false))) (.op 10034 (.ln (cI .i64) tA.aH) (.br 10042 (.ps 1000003 [.n 2] (.ret ([],false))) (.op 10046 (.ln TOp.D tA.Ops) (.br 100000036 (.ps 1000003 [.n 2] (.ret ([],false))) (.ps 1000001 [.k [1,4,38,39] [10,100018]] (.lp1 0 (OW tA [] 0) fun x0=>.cl 1 4 100018 1 (cI .i64) x0 (.ps 1 [.k [1,4] [10]] (.op 80004 (.ln TOp.D tA.Ops) (.ps 1000001 [.k [1,4,46,47,48] [10,100018]] (.lp2 0 (AY tA [] 0) (fun x1=>.ps 1000003 [.n 2] (.ret ([],false))) (fun x2=>.oz 5 4 100018 1 (cI .i64) x2 (.ps 5 [.k [1,4] [10]] (.op 180004 (.ln (cI .i64) tA.aH) (.ps 1000001 [.k [4,69,70,71] []] (.lp2 0 (AV tA x2 0) (fun x3=>.ps 1000003 [.n 2] (.ret ([],false))) (fun x4=>.ret (x2,true))))))))))) (.ps 1 [.k [1,4] [10,100018]] (.op 80004 (.ln TOp.D tA.Ops) (.ps 1000001 [.k [1,4,46,47,48] [10,100018]] (.ow 1000001 4 100018 1 (cI .i64) x0 .no (.ps 1000001 [.k [1,4,46,47,48] [10,100018]] (.lp2 0 (AY tA x0 0) (fun x1=>.ps 1000003 [.n 2] (.ret ([],false))) (fun x2=>.oz 5 4 100018 1 (cI .i64) x2 (.ps 5 [.k [1,4] [10]] (.op 180004 (.ln (cI .i64) tA.aH) (.ps 1000001 [.k [4,69,70,71] []] (.lp2 0 (AV tA x2 0) (fun x3=>.ps 1000003 [.n 2] (.ret ([],false))) (fun x4=>.ret (x2,true))))))))))))))))))))))) Tryz.func136 (by kernel_rfl) (by kernel_rfl) (by kernel_rfl)
def xQ (t:Tape):Option Bool:=
 (BJ t).bind fun x0=>
 some x0.2
theorem MS (t:Tape):∀r,xQ t=some r→aj Tryz.prog 77 0 [AG Tape.D t] [] (B r) []:=
 ak (enc:=fun r=>B r) (aP:=fun r=>[]) 10 (.call [] [] (Tq t) .no fun x0=>.ret x0.2) Tryz.func77 (by kernel_rfl) (by kernel_rfl) (by kernel_rfl)
def tK (x:Rat) (e:Int):Option Rat:=
 bif e != 0 then
 none
 else
 some x
theorem yN (x:Rat) (e:Int):∀r,tK x e=some r→aj Tryz.prog 189 0 [AG Rat.D x,I e] [] (AG Rat.D r) []:=
 ak (enc:=fun r=>AG Rat.D r) (aP:=fun r=>[]) 10 (.br 100000006 .nil (.ret x)) Tryz.func189 (by kernel_rfl) (by kernel_rfl) (by kernel_rfl)
def su (o0:List Rat) (tA:TOp):Option Rat:=
 bif tA.Code==2 then
 bif decide (0≤tA.A_) then
 bif decide (tA.A_.toNat<o0.length) then
 bif decide (tA.A_.toNat<o0.length) then
 bif decide (0≤tA.B_) then
 bif decide (tA.B_.toNat<o0.length) then
 bif decide (tA.B_.toNat<o0.length) then
 (uj (nth o0 tA.A_.toNat) (nth o0 tA.B_.toNat)).bind fun x0=>
 some x0
 else none
 else none
 else none
 else none
 else none
 else none
 else
 bif tA.Code==3 then
 bif decide (0≤tA.A_) then
 bif decide (tA.A_.toNat<o0.length) then
 bif decide (tA.A_.toNat<o0.length) then
 bif decide (0≤tA.B_) then
 bif decide (tA.B_.toNat<o0.length) then
 bif decide (tA.B_.toNat<o0.length) then
 (BU (nth o0 tA.A_.toNat) (nth o0 tA.B_.toNat)).bind fun x0=>
 some x0
 else none
 else none
 else none
 else none
 else none
 else none
 else
 bif tA.Code==4 then
 bif decide (0≤tA.A_) then
 bif decide (tA.A_.toNat<o0.length) then
 bif decide (tA.A_.toNat<o0.length) then
 bif decide (0≤tA.B_) then
 bif decide (tA.B_.toNat<o0.length) then
 bif decide (tA.B_.toNat<o0.length) then
 (qF (nth o0 tA.A_.toNat) (nth o0 tA.B_.toNat)).bind fun x0=>
 some x0
 else none
 else none
 else none
 else none
 else none
 else none
 else
 bif tA.Code==5 then
 bif decide (0≤tA.A_) then
 bif decide (tA.A_.toNat<o0.length) then
 bif decide (tA.A_.toNat<o0.length) then
 bif decide (0≤tA.B_) then
 bif decide (tA.B_.toNat<o0.length) then
 bif decide (tA.B_.toNat<o0.length) then
 (qU (nth o0 tA.A_.toNat) (nth o0 tA.B_.toNat)).bind fun x0=>
 (tK x0.1 x0.2).bind fun x1=>
 some x1
 else none
 else none
 else none
 else none
 else none
 else none
 else
 bif tA.Code==6 then
 bif decide (0≤tA.A_) then
 bif decide (tA.A_.toNat<o0.length) then
 bif decide (tA.A_.toNat<o0.length) then
 (uH (nth o0 tA.A_.toNat)).bind fun x0=>
 some x0
 else none
 else none
 else none
 else
 bif tA.Code==7 then
 bif decide (0≤tA.A_) then
 bif decide (tA.A_.toNat<o0.length) then
 bif decide (tA.A_.toNat<o0.length) then
 (jP (nth o0 tA.A_.toNat) tA.Exp).bind fun x0=>
 (tK x0.1 x0.2).bind fun x1=>
 some x1
 else none
 else none
 else none
 else
 (qL tA.Num).bind fun x0=>
 some x0
theorem ZT (o0:List Rat) (tA:TOp):∀r,su o0 tA=some r→aj Tryz.prog 138 1 [AG TOp.D tA,.msl 0 0 none none] [(0,ROW 3 Rat.D o0 0)] (AG Rat.D r) [(0,ROW 3 Rat.D o0 0)]:=
 ak (enc:=fun r=>AG Rat.D r) (aP:=fun r=>[(0,ROW 3 Rat.D o0 0)]) 10 (.br 100000007 (.op 30006 (.el Rat.D o0 .dn) (.op 30008 (.ld Rat.D o0) (.op 30016 (.el Rat.D o0 .dn) (.op 30018 (.ld Rat.D o0) (.call [] [] (BM (nth o0 tA.A_.toNat) (nth o0 tA.B_.toNat)) .no fun x0=>.ret x0))))) (.br 100000020 (.op 50006 (.el Rat.D o0 .dn) (.op 50008 (.ld Rat.D o0) (.op 50016 (.el Rat.D o0 .dn) (.op 50018 (.ld Rat.D o0) (.call [] [] (Qe (nth o0 tA.A_.toNat) (nth o0 tA.B_.toNat)) .no fun x0=>.ret x0))))) (.br 100000033 (.op 70006 (.el Rat.D o0 .dn) (.op 70008 (.ld Rat.D o0) (.op 70016 (.el Rat.D o0 .dn) (.op 70018 (.ld Rat.D o0) (.call [] [] (vM (nth o0 tA.A_.toNat) (nth o0 tA.B_.toNat)) .no fun x0=>.ret x0))))) (.br 100000046 (.op 90006 (.el Rat.D o0 .dn) (.op 90008 (.ld Rat.D o0) (.op 90016 (.el Rat.D o0 .dn) (.op 90018 (.ld Rat.D o0) (.call [] [] (BG (nth o0 tA.A_.toNat) (nth o0 tA.B_.toNat)) .no fun x0=>.call [] [] (yN x0.1 x0.2) .no fun x1=>.ret x1))))) (.br 100000062 (.op 110006 (.el Rat.D o0 .dn) (.op 110008 (.ld Rat.D o0) (.call [] [] (Bf (nth o0 tA.A_.toNat)) .no fun x0=>.ret x0))) (.br 100000070 (.op 130006 (.el Rat.D o0 .dn) (.op 130008 (.ld Rat.D o0) (.call [] [] (BO (nth o0 tA.A_.toNat) tA.Exp) .no fun x0=>.call [] [] (yN x0.1 x0.2) .no fun x1=>.ret x1))) (.call [] [] (nV tA.Num) .no fun x0=>.ret x0))))))) Tryz.func138 (by kernel_rfl) (by kernel_rfl) (by kernel_rfl)
def abm (tA:TOp):Option Rat:=
 bif tA.Code==2 then
 bif decide (0≤tA.A_) then
 bif decide (tA.A_.toNat<([]:List Rat).length) then
 bif decide (0≤tA.B_) then
 bif decide (tA.B_.toNat<([]:List Rat).length) then
 (uj (nth ([]:List Rat) tA.A_.toNat) (nth ([]:List Rat) tA.B_.toNat)).bind fun x0=>
 some x0
 else none
 else none
 else none
 else none
 else
 bif tA.Code==3 then
 bif decide (0≤tA.A_) then
 bif decide (tA.A_.toNat<([]:List Rat).length) then
 bif decide (0≤tA.B_) then
 bif decide (tA.B_.toNat<([]:List Rat).length) then
 (BU (nth ([]:List Rat) tA.A_.toNat) (nth ([]:List Rat) tA.B_.toNat)).bind fun x0=>
 some x0
 else none
 else none
 else none
 else none
 else
 bif tA.Code==4 then
 bif decide (0≤tA.A_) then
 bif decide (tA.A_.toNat<([]:List Rat).length) then
 bif decide (0≤tA.B_) then
 bif decide (tA.B_.toNat<([]:List Rat).length) then
 (qF (nth ([]:List Rat) tA.A_.toNat) (nth ([]:List Rat) tA.B_.toNat)).bind fun x0=>
 some x0
 else none
 else none
 else none
 else none
 else
 bif tA.Code==5 then
 bif decide (0≤tA.A_) then
 bif decide (tA.A_.toNat<([]:List Rat).length) then
 bif decide (0≤tA.B_) then
 bif decide (tA.B_.toNat<([]:List Rat).length) then
 (qU (nth ([]:List Rat) tA.A_.toNat) (nth ([]:List Rat) tA.B_.toNat)).bind fun x0=>
 (tK x0.1 x0.2).bind fun x1=>
 some x1
 else none
 else none
 else none
 else none
 else
 bif tA.Code==6 then
 bif decide (0≤tA.A_) then
 bif decide (tA.A_.toNat<([]:List Rat).length) then
 (uH (nth ([]:List Rat) tA.A_.toNat)).bind fun x0=>
 some x0
 else none
 else none
 else
 bif tA.Code==7 then
 bif decide (0≤tA.A_) then
 bif decide (tA.A_.toNat<([]:List Rat).length) then
 (jP (nth ([]:List Rat) tA.A_.toNat) tA.Exp).bind fun x0=>
 (tK x0.1 x0.2).bind fun x1=>
 some x1
 else none
 else none
 else
 (qL tA.Num).bind fun x0=>
 some x0
theorem XB (tA:TOp):∀r,abm tA=some r→aj Tryz.prog 138 0 [AG TOp.D tA,SL Rat.D ([]:List Rat)] [] (AG Rat.D r) []:=
 ak (enc:=fun r=>AG Rat.D r) (aP:=fun r=>[]) 10 (.br 100000007 (.op 30006 (.el Rat.D ([]:List Rat) .dn) (.op 30016 (.el Rat.D ([]:List Rat) .dn) (.call [] [] (BM (nth ([]:List Rat) tA.A_.toNat) (nth ([]:List Rat) tA.B_.toNat)) .no fun x0=>.ret x0))) (.br 100000020 (.op 50006 (.el Rat.D ([]:List Rat) .dn) (.op 50016 (.el Rat.D ([]:List Rat) .dn) (.call [] [] (Qe (nth ([]:List Rat) tA.A_.toNat) (nth ([]:List Rat) tA.B_.toNat)) .no fun x0=>.ret x0))) (.br 100000033 (.op 70006 (.el Rat.D ([]:List Rat) .dn) (.op 70016 (.el Rat.D ([]:List Rat) .dn) (.call [] [] (vM (nth ([]:List Rat) tA.A_.toNat) (nth ([]:List Rat) tA.B_.toNat)) .no fun x0=>.ret x0))) (.br 100000046 (.op 90006 (.el Rat.D ([]:List Rat) .dn) (.op 90016 (.el Rat.D ([]:List Rat) .dn) (.call [] [] (BG (nth ([]:List Rat) tA.A_.toNat) (nth ([]:List Rat) tA.B_.toNat)) .no fun x0=>.call [] [] (yN x0.1 x0.2) .no fun x1=>.ret x1))) (.br 100000062 (.op 110006 (.el Rat.D ([]:List Rat) .dn) (.call [] [] (Bf (nth ([]:List Rat) tA.A_.toNat)) .no fun x0=>.ret x0)) (.br 100000070 (.op 130006 (.el Rat.D ([]:List Rat) .dn) (.call [] [] (BO (nth ([]:List Rat) tA.A_.toNat) tA.Exp) .no fun x0=>.call [] [] (yN x0.1 x0.2) .no fun x1=>.ret x1)) (.call [] [] (nV tA.Num) .no fun x0=>.ret x0))))))) Tryz.func138 (by kernel_rfl) (by kernel_rfl) (by kernel_rfl)
end Go.Ab.M
