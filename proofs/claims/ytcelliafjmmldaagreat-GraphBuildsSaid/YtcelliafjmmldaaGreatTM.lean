import Derived.Test.YtcelliafjmmldaaGreatTI
namespace Go.Ab.M
open Go.Proofs
set_option linter.unusedVariables false
set_option maxRecDepth 100000
structure aJ where
 Op:Int
 A_:Int
 B_:Int
 N:Int
 deriving DecidableEq,Inhabited
abbrev aJ.D (x:aJ):List D:=[.v (.int .u8 x.Op),.v (.int .u8 x.A_),.v (.int .u8 x.B_),.v (.int .u8 x.N)]
structure agC where
 N:Int
 D_:Int
 deriving DecidableEq,Inhabited
abbrev agC.D (x:agC):List D:=[.v (.int .i8 x.N),.v (.int .u8 x.D_)]
def sZ (tA:Tape) (i:List Int) (i1:Nat):St:=⟨91,0,[(1,.ptr 10 0 0),(3,bI 100034 i),(4,I ((i1:Nat):Int))],[(10,BOX [I tA.Ins,SL TOp.D tA.Ops,SL (cI .i64) tA.aG]),(100034,bM 1 (cI .i64) i)]⟩
def tC (tA:Tape) (i:List Int):St:=⟨91,0,[(1,.ptr 10 0 0),(3,bI 100034 i)],[(10,BOX [I tA.Ins,SL TOp.D tA.Ops,SL (cI .i64) tA.aG]),(100034,bM 1 (cI .i64) i)]⟩
def jF (tA:Tape) (i:List Int) (i1:Nat):Option ((List Int×Nat)⊕(List Int)):=
 bif decide (((i1:Nat):Int)<tA.Ins) then
 bif decide (i.length+1≤2147483648) then
 bif inK .i64 (((i1:Nat):Int)+1) then
 some (.inl (i++[1],i1+1))
 else none
 else none
 else
 some (.inr i)
theorem ND (tA:Tape):∀σ:List Int×Nat,aN Tryz.prog (nav [1,1,1,0,1,0,0] (ah Tryz.f176)) (fun (σ:List Int×Nat)=>sZ tA σ.1 σ.2) (fun (_:List Int)=>(.exit 0)) (fun (y:List Int)=>tC tA y) σ (jF tA σ.1 σ.2)
 | ([],i1)=>aF 1010 (.br 100000037 (.op 70004 (.ap (cI .i64) [] [1] 1 fun _=>⟨rfl,rfl⟩) (.ps 1000003 [.k [1,3,4] [10,1011],.m 1011 100034] (.ret (.inl ([1],i1+1))))) (.ps 1000003 [.k [1,3] [10,100034]] (.ret (.inr [])))) (by kernel_rfl)
 | (i_h::i_t,i1)=>aF 1010 (.br 100000037 (.op 70004 (.ap (cI .i64) (i_h::i_t) [1] 1 fun _=>⟨rfl,rfl⟩) (.ps 1000003 [.k [1,3,4] [10,1011],.m 1011 100034] (.ret (.inl ((i_h::i_t)++[1],i1+1))))) (.ps 1000003 [.k [1,3] [10,100034]] (.ret (.inr (i_h::i_t))))) (by kernel_rfl)
def sN (tA:Tape) (i:List Int) (i1:Nat):Option (List Int):=aK (fun (σ:List Int×Nat)=>jF tA σ.1 σ.2) FU (i,i1)
theorem Nv (tA:Tape) (i:List Int) (i1:Nat):∀y:List Int,sN tA i i1=some y→Runs Tryz.prog (.loop (nav [1,1,1,0,1,0,0] (ah Tryz.f176))) (sZ tA i i1) ((.exit 0)) ((fun (y:List Int)=>tC tA y) y):=
 aS (head:=fun (σ:List Int×Nat)=>sZ tA σ.1 σ.2) (eo:=fun (_:List Int)=>(.exit 0)) (so:=fun (y:List Int)=>tC tA y) (ND tA) (fun _ h=>by cases h) FU (i,i1)
def uh (tA:TOp):Option Bool:=
 (pW tA.Num (Rat.mk false [] [])).bind fun x0=>
 bif tA.Code==1 then
 bif tA.A_==0 then
 bif tA.B_==0 then
 some (tA.Exp==0)
 else
 some false
 else
 some false
 else
 bif decide (tA.Code≥2) then
 bif decide (tA.Code≤5) then
 bif x0 then
 some (tA.Exp==0)
 else
 some false
 else
 bif tA.Code==6 then
 bif x0 then
 bif tA.B_==0 then
 some (tA.Exp==0)
 else
 some false
 else
 some false
 else
 bif tA.Code==7 then
 bif x0 then
 some (tA.B_==0)
 else
 some false
 else
 some false
 else
 bif tA.Code==6 then
 bif x0 then
 bif tA.B_==0 then
 some (tA.Exp==0)
 else
 some false
 else
 some false
 else
 bif tA.Code==7 then
 bif x0 then
 some (tA.B_==0)
 else
 some false
 else
 some false
theorem XE (tA:TOp):∀r,uh tA=some r→aj Tryz.prog 138 0 [AG TOp.D tA] [] (B r) []:=
 ak (enc:=fun r=>B r) (aP:=fun r=>[]) 10 (.call [] [] (vP tA.Num (Rat.mk false [] [])) .no fun x0=>.br 100000008 (.br 30008 (.br 30018 (.ret (tA.Exp==0)) (.ret false)) (.ret false)) (.br 40008 (.br 100000025 (.br 50004 (.ret (tA.Exp==0)) (.ret false)) (.br 100000040 (.br 70004 (.br 70014 (.ret (tA.Exp==0)) (.ret false)) (.ret false)) (.br 100000055 (.br 90004 (.ret (tA.B_==0)) (.ret false)) (.ret false)))) (.br 100000040 (.br 70004 (.br 70014 (.ret (tA.Exp==0)) (.ret false)) (.ret false)) (.br 100000055 (.br 90004 (.ret (tA.B_==0)) (.ret false)) (.ret false))))) Tryz.func138 (by kernel_rfl) (by kernel_rfl) (by kernel_rfl)
def aen:ByteArray:=⟨#[48]⟩
def xE (x:List Int) (out:ByteArray):St:=⟨31,0,[(3,SL (cI .u32) x),(4,SX out)],[]⟩
def wS (out:ByteArray):St:=⟨31,0,[(4,SX out)],[]⟩
def eH (x:List Int) (out:ByteArray):Option ((List Int×ByteArray)⊕ByteArray):=
 bif decide (((x.length:Nat):Int)>0) then
 (mJ x 10).bind fun x1=>
 bif decide ((((strOfNums [IntKind.wrap .u8 (IntKind.wrap .u32 (48+x1.2.1))]).size+out.size:Nat):Int)≤9223372036854775807) then
 some (.inl (x1.1,(strOfNums [IntKind.wrap .u8 (IntKind.wrap .u32 (48+x1.2.1))])++out))
 else none
 else
 some (.inr out)
theorem QA:∀σ:List Int×ByteArray,aN Tryz.prog (nav [1,1,1,1,0,0,0] (ah Tryz.f140)) (fun (σ:List Int×ByteArray)=>xE σ.1 σ.2) (fun (_:ByteArray)=>(.exit 0)) (fun (y:ByteArray)=>wS y) σ (eH σ.1 σ.2)
 | (x,out)=>aF 1010 (.op 50002 (.ln (cI .u32) x) (.br 100000015 (.call [] [] (JK x 10) .no fun x1=>.op 70004 .wr (.op 70008 (.bs [IntKind.wrap .u8 (IntKind.wrap .u32 (48+x1.2.1))]) (.ps 1000003 [.k [3,4] []] (.ret (.inl (x1.1,(strOfNums [IntKind.wrap .u8 (IntKind.wrap .u32 (48+x1.2.1))])++out)))))) (.ps 1000003 [.k [4] []] (.ret (.inr out))))) (by kernel_rfl)
def F5 (x:List Int) (out:ByteArray):Option ByteArray:=aK (fun (σ:List Int×ByteArray)=>eH σ.1 σ.2) FU (x,out)
theorem QW (x:List Int) (out:ByteArray):∀y:ByteArray,F5 x out=some y→Runs Tryz.prog (.loop (nav [1,1,1,1,0,0,0] (ah Tryz.f140))) (xE x out) ((.exit 0)) ((fun (y:ByteArray)=>wS y) y):=
 aS (head:=fun (σ:List Int×ByteArray)=>xE σ.1 σ.2) (eo:=fun (_:ByteArray)=>(.exit 0)) (so:=fun (y:ByteArray)=>wS y) (QA) (fun _ h=>by cases h) FU (x,out)
def mO (a:List Int):Option ByteArray:=
 (gJ a).bind fun x0=>
 bif ((x0.length:Nat):Int)==0 then
 some aen
 else
 (F5 x0 X7).bind fun x1=>
 some x1
theorem Jw (a:List Int):∀r,mO a=some r→aj Tryz.prog 140 0 [SL (cI .u32) a] [] (SX r) []:=
 ak (enc:=fun r=>SX r) (aP:=fun r=>[]) 10 (.call [] [] (fC a) .no fun x0=>.op 20002 (.ln (cI .u32) x0) (.br 100000012 (.ret aen) (.ps 1000001 [.k [3,4] []] (.lp1 0 (QW x0 X7) fun x1=>.ret x1)))) Tryz.func140 (by kernel_rfl) (by kernel_rfl) (by kernel_rfl)
def iG (tA:TOp) (a:List Int):Option Int:=
 (uh tA).bind fun x0=>
 bif !x0 then
 some (-1)
 else
 bif tA.Code==1 then
 (FI tA.Num).bind fun x1=>
 bif !x1 then
 some (-1)
 else
 (mO tA.Num.Num).bind fun x2=>
 bif decide (((x2.size:Nat):Int)>40) then
 some (-1)
 else
 (mO tA.Num.Den).bind fun x3=>
 bif decide (((x3.size:Nat):Int)>40) then
 some (-1)
 else
 some 1
 else
 bif decide (tA.A_<0) then
 some (-1)
 else
 bif decide (tA.A_≥((a.length:Nat):Int)) then
 some (-1)
 else
 bif decide (tA.B_<0) then
 some (-1)
 else
 bif decide (tA.B_≥((a.length:Nat):Int)) then
 some (-1)
 else
 bif decide (tA.Exp<(-20)) then
 some (-1)
 else
 bif decide (tA.Exp>20) then
 some (-1)
 else
 bif decide (0≤tA.A_) then
 bif decide (tA.A_.toNat<a.length) then
 bif decide (tA.Code≤5) then
 bif decide (0≤tA.B_) then
 bif decide (tA.B_.toNat<a.length) then
 bif inK .i64 ((nth a tA.A_.toNat)+(nth a tA.B_.toNat)) then
 bif tA.Code==7 then
 bif decide (tA.Exp<0) then
 bif inK .i64 (0-tA.Exp) then
 bif inK .i64 (((nth a tA.A_.toNat)+(nth a tA.B_.toNat))*(0-tA.Exp)) then
 bif tA.Code==7 then
 bif decide (tA.Exp>0) then
 bif inK .i64 ((((nth a tA.A_.toNat)+(nth a tA.B_.toNat))*(0-tA.Exp))*tA.Exp) then
 some ((((nth a tA.A_.toNat)+(nth a tA.B_.toNat))*(0-tA.Exp))*tA.Exp)
 else none
 else
 some (((nth a tA.A_.toNat)+(nth a tA.B_.toNat))*(0-tA.Exp))
 else
 some (((nth a tA.A_.toNat)+(nth a tA.B_.toNat))*(0-tA.Exp))
 else none
 else none
 else
 bif tA.Code==7 then
 bif decide (tA.Exp>0) then
 bif inK .i64 (((nth a tA.A_.toNat)+(nth a tA.B_.toNat))*tA.Exp) then
 some (((nth a tA.A_.toNat)+(nth a tA.B_.toNat))*tA.Exp)
 else none
 else
 some ((nth a tA.A_.toNat)+(nth a tA.B_.toNat))
 else
 some ((nth a tA.A_.toNat)+(nth a tA.B_.toNat))
 else
 bif tA.Code==7 then
 bif decide (tA.Exp>0) then
 bif inK .i64 (((nth a tA.A_.toNat)+(nth a tA.B_.toNat))*tA.Exp) then
 some (((nth a tA.A_.toNat)+(nth a tA.B_.toNat))*tA.Exp)
 else none
 else
 some ((nth a tA.A_.toNat)+(nth a tA.B_.toNat))
 else
 some ((nth a tA.A_.toNat)+(nth a tA.B_.toNat))
 else none
 else none
 else none
 else
 bif tA.Code==7 then
 bif decide (tA.Exp<0) then
 bif inK .i64 (0-tA.Exp) then
 bif inK .i64 ((nth a tA.A_.toNat)*(0-tA.Exp)) then
 bif tA.Code==7 then
 bif decide (tA.Exp>0) then
 bif inK .i64 (((nth a tA.A_.toNat)*(0-tA.Exp))*tA.Exp) then
 some (((nth a tA.A_.toNat)*(0-tA.Exp))*tA.Exp)
 else none
 else
 some ((nth a tA.A_.toNat)*(0-tA.Exp))
 else
 some ((nth a tA.A_.toNat)*(0-tA.Exp))
 else none
 else none
 else
 bif tA.Code==7 then
 bif decide (tA.Exp>0) then
 bif inK .i64 ((nth a tA.A_.toNat)*tA.Exp) then
 some ((nth a tA.A_.toNat)*tA.Exp)
 else none
 else
 some (nth a tA.A_.toNat)
 else
 some (nth a tA.A_.toNat)
 else
 bif tA.Code==7 then
 bif decide (tA.Exp>0) then
 bif inK .i64 ((nth a tA.A_.toNat)*tA.Exp) then
 some ((nth a tA.A_.toNat)*tA.Exp)
 else none
 else
 some (nth a tA.A_.toNat)
 else
 some (nth a tA.A_.toNat)
 else none
 else none
theorem kE (tA:TOp) (a:List Int):∀r,iG tA a=some r→aj Tryz.prog 80 0 [AG TOp.D tA,SL (cI .i64) a] [] (I r) []:=
 ak (enc:=fun r=>I r) (aP:=fun r=>[]) 10 (.call [] [] (XE tA) .no fun x0=>.br 100000011 (.ret (-1)) (.br 100000014 (.call [] [] (VX tA.Num) .no fun x1=>.br 60006 (.ret (-1)) (.call [] [] (Jw tA.Num.Num) .no fun x2=>.br 60022 (.ret (-1)) (.call [] [] (Jw tA.Num.Den) .no fun x3=>.br 100000035 (.ret (-1)) (.ret 1)))) (.br 90008 (.ret (-1)) (.op 90014 (.ln (cI .i64) a) (.br 90022 (.ret (-1)) (.br 90032 (.ret (-1)) (.op 90038 (.ln (cI .i64) a) (.br 90046 (.ret (-1)) (.br 90056 (.ret (-1)) (.br 100000067 (.ret (-1)) (.op 110006 (.el (cI .i64) a .dn) (.br 100000075 (.op 130008 (.el (cI .i64) a .dn) (.br 140008 (.br 100000090 (.br 160008 (.br 100000103 (.ret ((((nth a tA.A_.toNat)+(nth a tA.B_.toNat))*(0-tA.Exp))*tA.Exp)) (.ret (((nth a tA.A_.toNat)+(nth a tA.B_.toNat))*(0-tA.Exp)))) (.ret (((nth a tA.A_.toNat)+(nth a tA.B_.toNat))*(0-tA.Exp)))) (.br 160008 (.br 100000103 (.ret (((nth a tA.A_.toNat)+(nth a tA.B_.toNat))*tA.Exp)) (.ret ((nth a tA.A_.toNat)+(nth a tA.B_.toNat)))) (.ret ((nth a tA.A_.toNat)+(nth a tA.B_.toNat))))) (.br 160008 (.br 100000103 (.ret (((nth a tA.A_.toNat)+(nth a tA.B_.toNat))*tA.Exp)) (.ret ((nth a tA.A_.toNat)+(nth a tA.B_.toNat)))) (.ret ((nth a tA.A_.toNat)+(nth a tA.B_.toNat)))))) (.br 140008 (.br 100000090 (.br 160008 (.br 100000103 (.ret (((nth a tA.A_.toNat)*(0-tA.Exp))*tA.Exp)) (.ret ((nth a tA.A_.toNat)*(0-tA.Exp)))) (.ret ((nth a tA.A_.toNat)*(0-tA.Exp)))) (.br 160008 (.br 100000103 (.ret ((nth a tA.A_.toNat)*tA.Exp)) (.ret (nth a tA.A_.toNat))) (.ret (nth a tA.A_.toNat)))) (.br 160008 (.br 100000103 (.ret ((nth a tA.A_.toNat)*tA.Exp)) (.ret (nth a tA.A_.toNat))) (.ret (nth a tA.A_.toNat)))))))))))))))) Tryz.func80 (by kernel_rfl) (by kernel_rfl) (by kernel_rfl)
def pO (tA:Tape) (i:List Int) (i1:Nat):St:=⟨91,0,[(1,.ptr 10 0 0),(3,bI 100034 i),(5,I ((i1:Nat):Int))],[(10,BOX [I tA.Ins,SL TOp.D tA.Ops,SL (cI .i64) tA.aG]),(100034,bM 1 (cI .i64) i)]⟩
def pR (tA:Tape):St:=⟨91,0,[(2,bZ)],[]⟩
def oU (tA:Tape) (i:List Int):St:=⟨91,0,[(1,.ptr 10 0 0),(3,bI 100034 i)],[(10,BOX [I tA.Ins,SL TOp.D tA.Ops,SL (cI .i64) tA.aG]),(100034,bM 1 (cI .i64) i)]⟩
def iJ (tA:Tape) (i:List Int) (i1:Nat):Option ((List Int×Nat)⊕(Unit⊕(List Int))):=
 bif decide (((i1:Nat):Int)<((tA.Ops.length:Nat):Int)) then
 bif decide (i1<tA.Ops.length) then
 (iG (nth tA.Ops i1) i).bind fun x1=>
 bif decide (x1<0) then
 some (.inr (.inl ()))
 else
 bif decide (x1>200) then
 some (.inr (.inl ()))
 else
 bif decide (i.length+1≤2147483648) then
 bif inK .i64 (((i1:Nat):Int)+1) then
 some (.inl (i++[x1],i1+1))
 else none
 else none
 else none
 else
 some (.inr (.inr i))
theorem JE (tA:Tape):∀σ:List Int×Nat,aN Tryz.prog (nav [1,1,1,1,0,1,0,0] (ah Tryz.f176)) (fun (σ:List Int×Nat)=>pO tA σ.1 σ.2) (fun (y:Unit⊕(List Int))=>aH y (fun _=>.ret) (fun _=>(.exit 2))) (fun (y:Unit⊕(List Int))=>aH y (fun y=>pR tA) (fun y=>oU tA y)) σ (iJ tA σ.1 σ.2)
 | ([],i1)=>aF 1010 (.op 90006 (.ln TOp.D tA.Ops) (.br 100000047 (.op 110006 (.el TOp.D tA.Ops (.up i1)) (.call [] [] (kE (nth tA.Ops i1) []) .no fun x1=>.br 120006 (.ps 1000003 [.k [2] []] (.ret (.inr (.inl ())))) (.br 100000062 (.ps 1000003 [.k [2] []] (.ret (.inr (.inl ())))) (.op 140006 (.ap (cI .i64) [] [x1] 1 fun _=>⟨rfl,rfl⟩) (.ps 1000003 [.k [1,3,5] [10,1011],.m 1011 100034] (.ret (.inl ([x1],i1+1)))))))) (.ps 1000003 [.k [1,3] [10,100034]] (.ret (.inr (.inr [])))))) (by kernel_rfl)
 | (i_h::i_t,i1)=>aF 1010 (.op 90006 (.ln TOp.D tA.Ops) (.br 100000047 (.op 110006 (.el TOp.D tA.Ops (.up i1)) (.call [] [] (kE (nth tA.Ops i1) (i_h::i_t)) (.yes fun _=>⟨rfl,trivial⟩) fun x1=>.br 120006 (.ps 1000003 [.k [2] []] (.ret (.inr (.inl ())))) (.br 100000062 (.ps 1000003 [.k [2] []] (.ret (.inr (.inl ())))) (.op 140006 (.ap (cI .i64) (i_h::i_t) [x1] 1 fun _=>⟨rfl,rfl⟩) (.ps 1000003 [.k [1,3,5] [10,1011],.m 1011 100034] (.ret (.inl ((i_h::i_t)++[x1],i1+1)))))))) (.ps 1000003 [.k [1,3] [10,100034]] (.ret (.inr (.inr (i_h::i_t))))))) (by kernel_rfl)
def kX (tA:Tape) (i:List Int) (i1:Nat):Option (Unit⊕(List Int)):=aK (fun (σ:List Int×Nat)=>iJ tA σ.1 σ.2) FU (i,i1)
theorem zF (tA:Tape) (i:List Int) (i1:Nat):∀y:Unit⊕(List Int),kX tA i i1=some y→Runs Tryz.prog (.loop (nav [1,1,1,1,0,1,0,0] (ah Tryz.f176))) (pO tA i i1) (aH y (fun _=>.ret) (fun _=>(.exit 2))) ((fun (y:Unit⊕(List Int))=>aH y (fun y=>pR tA) (fun y=>oU tA y)) y):=
 aS (head:=fun (σ:List Int×Nat)=>pO tA σ.1 σ.2) (eo:=fun (y:Unit⊕(List Int))=>aH y (fun _=>.ret) (fun _=>(.exit 2))) (so:=fun (y:Unit⊕(List Int))=>aH y (fun y=>pR tA) (fun y=>oU tA y)) (JE tA) (fun y h=>by rcases y with y | y<;>cases h) FU (i,i1)
def qh (tA:Tape) (x2:List Int) (i:Nat):St:=⟨91,0,[(1,.ptr 10 0 0),(3,SL (cI .i64) x2),(7,I ((i:Nat):Int))],[(10,BOX [I tA.Ins,SL TOp.D tA.Ops,SL (cI .i64) tA.aG])]⟩
def oQ (tA:Tape) (x2:List Int):St:=⟨91,0,[(2,bZ)],[]⟩
def o7 (tA:Tape) (x2:List Int):St:=⟨91,0,[(3,SL (cI .i64) x2)],[]⟩
def iL (tA:Tape) (x2:List Int) (i:Nat):Option (Nat⊕(Unit⊕Unit)):=
 bif decide (((i:Nat):Int)<((tA.aG.length:Nat):Int)) then
 bif decide (i<tA.aG.length) then
 bif decide ((nth tA.aG i)<0) then
 some (.inr (.inl ()))
 else
 bif decide (i<tA.aG.length) then
 bif decide ((nth tA.aG i)≥((x2.length:Nat):Int)) then
 some (.inr (.inl ()))
 else
 bif inK .i64 (((i:Nat):Int)+1) then
 some (.inl (i+1))
 else none
 else none
 else none
 else
 some (.inr (.inr ()))
theorem JX (tA:Tape) (x2:List Int):∀σ:Nat,aN Tryz.prog (nav [1,1,1,1,1,0,1,0,0] (ah Tryz.f176)) (fun (σ:Nat)=>qh tA x2 σ) (fun (y:Unit⊕Unit)=>aH y (fun _=>.ret) (fun _=>(.exit 4))) (fun (y:Unit⊕Unit)=>aH y (fun y=>oQ tA x2) (fun y=>o7 tA x2)) σ (iL tA x2 σ)
 | i=>aF 1010 (.op 160006 (.ln (cI .i64) tA.aG) (.br 100000071 (.op 180006 (.el (cI .i64) tA.aG (.up i)) (.br 180014 (.ps 1000003 [.k [2] []] (.ret (.inr (.inl ())))) (.op 180020 (.el (cI .i64) tA.aG (.up i)) (.op 180026 (.ln (cI .i64) x2) (.br 100000089 (.ps 1000003 [.k [2] []] (.ret (.inr (.inl ())))) (.ps 1000003 [.k [1,3,7] [10]] (.ret (.inl (i+1))))))))) (.ps 1000003 [.k [3] []] (.ret (.inr (.inr ())))))) (by kernel_rfl)
def kY (tA:Tape) (x2:List Int) (i:Nat):Option (Unit⊕Unit):=aK (fun (σ:Nat)=>iL tA x2 σ) FU i
theorem zo (tA:Tape) (x2:List Int) (i:Nat):∀y:Unit⊕Unit,kY tA x2 i=some y→Runs Tryz.prog (.loop (nav [1,1,1,1,1,0,1,0,0] (ah Tryz.f176))) (qh tA x2 i) (aH y (fun _=>.ret) (fun _=>(.exit 4))) ((fun (y:Unit⊕Unit)=>aH y (fun y=>oQ tA x2) (fun y=>o7 tA x2)) y):=
 aS (head:=fun (σ:Nat)=>qh tA x2 σ) (eo:=fun (y:Unit⊕Unit)=>aH y (fun _=>.ret) (fun _=>(.exit 4))) (so:=fun (y:Unit⊕Unit)=>aH y (fun y=>oQ tA x2) (fun y=>o7 tA x2)) (JX tA x2) (fun y h=>by rcases y with y | y<;>cases h) FU i
def yN (tA:Tape):Option (List Int):=
 bif decide (tA.Ins<1) then
 some []
 else
 bif decide (tA.Ins>40) then
 some []
 else
 bif decide (((tA.aG.length:Nat):Int)<1) then
 some []
 else
 bif decide (((tA.aG.length:Nat):Int)>40) then
 some []
 else
 bif decide (((tA.Ops.length:Nat):Int)>400) then
 some []
 else
 (sN tA [] 0).bind fun x0=>
 bif x0.isEmpty then
 (kX tA [] 0).bind fun y_=>aH y_ (fun x1=>
 some [])
 (fun x2=>
 (kY tA x2 0).bind fun y_=>aH y_ (fun x3=>
 some [])
 (fun x4=>
 some x2))
 else
 bif !x0.isEmpty then
 (kX tA x0 0).bind fun y_=>aH y_ (fun x1=>
 some [])
 (fun x2=>
 (kY tA x2 0).bind fun y_=>aH y_ (fun x3=>
 some [])
 (fun x4=>
 some x2))
 else none
theorem Qr (tA:Tape):∀r,yN tA=some r→aj Tryz.prog 176 0 [AG Tape.D (Tape.mk tA.Ins tA.Ops tA.aG)] [] (SL (cI .i64) r) []:=
 ak (enc:=fun r=>SL (cI .i64) r) (aP:=fun r=>[]) 10 (.br 10008 (.ps 1000003 [.n 2] (.ret [])) (.br 10018 (.ps 1000003 [.n 2] (.ret [])) (.op 10022 (.ln (cI .i64) tA.aG) (.br 10030 (.ps 1000003 [.n 2] (.ret [])) (.op 10034 (.ln (cI .i64) tA.aG) (.br 10042 (.ps 1000003 [.n 2] (.ret [])) (.op 10046 (.ln TOp.D tA.Ops) (.br 100000033 (.ps 1000003 [.n 2] (.ret [])) (.ps 1000001 [.k [1,3,4] [10,100034]] (.lp1 0 (Nv tA [] 0) fun x0=>.cl 1 3 100034 1 (cI .i64) x0 (.ps 1 [.k [1,3] [10]] (.ps 1000001 [.k [1,3,5] [10,100034]] (.lp2 0 (zF tA [] 0) (fun x1=>.ps 1000003 [.n 2] (.ret [])) (fun x2=>.oz 5 3 100034 1 (cI .i64) x2 (.ps 5 [.k [1,3] [10]] (.ps 1000001 [.k [1,3,7] [10]] (.lp2 0 (zo tA x2 0) (fun x3=>.ps 1000003 [.n 2] (.ret [])) (fun x4=>.ret x2)))))))) (.ps 1 [.k [1,3] [10,100034]] (.ps 1000001 [.k [1,3,5] [10,100034]] (.ow 1000001 3 100034 1 (cI .i64) x0 .no (.ps 1000001 [.k [1,3,5] [10,100034]] (.lp2 0 (zF tA x0 0) (fun x1=>.ps 1000003 [.n 2] (.ret [])) (fun x2=>.oz 5 3 100034 1 (cI .i64) x2 (.ps 5 [.k [1,3] [10]] (.ps 1000001 [.k [1,3,7] [10]] (.lp2 0 (zo tA x2 0) (fun x3=>.ps 1000003 [.n 2] (.ret [])) (fun x4=>.ret x2)))))))))))))))))))) Tryz.func176 (by kernel_rfl) (by kernel_rfl) (by kernel_rfl)
def Fh (t:Tape):Option Bool:=
 (yN t).bind fun x0=>
 some (decide (((x0.length:Nat):Int)>0))
theorem WQ (t:Tape):∀r,Fh t=some r→aj Tryz.prog 125 0 [AG Tape.D t] [] (B r) []:=
 ak (enc:=fun r=>B r) (aP:=fun r=>[]) 10 (.call [] [] (Qr t) .no fun x0=>.op 10004 (.ln (cI .i64) x0) (.ret (decide (((x0.length:Nat):Int)>0)))) Tryz.func125 (by kernel_rfl) (by kernel_rfl) (by kernel_rfl)
def Az (tA:Int) (a:List Int) (a1:List aJ) (a2:Int) (i:List Int) (i1:Nat):St:=⟨108,0,[(1,SL (cI .u8) a),(2,SL aJ.D a1),(3,I a2),(8,.ptr 10 0 0),(9,.ptr 11 0 0),(10,bI 100035 i),(11,I ((i1:Nat):Int))],[(10,BOX [I 0,bZ,bZ]),(11,BOX [I (1+(tA%3)),bZ,bZ]),(100035,bM 1 (cI .i64) i)]⟩
def AL (tA:Int) (a:List Int) (a1:List aJ) (a2:Int) (i:List Int):St:=⟨108,0,[(1,SL (cI .u8) a),(2,SL aJ.D a1),(3,I a2),(8,.ptr 10 0 0),(9,.ptr 11 0 0),(10,bI 100035 i)],[(10,BOX [I 0,bZ,bZ]),(11,BOX [I (1+(tA%3)),bZ,bZ]),(100035,bM 1 (cI .i64) i)]⟩
def nN (tA:Int) (a:List Int) (a1:List aJ) (a2:Int) (i:List Int) (i1:Nat):Option ((List Int×Nat)⊕(List Int)):=
 bif decide (((i1:Nat):Int)<(1+(tA%3))) then
 bif decide (i.length+1≤2147483648) then
 bif inK .i64 (((i1:Nat):Int)+1) then
 some (.inl (i++[1],i1+1))
 else none
 else none
 else
 some (.inr i)
theorem TU (tA:Int) (a:List Int) (a1:List aJ) (a2:Int):∀σ:List Int×Nat,aN Tryz.prog (nav [1,1,1,0,1,0,0] (ah Tryz.f26)) (fun (σ:List Int×Nat)=>Az tA a a1 a2 σ.1 σ.2) (fun (_:List Int)=>(.exit 0)) (fun (y:List Int)=>AL tA a a1 a2 y) σ (nN tA a a1 a2 σ.1 σ.2)
 | ([],i1)=>aF 1010 (.br 100000024 (.op 60004 (.ap (cI .i64) [] [1] 1 fun _=>⟨rfl,rfl⟩) (.ps 1000003 [.k [1,2,3,8,9,10,11] [10,11,1011],.m 1011 100035] (.ret (.inl ([1],i1+1))))) (.ps 1000003 [.k [1,2,3,8,9,10] [10,11,100035]] (.ret (.inr [])))) (by kernel_rfl)
 | (i_h::i_t,i1)=>aF 1010 (.br 100000024 (.op 60004 (.ap (cI .i64) (i_h::i_t) [1] 1 fun _=>⟨rfl,rfl⟩) (.ps 1000003 [.k [1,2,3,8,9,10,11] [10,11,1011],.m 1011 100035] (.ret (.inl ((i_h::i_t)++[1],i1+1))))) (.ps 1000003 [.k [1,2,3,8,9,10] [10,11,100035]] (.ret (.inr (i_h::i_t))))) (by kernel_rfl)
def BL (tA:Int) (a:List Int) (a1:List aJ) (a2:Int) (i:List Int) (i1:Nat):Option (List Int):=aK (fun (σ:List Int×Nat)=>nN tA a a1 a2 σ.1 σ.2) FU (i,i1)
theorem Uk (tA:Int) (a:List Int) (a1:List aJ) (a2:Int) (i:List Int) (i1:Nat):∀y:List Int,BL tA a a1 a2 i i1=some y→Runs Tryz.prog (.loop (nav [1,1,1,0,1,0,0] (ah Tryz.f26))) (Az tA a a1 a2 i i1) ((.exit 0)) ((fun (y:List Int)=>AL tA a a1 a2 y) y):=
 aS (head:=fun (σ:List Int×Nat)=>Az tA a a1 a2 σ.1 σ.2) (eo:=fun (_:List Int)=>(.exit 0)) (so:=fun (y:List Int)=>AL tA a a1 a2 y) (TU tA a a1 a2) (fun _ h=>by cases h) FU (i,i1)
def Kt (t:aJ) (n:Int):Option TOp:=
 bif decide (0≤t.Op) then
 bif decide (0<7) then
 bif inK .i64 (t.Op%7) then
 bif inK .i64 (1+(t.Op%7)) then
 bif inK .i64 t.A_ then
 bif decide (0≤t.A_) then
 bif decide (0<n) then
 bif inK .i64 t.B_ then
 bif decide (0≤t.B_) then
 bif decide (0<n) then
 bif (1+(t.Op%7))==1 then
 bif decide (0≤t.B_) then
 bif decide (0<5) then
 (pG (IntKind.wrap .i8 t.N) (t.B_%5)).bind fun x0=>
 some (TOp.mk 1 0 0 0 x0)
 else none
 else none
 else
 bif decide ((1+(t.Op%7))≤5) then
 some (TOp.mk (1+(t.Op%7)) (t.A_%n) (t.B_%n) 0 (Rat.mk false [] []))
 else
 bif (1+(t.Op%7))==6 then
 some (TOp.mk 6 (t.A_%n) 0 0 (Rat.mk false [] []))
 else
 bif decide (0≤t.N) then
 bif decide (0<7) then
 bif inK .i64 (t.N%7) then
 bif inK .i64 ((t.N%7)-3) then
 some (TOp.mk 7 (t.A_%n) 0 ((t.N%7)-3) (Rat.mk false [] []))
 else none
 else none
 else none
 else none
 else none
 else none
 else none
 else none
 else none
 else none
 else none
 else none
 else none
 else none
theorem FK (t:aJ) (n:Int):∀r,Kt t n=some r→aj Tryz.prog 79 0 [AG aJ.D t,I n] [] (AG TOp.D r) []:=
 ak (enc:=fun r=>AG TOp.D r) (aP:=fun r=>[]) 10 (.br 100000023 (.op 50004 .wr (.call [] [] (qg (IntKind.wrap .i8 t.N) (t.B_%5)) .no fun x0=>.ret (TOp.mk 1 0 0 0 x0))) (.br 100000034 (.ps 1000003 [.b 11] (.ret (TOp.mk (1+(t.Op%7)) (t.A_%n) (t.B_%n) 0 (Rat.mk false [] [])))) (.br 100000041 (.ps 1000003 [.b 11] (.ret (TOp.mk 6 (t.A_%n) 0 0 (Rat.mk false [] [])))) (.ps 1000003 [.b 11] (.ret (TOp.mk 7 (t.A_%n) 0 ((t.N%7)-3) (Rat.mk false [] []))))))) Tryz.func79 (by kernel_rfl) (by kernel_rfl) (by kernel_rfl)
def vY (tA:Int) (a:List Int) (a1:List aJ) (a2:Int) (i:List Int) (i1:Nat) (o:List TOp):St:=⟨108,0,[(1,SL (cI .u8) a),(2,SL aJ.D a1),(3,I a2),(8,.ptr 10 0 0),(9,.ptr 11 0 0),(10,bI 100035 i),(12,I ((i1:Nat):Int))],[(10,BOX [I 0,bZ,bZ]),(11,BOX [I (1+(tA%3)),bI 100036 o,bZ]),(100035,bM 1 (cI .i64) i),(100036,bM 7 TOp.D o)]⟩
def vX (tA:Int) (a:List Int) (a1:List aJ) (a2:Int) (i:List Int) (o:List TOp):St:=⟨108,0,[(1,SL (cI .u8) a),(8,.ptr 10 0 0),(9,.ptr 11 0 0),(10,bI 100035 i)],[(10,BOX [I 0,bZ,bZ]),(11,BOX [I (1+(tA%3)),bI 100036 o,bZ]),(100035,bM 1 (cI .i64) i),(100036,bM 7 TOp.D o)]⟩
def iQ (tA:Int) (a:List Int) (a1:List aJ) (a2:Int) (i:List Int) (i1:Nat) (o:List TOp):Option ((List Int×Nat×List TOp)⊕(List Int×List TOp)):=
 bif decide (((i1:Nat):Int)<((a1.length:Nat):Int)) then
 bif decide (((i1:Nat):Int)<a2) then
 bif decide (i1<a1.length) then
 (Kt (nth a1 i1) ((i.length:Nat):Int)).bind fun x1=>
 (iG x1 i).bind fun x2=>
 bif decide (x2>12) then
 bif decide (i1<a1.length) then
 (pG (IntKind.wrap .i8 ((nth a1 i1).N)) 0).bind fun x3=>
 bif decide (o.length+1≤2147483648) then
 bif decide (i.length+1≤2147483648) then
 bif inK .i64 (((i1:Nat):Int)+1) then
 some (.inl (i++[1],i1+1,o++[TOp.mk 1 0 0 0 x3]))
 else none
 else none
 else none
 else none
 else
 bif decide (o.length+1≤2147483648) then
 bif decide (i.length+1≤2147483648) then
 bif inK .i64 (((i1:Nat):Int)+1) then
 some (.inl (i++[x2],i1+1,o++[x1]))
 else none
 else none
 else none
 else none
 else
 some (.inr (i,o))
 else
 some (.inr (i,o))
theorem Qe (tA:Int) (a:List Int) (a1:List aJ) (a2:Int):∀σ:List Int×Nat×List TOp,aN Tryz.prog (nav [1,1,1,1,0,1,0,0] (ah Tryz.f26)) (fun (σ:List Int×Nat×List TOp)=>vY tA a a1 a2 σ.1 σ.2.1 σ.2.2) (fun (_:List Int×List TOp)=>(.exit 2)) (fun (y:List Int×List TOp)=>vX tA a a1 a2 y.1 y.2) σ (iQ tA a a1 a2 σ.1 σ.2.1 σ.2.2)
 | ([],i1,[])=>aF 1010 (.op 80004 (.ln aJ.D a1) (.br 80010 (.br 100000038 (.op 100004 (.el aJ.D a1 (.up i1)) (.call [] [] (FK (nth a1 i1) 0) .no fun x1=>.call [] [] (kE x1 []) .no fun x2=>.br 100000052 (.op 130004 (.el aJ.D a1 (.up i1)) (.op 130010 .wr (.call [] [] (qg (IntKind.wrap .i8 ((nth a1 i1).N)) 0) .no fun x3=>.op 150008 (.ap TOp.D [] [TOp.mk 1 0 0 0 x3] 7 fun _=>⟨rfl,rfl⟩) (.op 160006 (.ap (cI .i64) [] [1] 1 fun _=>⟨rfl,rfl⟩) (.ps 1000003 [.k [1,2,3,8,9,10,12] [10,11,1014,1012],.m 1014 100035,.m 1012 100036] (.ret (.inl ([1],i1+1,[TOp.mk 1 0 0 0 x3])))))))) (.op 150008 (.ap TOp.D [] [x1] 7 fun _=>⟨rfl,rfl⟩) (.op 160006 (.ap (cI .i64) [] [x2] 1 fun _=>⟨rfl,rfl⟩) (.ps 1000003 [.k [1,2,3,8,9,10,12] [10,11,1014,1012],.m 1014 100035,.m 1012 100036] (.ret (.inl ([x2],i1+1,[x1])))))))) (.ps 1000003 [.k [1,8,9,10] [10,11,100035,100036]] (.ret (.inr ([],[]))))) (.ps 1000003 [.k [1,8,9,10] [10,11,100035,100036]] (.ret (.inr ([],[])))))) (by kernel_rfl)
 | ([],i1,o_h::o_t)=>aF 1010 (.op 80004 (.ln aJ.D a1) (.br 80010 (.br 100000038 (.op 100004 (.el aJ.D a1 (.up i1)) (.call [] [] (FK (nth a1 i1) 0) .no fun x1=>.call [] [] (kE x1 []) .no fun x2=>.br 100000052 (.op 130004 (.el aJ.D a1 (.up i1)) (.op 130010 .wr (.call [] [] (qg (IntKind.wrap .i8 ((nth a1 i1).N)) 0) .no fun x3=>.op 150008 (.ap TOp.D (o_h::o_t) [TOp.mk 1 0 0 0 x3] 7 fun _=>⟨rfl,rfl⟩) (.op 160006 (.ap (cI .i64) [] [1] 1 fun _=>⟨rfl,rfl⟩) (.ps 1000003 [.k [1,2,3,8,9,10,12] [10,11,1014,1012],.m 1014 100035,.m 1012 100036] (.ret (.inl ([1],i1+1,(o_h::o_t)++[TOp.mk 1 0 0 0 x3])))))))) (.op 150008 (.ap TOp.D (o_h::o_t) [x1] 7 fun _=>⟨rfl,rfl⟩) (.op 160006 (.ap (cI .i64) [] [x2] 1 fun _=>⟨rfl,rfl⟩) (.ps 1000003 [.k [1,2,3,8,9,10,12] [10,11,1014,1012],.m 1014 100035,.m 1012 100036] (.ret (.inl ([x2],i1+1,(o_h::o_t)++[x1])))))))) (.ps 1000003 [.k [1,8,9,10] [10,11,100035,100036]] (.ret (.inr ([],(o_h::o_t)))))) (.ps 1000003 [.k [1,8,9,10] [10,11,100035,100036]] (.ret (.inr ([],(o_h::o_t))))))) (by kernel_rfl)
 | (i_h::i_t,i1,[])=>aF 1010 (.op 80004 (.ln aJ.D a1) (.br 80010 (.br 100000038 (.op 100004 (.el aJ.D a1 (.up i1)) (.op 100010 (.ln (cI .i64) (i_h::i_t)) (.call [] [] (FK (nth a1 i1) (((i_h::i_t).length:Nat):Int)) .no fun x1=>.call [] [] (kE x1 (i_h::i_t)) (.yes fun _=>⟨rfl,trivial⟩) fun x2=>.br 100000052 (.op 130004 (.el aJ.D a1 (.up i1)) (.op 130010 .wr (.call [] [] (qg (IntKind.wrap .i8 ((nth a1 i1).N)) 0) .no fun x3=>.op 150008 (.ap TOp.D [] [TOp.mk 1 0 0 0 x3] 7 fun _=>⟨rfl,rfl⟩) (.op 160006 (.ap (cI .i64) (i_h::i_t) [1] 1 fun _=>⟨rfl,rfl⟩) (.ps 1000003 [.k [1,2,3,8,9,10,12] [10,11,1014,1012],.m 1014 100035,.m 1012 100036] (.ret (.inl ((i_h::i_t)++[1],i1+1,[TOp.mk 1 0 0 0 x3])))))))) (.op 150008 (.ap TOp.D [] [x1] 7 fun _=>⟨rfl,rfl⟩) (.op 160006 (.ap (cI .i64) (i_h::i_t) [x2] 1 fun _=>⟨rfl,rfl⟩) (.ps 1000003 [.k [1,2,3,8,9,10,12] [10,11,1014,1012],.m 1014 100035,.m 1012 100036] (.ret (.inl ((i_h::i_t)++[x2],i1+1,[x1]))))))))) (.ps 1000003 [.k [1,8,9,10] [10,11,100035,100036]] (.ret (.inr ((i_h::i_t),[]))))) (.ps 1000003 [.k [1,8,9,10] [10,11,100035,100036]] (.ret (.inr ((i_h::i_t),[])))))) (by kernel_rfl)
 | (i_h::i_t,i1,o_h::o_t)=>aF 1010 (.op 80004 (.ln aJ.D a1) (.br 80010 (.br 100000038 (.op 100004 (.el aJ.D a1 (.up i1)) (.op 100010 (.ln (cI .i64) (i_h::i_t)) (.call [] [] (FK (nth a1 i1) (((i_h::i_t).length:Nat):Int)) .no fun x1=>.call [] [] (kE x1 (i_h::i_t)) (.yes fun _=>⟨rfl,trivial⟩) fun x2=>.br 100000052 (.op 130004 (.el aJ.D a1 (.up i1)) (.op 130010 .wr (.call [] [] (qg (IntKind.wrap .i8 ((nth a1 i1).N)) 0) .no fun x3=>.op 150008 (.ap TOp.D (o_h::o_t) [TOp.mk 1 0 0 0 x3] 7 fun _=>⟨rfl,rfl⟩) (.op 160006 (.ap (cI .i64) (i_h::i_t) [1] 1 fun _=>⟨rfl,rfl⟩) (.ps 1000003 [.k [1,2,3,8,9,10,12] [10,11,1014,1012],.m 1014 100035,.m 1012 100036] (.ret (.inl ((i_h::i_t)++[1],i1+1,(o_h::o_t)++[TOp.mk 1 0 0 0 x3])))))))) (.op 150008 (.ap TOp.D (o_h::o_t) [x1] 7 fun _=>⟨rfl,rfl⟩) (.op 160006 (.ap (cI .i64) (i_h::i_t) [x2] 1 fun _=>⟨rfl,rfl⟩) (.ps 1000003 [.k [1,2,3,8,9,10,12] [10,11,1014,1012],.m 1014 100035,.m 1012 100036] (.ret (.inl ((i_h::i_t)++[x2],i1+1,(o_h::o_t)++[x1]))))))))) (.ps 1000003 [.k [1,8,9,10] [10,11,100035,100036]] (.ret (.inr ((i_h::i_t),(o_h::o_t)))))) (.ps 1000003 [.k [1,8,9,10] [10,11,100035,100036]] (.ret (.inr ((i_h::i_t),(o_h::o_t))))))) (by kernel_rfl)
def oI (tA:Int) (a:List Int) (a1:List aJ) (a2:Int) (i:List Int) (i1:Nat) (o:List TOp):Option (List Int×List TOp):=aK (fun (σ:List Int×Nat×List TOp)=>iQ tA a a1 a2 σ.1 σ.2.1 σ.2.2) FU (i,i1,o)
theorem FW (tA:Int) (a:List Int) (a1:List aJ) (a2:Int) (i:List Int) (i1:Nat) (o:List TOp):∀y:List Int×List TOp,oI tA a a1 a2 i i1 o=some y→Runs Tryz.prog (.loop (nav [1,1,1,1,0,1,0,0] (ah Tryz.f26))) (vY tA a a1 a2 i i1 o) ((.exit 2)) ((fun (y:List Int×List TOp)=>vX tA a a1 a2 y.1 y.2) y):=
 aS (head:=fun (σ:List Int×Nat×List TOp)=>vY tA a a1 a2 σ.1 σ.2.1 σ.2.2) (eo:=fun (_:List Int×List TOp)=>(.exit 2)) (so:=fun (y:List Int×List TOp)=>vX tA a a1 a2 y.1 y.2) (Qe tA a a1 a2) (fun _ h=>by cases h) FU (i,i1,o)
def vN (tA:Int) (a:List Int) (x1:List Int×List TOp) (i:Nat) (o:List Int):St:=⟨108,0,[(1,SL (cI .u8) a),(8,.ptr 10 0 0),(9,.ptr 11 0 0),(10,SL (cI .i64) x1.1),(15,I ((i:Nat):Int))],[(10,BOX [I 0,bZ,bZ]),(11,BOX [I (1+(tA%3)),SL TOp.D x1.2,bI 100039 o]),(100039,bM 1 (cI .i64) o)]⟩
def vK (tA:Int) (a:List Int) (x1:List Int×List TOp) (o:List Int):St:=⟨108,0,[(8,.ptr 10 0 0),(9,.ptr 11 0 0),(10,SL (cI .i64) x1.1)],[(10,BOX [I 0,bZ,bZ]),(11,BOX [I (1+(tA%3)),SL TOp.D x1.2,bI 100039 o]),(100039,bM 1 (cI .i64) o)]⟩
def kS (tA:Int) (a:List Int) (x1:List Int×List TOp) (i:Nat) (o:List Int):Option ((Nat×List Int)⊕(List Int)):=
 bif decide (((i:Nat):Int)<((a.length:Nat):Int)) then
 bif decide (((i:Nat):Int)<3) then
 bif inK .i64 (((x1.1.length:Nat):Int)-1) then
 bif decide (i<a.length) then
 bif inK .i64 (nth a i) then
 bif decide (0≤nth a i) then
 bif decide (0<((x1.1.length:Nat):Int)) then
 bif inK .i64 ((((x1.1.length:Nat):Int)-1)-((nth a i)%((x1.1.length:Nat):Int))) then
 bif decide (o.length+1≤2147483648) then
 bif inK .i64 (((i:Nat):Int)+1) then
 some (.inl (i+1,o++[(((x1.1.length:Nat):Int)-1)-((nth a i)%((x1.1.length:Nat):Int))]))
 else none
 else none
 else none
 else none
 else none
 else none
 else none
 else none
 else
 some (.inr o)
 else
 some (.inr o)
theorem Ox (tA:Int) (a:List Int) (x1:List Int×List TOp):∀σ:Nat×List Int,aN Tryz.prog (nav [1,1,1,1,1,0,1,0,0] (ah Tryz.f26)) (fun (σ:Nat×List Int)=>vN tA a x1 σ.1 σ.2) (fun (_:List Int)=>(.exit 4)) (fun (y:List Int)=>vK tA a x1 y) σ (kS tA a x1 σ.1 σ.2)
 | (i,[])=>aF 1010 (.op 180004 (.ln (cI .u8) a) (.br 180010 (.br 100000078 (.op 200006 (.ln (cI .i64) x1.1) (.op 200014 (.el (cI .u8) a (.up i)) (.op 200022 (.ln (cI .i64) x1.1) (.op 200030 (.ap (cI .i64) [] [(((x1.1.length:Nat):Int)-1)-((nth a i)%((x1.1.length:Nat):Int))] 1 fun _=>⟨rfl,rfl⟩) (.ps 1000003 [.k [1,8,9,10,15] [10,11,1011],.m 1011 100039] (.ret (.inl (i+1,[(((x1.1.length:Nat):Int)-1)-((nth a i)%((x1.1.length:Nat):Int))])))))))) (.ps 1000003 [.k [8,9,10] [10,11,100039]] (.ret (.inr [])))) (.ps 1000003 [.k [8,9,10] [10,11,100039]] (.ret (.inr []))))) (by kernel_rfl)
 | (i,o_h::o_t)=>aF 1010 (.op 180004 (.ln (cI .u8) a) (.br 180010 (.br 100000078 (.op 200006 (.ln (cI .i64) x1.1) (.op 200014 (.el (cI .u8) a (.up i)) (.op 200022 (.ln (cI .i64) x1.1) (.op 200030 (.ap (cI .i64) (o_h::o_t) [(((x1.1.length:Nat):Int)-1)-((nth a i)%((x1.1.length:Nat):Int))] 1 fun _=>⟨rfl,rfl⟩) (.ps 1000003 [.k [1,8,9,10,15] [10,11,1011],.m 1011 100039] (.ret (.inl (i+1,(o_h::o_t)++[(((x1.1.length:Nat):Int)-1)-((nth a i)%((x1.1.length:Nat):Int))])))))))) (.ps 1000003 [.k [8,9,10] [10,11,100039]] (.ret (.inr (o_h::o_t))))) (.ps 1000003 [.k [8,9,10] [10,11,100039]] (.ret (.inr (o_h::o_t)))))) (by kernel_rfl)
def oW (tA:Int) (a:List Int) (x1:List Int×List TOp) (i:Nat) (o:List Int):Option (List Int):=aK (fun (σ:Nat×List Int)=>kS tA a x1 σ.1 σ.2) FU (i,o)
theorem FV (tA:Int) (a:List Int) (x1:List Int×List TOp) (i:Nat) (o:List Int):∀y:List Int,oW tA a x1 i o=some y→Runs Tryz.prog (.loop (nav [1,1,1,1,1,0,1,0,0] (ah Tryz.f26))) (vN tA a x1 i o) ((.exit 4)) ((fun (y:List Int)=>vK tA a x1 y) y):=
 aS (head:=fun (σ:Nat×List Int)=>vN tA a x1 σ.1 σ.2) (eo:=fun (_:List Int)=>(.exit 4)) (so:=fun (y:List Int)=>vK tA a x1 y) (Ox tA a x1) (fun _ h=>by cases h) FU (i,o)
def EI (tA:Int) (a:List Int) (a1:List aJ) (a2:Int):Option Tape:=
 bif decide (0≤tA) then
 bif decide (0<3) then
 bif inK .i64 (tA%3) then
 bif inK .i64 (1+(tA%3)) then
 (BL tA a a1 a2 [] 0).bind fun x0=>
 bif x0.isEmpty then
 (oI tA a a1 a2 [] 0 []).bind fun x1=>
 (oW tA a x1 0 []).bind fun x2=>
 bif ((x2.length:Nat):Int)==0 then
 bif inK .i64 (((x1.1.length:Nat):Int)-1) then
 some (Tape.mk (1+(tA%3)) x1.2 [((x1.1.length:Nat):Int)-1])
 else none
 else
 some (Tape.mk (1+(tA%3)) x1.2 x2)
 else
 bif !x0.isEmpty then
 (oI tA a a1 a2 x0 0 []).bind fun x1=>
 (oW tA a x1 0 []).bind fun x2=>
 bif ((x2.length:Nat):Int)==0 then
 bif inK .i64 (((x1.1.length:Nat):Int)-1) then
 some (Tape.mk (1+(tA%3)) x1.2 [((x1.1.length:Nat):Int)-1])
 else none
 else
 some (Tape.mk (1+(tA%3)) x1.2 x2)
 else none
 else none
 else none
 else none
 else none
theorem XV (tA:Int) (a:List Int) (a1:List aJ) (a2:Int):∀r,EI tA a a1 a2=some r→aj Tryz.prog 26 0 [NI .u8 tA,SL (cI .u8) a,SL aJ.D a1,I a2] [] (AG Tape.D r) []:=
 ak (enc:=fun r=>AG Tape.D r) (aP:=fun r=>[]) 10 (.ps 1000001 [.k [1,2,3,8,9,10,11] [10,11,100035]] (.lp1 0 (Uk tA a a1 a2 [] 0) fun x0=>.cl 1 10 100035 1 (cI .i64) x0 (.ps 1 [.k [1,2,3,8,9,10] [10,11]] (.ps 1000001 [.k [1,2,3,8,9,10,12] [10,11,100035,100036]] (.lp1 0 (FW tA a a1 a2 [] 0 []) fun x1=>.oz 5 10 100035 1 (cI .i64) x1.1 (.ob 5 11 1 100036 7 TOp.D x1.2 (.ps 5 [.k [1,8,9,10] [10,11]] (.ps 1000001 [.k [1,8,9,10,15] [10,11,100039]] (.lp1 0 (FV tA a x1 0 []) fun x2=>.ob 9 11 2 100039 1 (cI .i64) x2 (.ps 9 [.k [8,9,10] [10,11]] (.op 210004 (.ln (cI .i64) x2) (.br 100000101 (.op 220002 (.ln (cI .i64) x1.1) (.ps 1000003 [.b 10] (.ret (Tape.mk (1+(tA%3)) x1.2 [((x1.1.length:Nat):Int)-1])))) (.ret (Tape.mk (1+(tA%3)) x1.2 x2)))))))))))) (.ps 1 [.k [1,2,3,8,9,10] [10,11,100035]] (.ps 1000001 [.k [1,2,3,8,9,10,12] [10,11,100035,100036]] (.ow 1000001 10 100035 1 (cI .i64) x0 .no (.ps 1000001 [.k [1,2,3,8,9,10,12] [10,11,100035,100036]] (.lp1 0 (FW tA a a1 a2 x0 0 []) fun x1=>.oz 5 10 100035 1 (cI .i64) x1.1 (.ob 5 11 1 100036 7 TOp.D x1.2 (.ps 5 [.k [1,8,9,10] [10,11]] (.ps 1000001 [.k [1,8,9,10,15] [10,11,100039]] (.lp1 0 (FV tA a x1 0 []) fun x2=>.ob 9 11 2 100039 1 (cI .i64) x2 (.ps 9 [.k [8,9,10] [10,11]] (.op 210004 (.ln (cI .i64) x2) (.br 100000101 (.op 220002 (.ln (cI .i64) x1.1) (.ps 1000003 [.b 10] (.ret (Tape.mk (1+(tA%3)) x1.2 [((x1.1.length:Nat):Int)-1])))) (.ret (Tape.mk (1+(tA%3)) x1.2 x2)))))))))))))))) Tryz.func26 (by kernel_rfl) (by kernel_rfl) (by kernel_rfl)
def Ad (tA:Tape) (a:List Rat) (i:List Rat) (i1:Nat):St:=⟨71,0,[(1,SL Rat.D a),(2,.ptr 10 0 0),(7,bI 100040 i),(8,I ((i1:Nat):Int))],[(10,BOX [I tA.Ins,SL TOp.D tA.Ops,SL (cI .i64) tA.aG]),(100040,bM 3 Rat.D i)]⟩
def Ak (tA:Tape) (a:List Rat) (i:List Rat):St:=⟨71,0,[(2,.ptr 10 0 0),(7,bI 100040 i)],[(10,BOX [I tA.Ins,SL TOp.D tA.Ops,SL (cI .i64) tA.aG]),(100040,bM 3 Rat.D i)]⟩
def nR (tA:Tape) (a:List Rat) (i:List Rat) (i1:Nat):Option ((List Rat×Nat)⊕(List Rat)):=
 bif decide (((i1:Nat):Int)<((a.length:Nat):Int)) then
 bif decide (i1<a.length) then
 (fP (nth a i1)).bind fun x1=>
 bif decide (i.length+1≤2147483648) then
 bif inK .i64 (((i1:Nat):Int)+1) then
 some (.inl (i++[x1],i1+1))
 else none
 else none
 else none
 else
 some (.inr i)
theorem Ui (tA:Tape) (a:List Rat):∀σ:List Rat×Nat,aN Tryz.prog (nav [1,1,1,1,1,0,1,0,0] (ah Tryz.f88)) (fun (σ:List Rat×Nat)=>Ad tA a σ.1 σ.2) (fun (_:List Rat)=>(.exit 0)) (fun (y:List Rat)=>Ak tA a y) σ (nR tA a σ.1 σ.2)
 | ([],i1)=>aF 1010 (.op 80004 (.ln Rat.D a) (.br 100000025 (.op 100006 (.el Rat.D a (.up i1)) (.call [] [] (dN (nth a i1)) .no fun x1=>.op 100014 (.ap Rat.D [] [x1] 3 fun _=>⟨rfl,rfl⟩) (.ps 1000003 [.k [1,2,7,8] [10,1011],.m 1011 100040] (.ret (.inl ([x1],i1+1)))))) (.ps 1000003 [.k [2,7] [10,100040]] (.ret (.inr []))))) (by kernel_rfl)
 | (i_h::i_t,i1)=>aF 1010 (.op 80004 (.ln Rat.D a) (.br 100000025 (.op 100006 (.el Rat.D a (.up i1)) (.call [] [] (dN (nth a i1)) .no fun x1=>.op 100014 (.ap Rat.D (i_h::i_t) [x1] 3 fun _=>⟨rfl,rfl⟩) (.ps 1000003 [.k [1,2,7,8] [10,1011],.m 1011 100040] (.ret (.inl ((i_h::i_t)++[x1],i1+1)))))) (.ps 1000003 [.k [2,7] [10,100040]] (.ret (.inr (i_h::i_t)))))) (by kernel_rfl)
def Ci (tA:Tape) (a:List Rat) (i:List Rat) (i1:Nat):Option (List Rat):=aK (fun (σ:List Rat×Nat)=>nR tA a σ.1 σ.2) FU (i,i1)
theorem Ue (tA:Tape) (a:List Rat) (i:List Rat) (i1:Nat):∀y:List Rat,Ci tA a i i1=some y→Runs Tryz.prog (.loop (nav [1,1,1,1,1,0,1,0,0] (ah Tryz.f88))) (Ad tA a i i1) ((.exit 0)) ((fun (y:List Rat)=>Ak tA a y) y):=
 aS (head:=fun (σ:List Rat×Nat)=>Ad tA a σ.1 σ.2) (eo:=fun (_:List Rat)=>(.exit 0)) (so:=fun (y:List Rat)=>Ak tA a y) (Ui tA a) (fun _ h=>by cases h) FU (i,i1)
def Pm (o:TOp) (a:Rat) (b:Rat):Option (Rat×Int):=
 bif o.Code==2 then
 (kG a b).bind fun x0=>
 some (x0,0)
 else
 bif o.Code==3 then
 (Gu a b).bind fun x0=>
 some (x0,0)
 else
 bif o.Code==4 then
 (nZ a b).bind fun x0=>
 some (x0,0)
 else
 bif o.Code==5 then
 (wQ a b).bind fun x0=>
 some (x0.1,x0.2)
 else
 bif o.Code==6 then
 (xP a).bind fun x0=>
 some (x0,0)
 else
 bif o.Code==7 then
 (qP a o.Exp).bind fun x0=>
 some (x0.1,x0.2)
 else
 (fP o.Num).bind fun x0=>
 some (x0,0)
theorem aap (o:TOp) (a:Rat) (b:Rat):∀r,Pm o a b=some r→aj Tryz.prog 145 0 [AG TOp.D o,AG Rat.D a,AG Rat.D b] [] (.tup [AG Rat.D r.1,I r.2]) []:=
 ak (enc:=fun r=>.tup [AG Rat.D r.1,I r.2]) (aP:=fun r=>[]) 10 (.br 100000010 (.call [] [] (dW a b) .no fun x0=>.ret (x0,0)) (.br 100000015 (.call [] [] (YU a b) .no fun x0=>.ret (x0,0)) (.br 100000020 (.call [] [] (qQ a b) .no fun x0=>.ret (x0,0)) (.br 100000025 (.call [] [] (IL a b) .no fun x0=>.ret (x0.1,x0.2)) (.br 100000032 (.call [] [] (IC a) .no fun x0=>.ret (x0,0)) (.br 100000036 (.call [] [] (Qg a o.Exp) .no fun x0=>.ret (x0.1,x0.2)) (.call [] [] (dN o.Num) .no fun x0=>.ret (x0,0)))))))) Tryz.func145 (by kernel_rfl) (by kernel_rfl) (by kernel_rfl)
def vO (tA:Tape) (i:List Rat) (i1:Nat):St:=⟨71,0,[(2,.ptr 10 0 0),(7,bI 100040 i),(9,I ((i1:Nat):Int))],[(10,BOX [I tA.Ins,SL TOp.D tA.Ops,SL (cI .i64) tA.aG]),(100040,bM 3 Rat.D i)]⟩
def wH (tA:Tape) (i:Int):St:=⟨71,0,[(4,bZ),(5,I i)],[]⟩
def vZ (tA:Tape) (i:List Rat):St:=⟨71,0,[(7,bI 100040 i)],[(100040,bM 3 Rat.D i)]⟩
def bT (tA:Tape) (i:List Rat) (i1:Nat):Option ((List Rat×Nat)⊕(Int⊕(List Rat))):=
 bif decide (((i1:Nat):Int)<((tA.Ops.length:Nat):Int)) then
 bif decide (i1<tA.Ops.length) then
 bif decide (0≤(nth tA.Ops i1).A_) then
 bif decide (((nth tA.Ops i1).A_).toNat<i.length) then
 bif decide (((nth tA.Ops i1).A_).toNat<i.length) then
 bif decide (0≤(nth tA.Ops i1).B_) then
 bif decide (((nth tA.Ops i1).B_).toNat<i.length) then
 bif decide (((nth tA.Ops i1).B_).toNat<i.length) then
 (Pm (nth tA.Ops i1) (nth i (((nth tA.Ops i1).A_).toNat)) (nth i (((nth tA.Ops i1).B_).toNat))).bind fun x2=>
 bif x2.2 != 0 then
 some (.inr (.inl x2.2))
 else
 bif decide (i.length+1≤2147483648) then
 bif inK .i64 (((i1:Nat):Int)+1) then
 some (.inl (i++[x2.1],i1+1))
 else none
 else none
 else none
 else none
 else none
 else none
 else none
 else none
 else none
 else
 some (.inr (.inr i))
theorem OZ (tA:Tape):∀σ:List Rat×Nat,aN Tryz.prog (nav [1,1,1,1,1,1,0,1,0,0] (ah Tryz.f88)) (fun (σ:List Rat×Nat)=>vO tA σ.1 σ.2) (fun (y:Int⊕(List Rat))=>aH y (fun _=>.ret) (fun _=>(.exit 2))) (fun (y:Int⊕(List Rat))=>aH y (fun y=>wH tA y) (fun y=>vZ tA y)) σ (bT tA σ.1 σ.2)
 | ([],i1)=>aF 1010 (.op 120006 (.ln TOp.D tA.Ops) (.br 100000040 (.op 140006 (.el TOp.D tA.Ops (.up i1)) (.op 150008 (.el Rat.D ([]:List Rat) .dn) .nil)) (.ps 1000003 [.k [7] [100040]] (.ret (.inr (.inr [])))))) (by kernel_rfl)
 | (i_h::i_t,i1)=>aF 1010 (.op 120006 (.ln TOp.D tA.Ops) (.br 100000040 (.op 140006 (.el TOp.D tA.Ops (.up i1)) (.op 150008 (.el Rat.D (i_h::i_t) .dn) (.op 150010 (.ld Rat.D (i_h::i_t)) (.op 150018 (.el Rat.D (i_h::i_t) .dn) (.op 150020 (.ld Rat.D (i_h::i_t)) (.call [] [] (aap (nth tA.Ops i1) (nth (i_h::i_t) (((nth tA.Ops i1).A_).toNat)) (nth (i_h::i_t) (((nth tA.Ops i1).B_).toNat))) .no fun x2=>.br 100000064 (.ps 1000003 [.k [4,5] []] (.ret (.inr (.inl x2.2)))) (.op 180006 (.ap Rat.D (i_h::i_t) [x2.1] 3 fun _=>⟨rfl,rfl⟩) (.ps 1000003 [.k [2,7,9] [10,1013],.m 1013 100040] (.ret (.inl ((i_h::i_t)++[x2.1],i1+1))))))))))) (.ps 1000003 [.k [7] [100040]] (.ret (.inr (.inr (i_h::i_t))))))) (by kernel_rfl)
def vT (tA:Tape) (i:List Rat) (i1:Nat):Option (Int⊕(List Rat)):=aK (fun (σ:List Rat×Nat)=>bT tA σ.1 σ.2) FU (i,i1)
theorem FC (tA:Tape) (i:List Rat) (i1:Nat):∀y:Int⊕(List Rat),vT tA i i1=some y→Runs Tryz.prog (.loop (nav [1,1,1,1,1,1,0,1,0,0] (ah Tryz.f88))) (vO tA i i1) (aH y (fun _=>.ret) (fun _=>(.exit 2))) ((fun (y:Int⊕(List Rat))=>aH y (fun y=>wH tA y) (fun y=>vZ tA y)) y):=
 aS (head:=fun (σ:List Rat×Nat)=>vO tA σ.1 σ.2) (eo:=fun (y:Int⊕(List Rat))=>aH y (fun _=>.ret) (fun _=>(.exit 2))) (so:=fun (y:Int⊕(List Rat))=>aH y (fun y=>wH tA y) (fun y=>vZ tA y)) (OZ tA) (fun y h=>by rcases y with y | y<;>cases h) FU (i,i1)
def yA (tA:Tape) (a:List Rat):Option (List Rat×Int):=
 (Fh tA).bind fun x0=>
 bif !x0 then
 some ([],1)
 else
 bif ((a.length:Nat):Int) != tA.Ins then
 some ([],8)
 else
 (Ci tA a [] 0).bind fun x1=>
 bif x1.isEmpty then
 (vT tA [] 0).bind fun y_=>aH y_ (fun x2=>
 some ([],x2))
 (fun x3=>
 some (x3,0))
 else
 bif !x1.isEmpty then
 (vT tA x1 0).bind fun y_=>aH y_ (fun x2=>
 some ([],x2))
 (fun x3=>
 some (x3,0))
 else none
theorem XR (tA:Tape) (a:List Rat):∀r,yA tA a=some r→aj Tryz.prog 88 0 [AG Tape.D tA,SL Rat.D a] [] (.tup [SL Rat.D r.1,I r.2]) []:=
 ak (enc:=fun r=>.tup [SL Rat.D r.1,I r.2]) (aP:=fun r=>[]) 10 (.call [] [] (WQ tA) .no fun x0=>.br 100000016 (.ps 1000003 [.n 4] (.ret ([],1))) (.op 40002 (.ln Rat.D a) (.br 100000021 (.ps 1000003 [.n 4] (.ret ([],8))) (.ps 1000001 [.k [1,2,7,8] [10,100040]] (.lp1 0 (Ue tA a [] 0) fun x1=>.cl 1 7 100040 3 Rat.D x1 (.ps 1 [.k [2,7] [10]] (.ps 1000001 [.k [2,7,9] [10,100040]] (.lp2 0 (FC tA [] 0) (fun x2=>.ps 1000003 [.n 4] (.ret ([],x2))) (fun x3=>.oz 5 7 100040 3 Rat.D x3 (.ps 5 [.k [7] []] (.ret (x3,0))))))) (.ps 1 [.k [2,7] [10,100040]] (.ps 1000001 [.k [2,7,9] [10,100040]] (.ow 1000001 7 100040 3 Rat.D x1 .no (.ps 1000001 [.k [2,7,9] [10,100040]] (.lp2 0 (FC tA x1 0) (fun x2=>.ps 1000003 [.n 4] (.ret ([],x2))) (fun x3=>.oz 5 7 100040 3 Rat.D x3 (.ps 5 [.k [7] []] (.ret (x3,0)))))))))))))) Tryz.func88 (by kernel_rfl) (by kernel_rfl) (by kernel_rfl)
def tZ (tA:Tape) (x0:List Rat×Int) (i1:Nat) (i2:List Edge) (i3:Nat):St:=⟨108,0,[(2,.ptr 10 0 0),(6,SL Rat.D x0.1),(8,bI 100043 i2),(9,I ((i1:Nat):Int)),(10,I ((i3:Nat):Int))],[(10,BOX [I tA.Ins,SL TOp.D tA.Ops,SL (cI .i64) tA.aG]),(100043,bM 5 Edge.D i2)]⟩
def tq (tA:Tape) (x0:List Rat×Int) (i1:Nat) (i2:List Edge):St:=⟨108,0,[(2,.ptr 10 0 0),(6,SL Rat.D x0.1),(8,bI 100043 i2),(9,I ((i1:Nat):Int))],[(10,BOX [I tA.Ins,SL TOp.D tA.Ops,SL (cI .i64) tA.aG]),(100043,bM 5 Edge.D i2)]⟩
def iw (tA:Tape) (x0:List Rat×Int) (i1:Nat) (i2:List Edge) (i3:Nat):Option ((List Edge×Nat)⊕(List Edge)):=
 bif decide (((i3:Nat):Int)<((tA.Ops.length:Nat):Int)) then
 bif decide (i3<tA.Ops.length) then
 bif decide (0≤(nth tA.Ops i3).A_) then
 bif decide (((nth tA.Ops i3).A_).toNat<x0.1.length) then
 bif decide (0≤(nth tA.Ops i3).B_) then
 bif decide (((nth tA.Ops i3).B_).toNat<x0.1.length) then
 (zS (nth tA.Ops i3) (nth x0.1 (((nth tA.Ops i3).A_).toNat)) (nth x0.1 (((nth tA.Ops i3).B_).toNat))).bind fun x1=>
 bif decide (((nth tA.Ops i3).Code)≥2) then
 bif decide (((nth tA.Ops i3).Code)≥2) then
 bif decide (((nth tA.Ops i3).Code)≤5) then
 (dH 0).bind fun x2=>
 bif ((nth tA.Ops i3).A_)==((i1:Nat):Int) then
 (kG x2 x1.1).bind fun x3=>
 bif ((nth tA.Ops i3).B_)==((i1:Nat):Int) then
 (kG x3 x1.2.1).bind fun x4=>
 bif ((nth tA.Ops i3).A_)==((i1:Nat):Int) then
 bif inK .i64 (tA.Ins+((i3:Nat):Int)) then
 bif decide (i2.length+1≤2147483648) then
 bif inK .i64 (((i3:Nat):Int)+1) then
 some (.inl (i2++[Edge.mk ((i1:Nat):Int) (tA.Ins+((i3:Nat):Int)) x4],i3+1))
 else none
 else none
 else none
 else
 bif ((nth tA.Ops i3).B_)==((i1:Nat):Int) then
 bif inK .i64 (tA.Ins+((i3:Nat):Int)) then
 bif decide (i2.length+1≤2147483648) then
 bif inK .i64 (((i3:Nat):Int)+1) then
 some (.inl (i2++[Edge.mk ((i1:Nat):Int) (tA.Ins+((i3:Nat):Int)) x4],i3+1))
 else none
 else none
 else none
 else
 bif inK .i64 (((i3:Nat):Int)+1) then
 some (.inl (i2,i3+1))
 else none
 else
 bif ((nth tA.Ops i3).A_)==((i1:Nat):Int) then
 bif inK .i64 (tA.Ins+((i3:Nat):Int)) then
 bif decide (i2.length+1≤2147483648) then
 bif inK .i64 (((i3:Nat):Int)+1) then
 some (.inl (i2++[Edge.mk ((i1:Nat):Int) (tA.Ins+((i3:Nat):Int)) x3],i3+1))
 else none
 else none
 else none
 else
 bif ((nth tA.Ops i3).B_)==((i1:Nat):Int) then
 bif inK .i64 (tA.Ins+((i3:Nat):Int)) then
 bif decide (i2.length+1≤2147483648) then
 bif inK .i64 (((i3:Nat):Int)+1) then
 some (.inl (i2++[Edge.mk ((i1:Nat):Int) (tA.Ins+((i3:Nat):Int)) x3],i3+1))
 else none
 else none
 else none
 else
 bif inK .i64 (((i3:Nat):Int)+1) then
 some (.inl (i2,i3+1))
 else none
 else
 bif ((nth tA.Ops i3).B_)==((i1:Nat):Int) then
 (kG x2 x1.2.1).bind fun x3=>
 bif ((nth tA.Ops i3).A_)==((i1:Nat):Int) then
 bif inK .i64 (tA.Ins+((i3:Nat):Int)) then
 bif decide (i2.length+1≤2147483648) then
 bif inK .i64 (((i3:Nat):Int)+1) then
 some (.inl (i2++[Edge.mk ((i1:Nat):Int) (tA.Ins+((i3:Nat):Int)) x3],i3+1))
 else none
 else none
 else none
 else
 bif ((nth tA.Ops i3).B_)==((i1:Nat):Int) then
 bif inK .i64 (tA.Ins+((i3:Nat):Int)) then
 bif decide (i2.length+1≤2147483648) then
 bif inK .i64 (((i3:Nat):Int)+1) then
 some (.inl (i2++[Edge.mk ((i1:Nat):Int) (tA.Ins+((i3:Nat):Int)) x3],i3+1))
 else none
 else none
 else none
 else
 bif inK .i64 (((i3:Nat):Int)+1) then
 some (.inl (i2,i3+1))
 else none
 else
 bif ((nth tA.Ops i3).A_)==((i1:Nat):Int) then
 bif inK .i64 (tA.Ins+((i3:Nat):Int)) then
 bif decide (i2.length+1≤2147483648) then
 bif inK .i64 (((i3:Nat):Int)+1) then
 some (.inl (i2++[Edge.mk ((i1:Nat):Int) (tA.Ins+((i3:Nat):Int)) x2],i3+1))
 else none
 else none
 else none
 else
 bif ((nth tA.Ops i3).B_)==((i1:Nat):Int) then
 bif inK .i64 (tA.Ins+((i3:Nat):Int)) then
 bif decide (i2.length+1≤2147483648) then
 bif inK .i64 (((i3:Nat):Int)+1) then
 some (.inl (i2++[Edge.mk ((i1:Nat):Int) (tA.Ins+((i3:Nat):Int)) x2],i3+1))
 else none
 else none
 else none
 else
 bif inK .i64 (((i3:Nat):Int)+1) then
 some (.inl (i2,i3+1))
 else none
 else
 (dH 0).bind fun x2=>
 bif ((nth tA.Ops i3).A_)==((i1:Nat):Int) then
 (kG x2 x1.1).bind fun x3=>
 bif ((nth tA.Ops i3).A_)==((i1:Nat):Int) then
 bif inK .i64 (tA.Ins+((i3:Nat):Int)) then
 bif decide (i2.length+1≤2147483648) then
 bif inK .i64 (((i3:Nat):Int)+1) then
 some (.inl (i2++[Edge.mk ((i1:Nat):Int) (tA.Ins+((i3:Nat):Int)) x3],i3+1))
 else none
 else none
 else none
 else
 bif inK .i64 (((i3:Nat):Int)+1) then
 some (.inl (i2,i3+1))
 else none
 else
 bif ((nth tA.Ops i3).A_)==((i1:Nat):Int) then
 bif inK .i64 (tA.Ins+((i3:Nat):Int)) then
 bif decide (i2.length+1≤2147483648) then
 bif inK .i64 (((i3:Nat):Int)+1) then
 some (.inl (i2++[Edge.mk ((i1:Nat):Int) (tA.Ins+((i3:Nat):Int)) x2],i3+1))
 else none
 else none
 else none
 else
 bif inK .i64 (((i3:Nat):Int)+1) then
 some (.inl (i2,i3+1))
 else none
 else
 (dH 0).bind fun x2=>
 bif ((nth tA.Ops i3).A_)==((i1:Nat):Int) then
 (kG x2 x1.1).bind fun x3=>
 bif ((nth tA.Ops i3).A_)==((i1:Nat):Int) then
 bif inK .i64 (tA.Ins+((i3:Nat):Int)) then
 bif decide (i2.length+1≤2147483648) then
 bif inK .i64 (((i3:Nat):Int)+1) then
 some (.inl (i2++[Edge.mk ((i1:Nat):Int) (tA.Ins+((i3:Nat):Int)) x3],i3+1))
 else none
 else none
 else none
 else
 bif inK .i64 (((i3:Nat):Int)+1) then
 some (.inl (i2,i3+1))
 else none
 else
 bif ((nth tA.Ops i3).A_)==((i1:Nat):Int) then
 bif inK .i64 (tA.Ins+((i3:Nat):Int)) then
 bif decide (i2.length+1≤2147483648) then
 bif inK .i64 (((i3:Nat):Int)+1) then
 some (.inl (i2++[Edge.mk ((i1:Nat):Int) (tA.Ins+((i3:Nat):Int)) x2],i3+1))
 else none
 else none
 else none
 else
 bif inK .i64 (((i3:Nat):Int)+1) then
 some (.inl (i2,i3+1))
 else none
 else
 bif decide (((nth tA.Ops i3).Code)≥2) then
 bif decide (((nth tA.Ops i3).Code)≤5) then
 (dH 0).bind fun x2=>
 bif ((nth tA.Ops i3).B_)==((i1:Nat):Int) then
 (kG x2 x1.2.1).bind fun x3=>
 bif ((nth tA.Ops i3).B_)==((i1:Nat):Int) then
 bif inK .i64 (tA.Ins+((i3:Nat):Int)) then
 bif decide (i2.length+1≤2147483648) then
 bif inK .i64 (((i3:Nat):Int)+1) then
 some (.inl (i2++[Edge.mk ((i1:Nat):Int) (tA.Ins+((i3:Nat):Int)) x3],i3+1))
 else none
 else none
 else none
 else
 bif inK .i64 (((i3:Nat):Int)+1) then
 some (.inl (i2,i3+1))
 else none
 else
 bif ((nth tA.Ops i3).B_)==((i1:Nat):Int) then
 bif inK .i64 (tA.Ins+((i3:Nat):Int)) then
 bif decide (i2.length+1≤2147483648) then
 bif inK .i64 (((i3:Nat):Int)+1) then
 some (.inl (i2++[Edge.mk ((i1:Nat):Int) (tA.Ins+((i3:Nat):Int)) x2],i3+1))
 else none
 else none
 else none
 else
 bif inK .i64 (((i3:Nat):Int)+1) then
 some (.inl (i2,i3+1))
 else none
 else
 (dH 0).bind fun x2=>
 bif inK .i64 (((i3:Nat):Int)+1) then
 some (.inl (i2,i3+1))
 else none
 else
 (dH 0).bind fun x2=>
 bif inK .i64 (((i3:Nat):Int)+1) then
 some (.inl (i2,i3+1))
 else none
 else none
 else none
 else none
 else none
 else none
 else
 some (.inr i2)
theorem Ns (tA:Tape) (x0:List Rat×Int) (i1:Nat):∀σ:List Edge×Nat,aN Tryz.prog (nav [1,1,1,1,0,1,0,0,1,0,0,1,0,0] (ah Tryz.f28)) (fun (σ:List Edge×Nat)=>tZ tA x0 i1 σ.1 σ.2) (fun (_:List Edge)=>(.exit 2)) (fun (y:List Edge)=>tq tA x0 i1 y) σ (iw tA x0 i1 σ.1 σ.2)
 | ([],i3)=>aF 2010 (.op 90006 (.ln TOp.D tA.Ops) (.br 100000037 (.op 110006 (.el TOp.D tA.Ops (.up i3)) (.op 120008 (.el Rat.D x0.1 .dn) (.op 120018 (.el Rat.D x0.1 .dn) (.call [] [] (J8 (nth tA.Ops i3) (nth x0.1 (((nth tA.Ops i3).A_).toNat)) (nth x0.1 (((nth tA.Ops i3).B_).toNat))) .no fun x1=>.br 130008 (.br 140008 (.br 140018 (.call [] [] (bf 0) .no fun x2=>.br 100000085 (.call [] [] (dW x2 x1.1) .no fun x3=>.br 100000089 (.call [] [] (dW x3 x1.2.1) .no fun x4=>.br 200004 (.op 210018 (.ap Edge.D [] [Edge.mk ((i1:Nat):Int) (tA.Ins+((i3:Nat):Int)) x4] 5 fun _=>⟨rfl,rfl⟩) (.ps 1000003 [.k [2,6,8,9,10] [10,2015],.m 2015 100043] (.ret (.inl ([Edge.mk ((i1:Nat):Int) (tA.Ins+((i3:Nat):Int)) x4],i3+1))))) (.br 100000096 (.op 210018 (.ap Edge.D [] [Edge.mk ((i1:Nat):Int) (tA.Ins+((i3:Nat):Int)) x4] 5 fun _=>⟨rfl,rfl⟩) (.ps 1000003 [.k [2,6,8,9,10] [10,2015],.m 2015 100043] (.ret (.inl ([Edge.mk ((i1:Nat):Int) (tA.Ins+((i3:Nat):Int)) x4],i3+1))))) (.ps 1000003 [.k [2,6,8,9,10] [10,100043]] (.ret (.inl ([],i3+1)))))) (.br 200004 (.op 210018 (.ap Edge.D [] [Edge.mk ((i1:Nat):Int) (tA.Ins+((i3:Nat):Int)) x3] 5 fun _=>⟨rfl,rfl⟩) (.ps 1000003 [.k [2,6,8,9,10] [10,2015],.m 2015 100043] (.ret (.inl ([Edge.mk ((i1:Nat):Int) (tA.Ins+((i3:Nat):Int)) x3],i3+1))))) (.br 100000096 (.op 210018 (.ap Edge.D [] [Edge.mk ((i1:Nat):Int) (tA.Ins+((i3:Nat):Int)) x3] 5 fun _=>⟨rfl,rfl⟩) (.ps 1000003 [.k [2,6,8,9,10] [10,2015],.m 2015 100043] (.ret (.inl ([Edge.mk ((i1:Nat):Int) (tA.Ins+((i3:Nat):Int)) x3],i3+1))))) (.ps 1000003 [.k [2,6,8,9,10] [10,100043]] (.ret (.inl ([],i3+1))))))) (.br 100000089 (.call [] [] (dW x2 x1.2.1) .no fun x3=>.br 200004 (.op 210018 (.ap Edge.D [] [Edge.mk ((i1:Nat):Int) (tA.Ins+((i3:Nat):Int)) x3] 5 fun _=>⟨rfl,rfl⟩) (.ps 1000003 [.k [2,6,8,9,10] [10,2015],.m 2015 100043] (.ret (.inl ([Edge.mk ((i1:Nat):Int) (tA.Ins+((i3:Nat):Int)) x3],i3+1))))) (.br 100000096 (.op 210018 (.ap Edge.D [] [Edge.mk ((i1:Nat):Int) (tA.Ins+((i3:Nat):Int)) x3] 5 fun _=>⟨rfl,rfl⟩) (.ps 1000003 [.k [2,6,8,9,10] [10,2015],.m 2015 100043] (.ret (.inl ([Edge.mk ((i1:Nat):Int) (tA.Ins+((i3:Nat):Int)) x3],i3+1))))) (.ps 1000003 [.k [2,6,8,9,10] [10,100043]] (.ret (.inl ([],i3+1)))))) (.br 200004 (.op 210018 (.ap Edge.D [] [Edge.mk ((i1:Nat):Int) (tA.Ins+((i3:Nat):Int)) x2] 5 fun _=>⟨rfl,rfl⟩) (.ps 1000003 [.k [2,6,8,9,10] [10,2015],.m 2015 100043] (.ret (.inl ([Edge.mk ((i1:Nat):Int) (tA.Ins+((i3:Nat):Int)) x2],i3+1))))) (.br 100000096 (.op 210018 (.ap Edge.D [] [Edge.mk ((i1:Nat):Int) (tA.Ins+((i3:Nat):Int)) x2] 5 fun _=>⟨rfl,rfl⟩) (.ps 1000003 [.k [2,6,8,9,10] [10,2015],.m 2015 100043] (.ret (.inl ([Edge.mk ((i1:Nat):Int) (tA.Ins+((i3:Nat):Int)) x2],i3+1))))) (.ps 1000003 [.k [2,6,8,9,10] [10,100043]] (.ret (.inl ([],i3+1)))))))) (.call [] [] (bf 0) .no fun x2=>.br 100000085 (.call [] [] (dW x2 x1.1) .no fun x3=>.br 200004 (.op 210018 (.ap Edge.D [] [Edge.mk ((i1:Nat):Int) (tA.Ins+((i3:Nat):Int)) x3] 5 fun _=>⟨rfl,rfl⟩) (.ps 1000003 [.k [2,6,8,9,10] [10,2015],.m 2015 100043] (.ret (.inl ([Edge.mk ((i1:Nat):Int) (tA.Ins+((i3:Nat):Int)) x3],i3+1))))) (.ps 1000003 [.k [2,6,8,9,10] [10,100043]] (.ret (.inl ([],i3+1))))) (.br 200004 (.op 210018 (.ap Edge.D [] [Edge.mk ((i1:Nat):Int) (tA.Ins+((i3:Nat):Int)) x2] 5 fun _=>⟨rfl,rfl⟩) (.ps 1000003 [.k [2,6,8,9,10] [10,2015],.m 2015 100043] (.ret (.inl ([Edge.mk ((i1:Nat):Int) (tA.Ins+((i3:Nat):Int)) x2],i3+1))))) (.ps 1000003 [.k [2,6,8,9,10] [10,100043]] (.ret (.inl ([],i3+1))))))) (.call [] [] (bf 0) .no fun x2=>.br 100000085 (.call [] [] (dW x2 x1.1) .no fun x3=>.br 200004 (.op 210018 (.ap Edge.D [] [Edge.mk ((i1:Nat):Int) (tA.Ins+((i3:Nat):Int)) x3] 5 fun _=>⟨rfl,rfl⟩) (.ps 1000003 [.k [2,6,8,9,10] [10,2015],.m 2015 100043] (.ret (.inl ([Edge.mk ((i1:Nat):Int) (tA.Ins+((i3:Nat):Int)) x3],i3+1))))) (.ps 1000003 [.k [2,6,8,9,10] [10,100043]] (.ret (.inl ([],i3+1))))) (.br 200004 (.op 210018 (.ap Edge.D [] [Edge.mk ((i1:Nat):Int) (tA.Ins+((i3:Nat):Int)) x2] 5 fun _=>⟨rfl,rfl⟩) (.ps 1000003 [.k [2,6,8,9,10] [10,2015],.m 2015 100043] (.ret (.inl ([Edge.mk ((i1:Nat):Int) (tA.Ins+((i3:Nat):Int)) x2],i3+1))))) (.ps 1000003 [.k [2,6,8,9,10] [10,100043]] (.ret (.inl ([],i3+1))))))) (.br 140008 (.br 140018 (.call [] [] (bf 0) .no fun x2=>.br 100000089 (.call [] [] (dW x2 x1.2.1) .no fun x3=>.br 100000096 (.op 210018 (.ap Edge.D [] [Edge.mk ((i1:Nat):Int) (tA.Ins+((i3:Nat):Int)) x3] 5 fun _=>⟨rfl,rfl⟩) (.ps 1000003 [.k [2,6,8,9,10] [10,2015],.m 2015 100043] (.ret (.inl ([Edge.mk ((i1:Nat):Int) (tA.Ins+((i3:Nat):Int)) x3],i3+1))))) (.ps 1000003 [.k [2,6,8,9,10] [10,100043]] (.ret (.inl ([],i3+1))))) (.br 100000096 (.op 210018 (.ap Edge.D [] [Edge.mk ((i1:Nat):Int) (tA.Ins+((i3:Nat):Int)) x2] 5 fun _=>⟨rfl,rfl⟩) (.ps 1000003 [.k [2,6,8,9,10] [10,2015],.m 2015 100043] (.ret (.inl ([Edge.mk ((i1:Nat):Int) (tA.Ins+((i3:Nat):Int)) x2],i3+1))))) (.ps 1000003 [.k [2,6,8,9,10] [10,100043]] (.ret (.inl ([],i3+1)))))) (.call [] [] (bf 0) .no fun x2=>.ps 1000003 [.k [2,6,8,9,10] [10,100043]] (.ret (.inl ([],i3+1))))) (.call [] [] (bf 0) .no fun x2=>.ps 1000003 [.k [2,6,8,9,10] [10,100043]] (.ret (.inl ([],i3+1))))))))) (.ps 1000003 [.k [2,6,8,9] [10,100043]] (.ret (.inr []))))) (by kernel_rfl)
 | (lY::lF,i3)=>aF 2010 (.op 90006 (.ln TOp.D tA.Ops) (.br 100000037 (.op 110006 (.el TOp.D tA.Ops (.up i3)) (.op 120008 (.el Rat.D x0.1 .dn) (.op 120018 (.el Rat.D x0.1 .dn) (.call [] [] (J8 (nth tA.Ops i3) (nth x0.1 (((nth tA.Ops i3).A_).toNat)) (nth x0.1 (((nth tA.Ops i3).B_).toNat))) .no fun x1=>.br 130008 (.br 140008 (.br 140018 (.call [] [] (bf 0) .no fun x2=>.br 100000085 (.call [] [] (dW x2 x1.1) .no fun x3=>.br 100000089 (.call [] [] (dW x3 x1.2.1) .no fun x4=>.br 200004 (.op 210018 (.ap Edge.D (lY::lF) [Edge.mk ((i1:Nat):Int) (tA.Ins+((i3:Nat):Int)) x4] 5 fun _=>⟨rfl,rfl⟩) (.ps 1000003 [.k [2,6,8,9,10] [10,2015],.m 2015 100043] (.ret (.inl ((lY::lF)++[Edge.mk ((i1:Nat):Int) (tA.Ins+((i3:Nat):Int)) x4],i3+1))))) (.br 100000096 (.op 210018 (.ap Edge.D (lY::lF) [Edge.mk ((i1:Nat):Int) (tA.Ins+((i3:Nat):Int)) x4] 5 fun _=>⟨rfl,rfl⟩) (.ps 1000003 [.k [2,6,8,9,10] [10,2015],.m 2015 100043] (.ret (.inl ((lY::lF)++[Edge.mk ((i1:Nat):Int) (tA.Ins+((i3:Nat):Int)) x4],i3+1))))) (.ps 1000003 [.k [2,6,8,9,10] [10,100043]] (.ret (.inl ((lY::lF),i3+1)))))) (.br 200004 (.op 210018 (.ap Edge.D (lY::lF) [Edge.mk ((i1:Nat):Int) (tA.Ins+((i3:Nat):Int)) x3] 5 fun _=>⟨rfl,rfl⟩) (.ps 1000003 [.k [2,6,8,9,10] [10,2015],.m 2015 100043] (.ret (.inl ((lY::lF)++[Edge.mk ((i1:Nat):Int) (tA.Ins+((i3:Nat):Int)) x3],i3+1))))) (.br 100000096 (.op 210018 (.ap Edge.D (lY::lF) [Edge.mk ((i1:Nat):Int) (tA.Ins+((i3:Nat):Int)) x3] 5 fun _=>⟨rfl,rfl⟩) (.ps 1000003 [.k [2,6,8,9,10] [10,2015],.m 2015 100043] (.ret (.inl ((lY::lF)++[Edge.mk ((i1:Nat):Int) (tA.Ins+((i3:Nat):Int)) x3],i3+1))))) (.ps 1000003 [.k [2,6,8,9,10] [10,100043]] (.ret (.inl ((lY::lF),i3+1))))))) (.br 100000089 (.call [] [] (dW x2 x1.2.1) .no fun x3=>.br 200004 (.op 210018 (.ap Edge.D (lY::lF) [Edge.mk ((i1:Nat):Int) (tA.Ins+((i3:Nat):Int)) x3] 5 fun _=>⟨rfl,rfl⟩) (.ps 1000003 [.k [2,6,8,9,10] [10,2015],.m 2015 100043] (.ret (.inl ((lY::lF)++[Edge.mk ((i1:Nat):Int) (tA.Ins+((i3:Nat):Int)) x3],i3+1))))) (.br 100000096 (.op 210018 (.ap Edge.D (lY::lF) [Edge.mk ((i1:Nat):Int) (tA.Ins+((i3:Nat):Int)) x3] 5 fun _=>⟨rfl,rfl⟩) (.ps 1000003 [.k [2,6,8,9,10] [10,2015],.m 2015 100043] (.ret (.inl ((lY::lF)++[Edge.mk ((i1:Nat):Int) (tA.Ins+((i3:Nat):Int)) x3],i3+1))))) (.ps 1000003 [.k [2,6,8,9,10] [10,100043]] (.ret (.inl ((lY::lF),i3+1)))))) (.br 200004 (.op 210018 (.ap Edge.D (lY::lF) [Edge.mk ((i1:Nat):Int) (tA.Ins+((i3:Nat):Int)) x2] 5 fun _=>⟨rfl,rfl⟩) (.ps 1000003 [.k [2,6,8,9,10] [10,2015],.m 2015 100043] (.ret (.inl ((lY::lF)++[Edge.mk ((i1:Nat):Int) (tA.Ins+((i3:Nat):Int)) x2],i3+1))))) (.br 100000096 (.op 210018 (.ap Edge.D (lY::lF) [Edge.mk ((i1:Nat):Int) (tA.Ins+((i3:Nat):Int)) x2] 5 fun _=>⟨rfl,rfl⟩) (.ps 1000003 [.k [2,6,8,9,10] [10,2015],.m 2015 100043] (.ret (.inl ((lY::lF)++[Edge.mk ((i1:Nat):Int) (tA.Ins+((i3:Nat):Int)) x2],i3+1))))) (.ps 1000003 [.k [2,6,8,9,10] [10,100043]] (.ret (.inl ((lY::lF),i3+1)))))))) (.call [] [] (bf 0) .no fun x2=>.br 100000085 (.call [] [] (dW x2 x1.1) .no fun x3=>.br 200004 (.op 210018 (.ap Edge.D (lY::lF) [Edge.mk ((i1:Nat):Int) (tA.Ins+((i3:Nat):Int)) x3] 5 fun _=>⟨rfl,rfl⟩) (.ps 1000003 [.k [2,6,8,9,10] [10,2015],.m 2015 100043] (.ret (.inl ((lY::lF)++[Edge.mk ((i1:Nat):Int) (tA.Ins+((i3:Nat):Int)) x3],i3+1))))) (.ps 1000003 [.k [2,6,8,9,10] [10,100043]] (.ret (.inl ((lY::lF),i3+1))))) (.br 200004 (.op 210018 (.ap Edge.D (lY::lF) [Edge.mk ((i1:Nat):Int) (tA.Ins+((i3:Nat):Int)) x2] 5 fun _=>⟨rfl,rfl⟩) (.ps 1000003 [.k [2,6,8,9,10] [10,2015],.m 2015 100043] (.ret (.inl ((lY::lF)++[Edge.mk ((i1:Nat):Int) (tA.Ins+((i3:Nat):Int)) x2],i3+1))))) (.ps 1000003 [.k [2,6,8,9,10] [10,100043]] (.ret (.inl ((lY::lF),i3+1))))))) (.call [] [] (bf 0) .no fun x2=>.br 100000085 (.call [] [] (dW x2 x1.1) .no fun x3=>.br 200004 (.op 210018 (.ap Edge.D (lY::lF) [Edge.mk ((i1:Nat):Int) (tA.Ins+((i3:Nat):Int)) x3] 5 fun _=>⟨rfl,rfl⟩) (.ps 1000003 [.k [2,6,8,9,10] [10,2015],.m 2015 100043] (.ret (.inl ((lY::lF)++[Edge.mk ((i1:Nat):Int) (tA.Ins+((i3:Nat):Int)) x3],i3+1))))) (.ps 1000003 [.k [2,6,8,9,10] [10,100043]] (.ret (.inl ((lY::lF),i3+1))))) (.br 200004 (.op 210018 (.ap Edge.D (lY::lF) [Edge.mk ((i1:Nat):Int) (tA.Ins+((i3:Nat):Int)) x2] 5 fun _=>⟨rfl,rfl⟩) (.ps 1000003 [.k [2,6,8,9,10] [10,2015],.m 2015 100043] (.ret (.inl ((lY::lF)++[Edge.mk ((i1:Nat):Int) (tA.Ins+((i3:Nat):Int)) x2],i3+1))))) (.ps 1000003 [.k [2,6,8,9,10] [10,100043]] (.ret (.inl ((lY::lF),i3+1))))))) (.br 140008 (.br 140018 (.call [] [] (bf 0) .no fun x2=>.br 100000089 (.call [] [] (dW x2 x1.2.1) .no fun x3=>.br 100000096 (.op 210018 (.ap Edge.D (lY::lF) [Edge.mk ((i1:Nat):Int) (tA.Ins+((i3:Nat):Int)) x3] 5 fun _=>⟨rfl,rfl⟩) (.ps 1000003 [.k [2,6,8,9,10] [10,2015],.m 2015 100043] (.ret (.inl ((lY::lF)++[Edge.mk ((i1:Nat):Int) (tA.Ins+((i3:Nat):Int)) x3],i3+1))))) (.ps 1000003 [.k [2,6,8,9,10] [10,100043]] (.ret (.inl ((lY::lF),i3+1))))) (.br 100000096 (.op 210018 (.ap Edge.D (lY::lF) [Edge.mk ((i1:Nat):Int) (tA.Ins+((i3:Nat):Int)) x2] 5 fun _=>⟨rfl,rfl⟩) (.ps 1000003 [.k [2,6,8,9,10] [10,2015],.m 2015 100043] (.ret (.inl ((lY::lF)++[Edge.mk ((i1:Nat):Int) (tA.Ins+((i3:Nat):Int)) x2],i3+1))))) (.ps 1000003 [.k [2,6,8,9,10] [10,100043]] (.ret (.inl ((lY::lF),i3+1)))))) (.call [] [] (bf 0) .no fun x2=>.ps 1000003 [.k [2,6,8,9,10] [10,100043]] (.ret (.inl ((lY::lF),i3+1))))) (.call [] [] (bf 0) .no fun x2=>.ps 1000003 [.k [2,6,8,9,10] [10,100043]] (.ret (.inl ((lY::lF),i3+1))))))))) (.ps 1000003 [.k [2,6,8,9] [10,100043]] (.ret (.inr (lY::lF)))))) (by kernel_rfl)
def sQ (tA:Tape) (x0:List Rat×Int) (i1:Nat) (i2:List Edge) (i3:Nat):Option (List Edge):=aK (fun (σ:List Edge×Nat)=>iw tA x0 i1 σ.1 σ.2) FU (i2,i3)
theorem Eu (tA:Tape) (x0:List Rat×Int) (i1:Nat) (i2:List Edge) (i3:Nat):∀y:List Edge,sQ tA x0 i1 i2 i3=some y→Runs Tryz.prog (.loop (nav [1,1,1,1,0,1,0,0,1,0,0,1,0,0] (ah Tryz.f28))) (tZ tA x0 i1 i2 i3) ((.exit 2)) ((fun (y:List Edge)=>tq tA x0 i1 y) y):=
 aS (head:=fun (σ:List Edge×Nat)=>tZ tA x0 i1 σ.1 σ.2) (eo:=fun (_:List Edge)=>(.exit 2)) (so:=fun (y:List Edge)=>tq tA x0 i1 y) (Ns tA x0 i1) (fun _ h=>by cases h) FU (i2,i3)
def xH (tA:Tape) (x0:List Rat×Int) (i:List Edge) (i1:Nat):St:=⟨108,0,[(2,.ptr 10 0 0),(6,SL Rat.D x0.1),(8,bI 100043 i),(9,I ((i1:Nat):Int))],[(10,BOX [I tA.Ins,SL TOp.D tA.Ops,SL (cI .i64) tA.aG]),(100043,bM 5 Edge.D i)]⟩
def xK (tA:Tape) (x0:List Rat×Int) (i:List Edge):St:=⟨108,0,[(8,bI 100043 i)],[(100043,bM 5 Edge.D i)]⟩
def mF (tA:Tape) (x0:List Rat×Int) (i:List Edge) (i1:Nat):Option ((List Edge×Nat)⊕(List Edge)):=
 bif decide (((i1:Nat):Int)<((x0.1.length:Nat):Int)) then
 (sQ tA x0 i1 i 0).bind fun x1=>
 bif inK .i64 (((i1:Nat):Int)+1) then
 some (.inl (x1,i1+1))
 else none
 else
 some (.inr i)
theorem QL (tA:Tape) (x0:List Rat×Int):∀σ:List Edge×Nat,aN Tryz.prog (nav [1,1,1,1,0,1,0,0] (ah Tryz.f28)) (fun (σ:List Edge×Nat)=>xH tA x0 σ.1 σ.2) (fun (_:List Edge)=>(.exit 0)) (fun (y:List Edge)=>xK tA x0 y) σ (mF tA x0 σ.1 σ.2)
 | ([],i1)=>aF 1010 (.op 60004 (.ln Rat.D x0.1) (.br 100000030 (.ps 1000001 [.k [2,6,8,9,10] [10,100043]] (.lp1 0 (Eu tA x0 i1 [] 0) fun x1=>.ps 1000003 [.k [2,6,8,9] [10,100043]] (.ret (.inl (x1,i1+1))))) (.ps 1000003 [.k [8] [100043]] (.ret (.inr []))))) (by kernel_rfl)
 | (i_h::i_t,i1)=>aF 1010 (.op 60004 (.ln Rat.D x0.1) (.br 100000030 (.ps 1000001 [.k [2,6,8,9,10] [10,100043]] (.lp1 0 (Eu tA x0 i1 (i_h::i_t) 0) fun x1=>.ps 1000003 [.k [2,6,8,9] [10,100043]] (.ret (.inl (x1,i1+1))))) (.ps 1000003 [.k [8] [100043]] (.ret (.inr (i_h::i_t)))))) (by kernel_rfl)
def yL (tA:Tape) (x0:List Rat×Int) (i:List Edge) (i1:Nat):Option (List Edge):=aK (fun (σ:List Edge×Nat)=>mF tA x0 σ.1 σ.2) FU (i,i1)
theorem Qq (tA:Tape) (x0:List Rat×Int) (i:List Edge) (i1:Nat):∀y:List Edge,yL tA x0 i i1=some y→Runs Tryz.prog (.loop (nav [1,1,1,1,0,1,0,0] (ah Tryz.f28))) (xH tA x0 i i1) ((.exit 0)) ((fun (y:List Edge)=>xK tA x0 y) y):=
 aS (head:=fun (σ:List Edge×Nat)=>xH tA x0 σ.1 σ.2) (eo:=fun (_:List Edge)=>(.exit 0)) (so:=fun (y:List Edge)=>xK tA x0 y) (QL tA x0) (fun _ h=>by cases h) FU (i,i1)
def oP (tA:Tape) (a:List Rat):Option (List Edge×Int):=
 (yA tA a).bind fun x0=>
 bif x0.2 != 0 then
 some ([],x0.2)
 else
 (yL tA x0 [] 0).bind fun x1=>
 some (x1,0)
theorem VB (tA:Tape) (a:List Rat):∀r,oP tA a=some r→aj Tryz.prog 28 0 [AG Tape.D tA,SL Rat.D a] [] (.tup [SL Edge.D r.1,I r.2]) []:=
 ak (enc:=fun r=>.tup [SL Edge.D r.1,I r.2]) (aP:=fun r=>[]) 10 (.call [] [] (XR tA a) .no fun x0=>.br 100000025 (.ps 1000003 [.n 4] (.ret ([],x0.2))) (.ps 1000001 [.k [2,6,8,9] [10,100043]] (.lp1 0 (Qq tA x0 [] 0) fun x1=>.oz 1 8 100043 5 Edge.D x1 (.ps 1 [.k [8] []] (.ret (x1,0)))))) Tryz.func28 (by kernel_rfl) (by kernel_rfl) (by kernel_rfl)
def uf (tA:Tape) (x0:List Edge×Int) (i:Nat) (i1:Nat) (o1:List Edge):St:=⟨93,0,[(2,.ptr 10 0 0),(4,.ptr 11 0 0),(6,SL Edge.D x0.1),(8,.ptr 12 0 0),(9,I ((i:Nat):Int)),(10,I ((i1:Nat):Int))],[(10,BOX [I tA.Ins,SL TOp.D tA.Ops,SL (cI .i64) tA.aG]),(11,BOX [I 0,I 0,I 0,bZ,bZ]),(12,BOX [I tA.Ins,I ((tA.Ops.length:Nat):Int),I ((tA.aG.length:Nat):Int),bI 100047 o1,bZ]),(100047,bM 5 Edge.D o1)]⟩
def sV (tA:Tape) (x0:List Edge×Int) (i:Nat) (o1:List Edge):St:=⟨93,0,[(2,.ptr 10 0 0),(4,.ptr 11 0 0),(6,SL Edge.D x0.1),(8,.ptr 12 0 0),(9,I ((i:Nat):Int))],[(10,BOX [I tA.Ins,SL TOp.D tA.Ops,SL (cI .i64) tA.aG]),(11,BOX [I 0,I 0,I 0,bZ,bZ]),(12,BOX [I tA.Ins,I ((tA.Ops.length:Nat):Int),I ((tA.aG.length:Nat):Int),bI 100047 o1,bZ]),(100047,bM 5 Edge.D o1)]⟩
def fK (tA:Tape) (x0:List Edge×Int) (i:Nat) (i1:Nat) (o1:List Edge):Option ((Nat×List Edge)⊕(List Edge)):=
 bif decide (((i1:Nat):Int)<((x0.1.length:Nat):Int)) then
 bif decide (i1<x0.1.length) then
 bif ((nth x0.1 i1).From)==((i:Nat):Int) then
 bif decide (i1<x0.1.length) then
 bif decide (o1.length+1≤2147483648) then
 bif inK .i64 (((i1:Nat):Int)+1) then
 some (.inl (i1+1,o1++[nth x0.1 i1]))
 else none
 else none
 else none
 else
 bif inK .i64 (((i1:Nat):Int)+1) then
 some (.inl (i1+1,o1))
 else none
 else none
 else
 some (.inr o1)
theorem Nu (tA:Tape) (x0:List Edge×Int) (i:Nat):∀σ:Nat×List Edge,aN Tryz.prog (nav [1,1,1,1,0,1,0,0,1,0,0,0,1,0,0] (ah Tryz.f43)) (fun (σ:Nat×List Edge)=>uf tA x0 i σ.1 σ.2) (fun (_:List Edge)=>(.exit 2)) (fun (y:List Edge)=>sV tA x0 i y) σ (fK tA x0 i σ.1 σ.2)
 | (i1,[])=>aF 2010 (.op 90004 (.ln Edge.D x0.1) (.br 100000043 (.op 110004 (.el Edge.D x0.1 (.up i1)) (.br 100000052 (.op 120008 (.el Edge.D x0.1 (.up i1)) (.op 120014 (.ap Edge.D [] [nth x0.1 i1] 5 fun _=>⟨rfl,rfl⟩) (.ps 1000003 [.k [2,4,6,8,9,10] [10,11,12,2011],.m 2011 100047] (.ret (.inl (i1+1,[nth x0.1 i1])))))) (.ps 1000003 [.k [2,4,6,8,9,10] [10,11,12,100047]] (.ret (.inl (i1+1,[])))))) (.ps 1000003 [.k [2,4,6,8,9] [10,11,12,100047]] (.ret (.inr []))))) (by kernel_rfl)
 | (i1,Ze::Y0)=>aF 2010 (.op 90004 (.ln Edge.D x0.1) (.br 100000043 (.op 110004 (.el Edge.D x0.1 (.up i1)) (.br 100000052 (.op 120008 (.el Edge.D x0.1 (.up i1)) (.op 120014 (.ap Edge.D (Ze::Y0) [nth x0.1 i1] 5 fun _=>⟨rfl,rfl⟩) (.ps 1000003 [.k [2,4,6,8,9,10] [10,11,12,2011],.m 2011 100047] (.ret (.inl (i1+1,(Ze::Y0)++[nth x0.1 i1])))))) (.ps 1000003 [.k [2,4,6,8,9,10] [10,11,12,100047]] (.ret (.inl (i1+1,(Ze::Y0))))))) (.ps 1000003 [.k [2,4,6,8,9] [10,11,12,100047]] (.ret (.inr (Ze::Y0)))))) (by kernel_rfl)
def sH (tA:Tape) (x0:List Edge×Int) (i:Nat) (i1:Nat) (o1:List Edge):Option (List Edge):=aK (fun (σ:Nat×List Edge)=>fK tA x0 i σ.1 σ.2) FU (i1,o1)
theorem CZ (tA:Tape) (x0:List Edge×Int) (i:Nat) (i1:Nat) (o1:List Edge):∀y:List Edge,sH tA x0 i i1 o1=some y→Runs Tryz.prog (.loop (nav [1,1,1,1,0,1,0,0,1,0,0,0,1,0,0] (ah Tryz.f43))) (uf tA x0 i i1 o1) ((.exit 2)) ((fun (y:List Edge)=>sV tA x0 i y) y):=
 aS (head:=fun (σ:Nat×List Edge)=>uf tA x0 i σ.1 σ.2) (eo:=fun (_:List Edge)=>(.exit 2)) (so:=fun (y:List Edge)=>sV tA x0 i y) (Nu tA x0 i) (fun _ h=>by cases h) FU (i1,o1)
def um (tA:Tape) (x0:List Edge×Int) (i:Nat) (i1:Nat) (o1:List Edge):St:=⟨93,0,[(2,.ptr 10 0 0),(4,.ptr 11 0 0),(6,SL Edge.D x0.1),(8,.ptr 12 0 0),(9,I ((i:Nat):Int)),(11,I ((i1:Nat):Int))],[(10,BOX [I tA.Ins,SL TOp.D tA.Ops,SL (cI .i64) tA.aG]),(11,BOX [I 0,I 0,I 0,bZ,bZ]),(12,BOX [I tA.Ins,I ((tA.Ops.length:Nat):Int),I ((tA.aG.length:Nat):Int),bI 100047 o1,bZ]),(100047,bM 5 Edge.D o1)]⟩
def sU (tA:Tape) (x0:List Edge×Int) (i:Nat) (o1:List Edge):St:=⟨93,0,[(2,.ptr 10 0 0),(4,.ptr 11 0 0),(6,SL Edge.D x0.1),(8,.ptr 12 0 0),(9,I ((i:Nat):Int))],[(10,BOX [I tA.Ins,SL TOp.D tA.Ops,SL (cI .i64) tA.aG]),(11,BOX [I 0,I 0,I 0,bZ,bZ]),(12,BOX [I tA.Ins,I ((tA.Ops.length:Nat):Int),I ((tA.aG.length:Nat):Int),bI 100047 o1,bZ]),(100047,bM 5 Edge.D o1)]⟩
def fJ (tA:Tape) (x0:List Edge×Int) (i:Nat) (i1:Nat) (o1:List Edge):Option ((Nat×List Edge)⊕(List Edge)):=
 bif decide (((i1:Nat):Int)<((tA.aG.length:Nat):Int)) then
 bif decide (i1<tA.aG.length) then
 bif (nth tA.aG i1)==((i:Nat):Int) then
 bif inK .i64 (tA.Ins+((tA.Ops.length:Nat):Int)) then
 bif inK .i64 ((tA.Ins+((tA.Ops.length:Nat):Int))+((i1:Nat):Int)) then
 (dH 1).bind fun x2=>
 bif decide (o1.length+1≤2147483648) then
 bif inK .i64 (((i1:Nat):Int)+1) then
 some (.inl (i1+1,o1++[Edge.mk ((i:Nat):Int) ((tA.Ins+((tA.Ops.length:Nat):Int))+((i1:Nat):Int)) x2]))
 else none
 else none
 else none
 else none
 else
 bif inK .i64 (((i1:Nat):Int)+1) then
 some (.inl (i1+1,o1))
 else none
 else none
 else
 some (.inr o1)
theorem NG (tA:Tape) (x0:List Edge×Int) (i:Nat):∀σ:Nat×List Edge,aN Tryz.prog (nav [1,1,1,1,0,1,0,0,1,0,0,1,1,0,0] (ah Tryz.f43)) (fun (σ:Nat×List Edge)=>um tA x0 i σ.1 σ.2) (fun (_:List Edge)=>(.exit 4)) (fun (y:List Edge)=>sU tA x0 i y) σ (fJ tA x0 i σ.1 σ.2)
 | (i1,[])=>aF 2010 (.op 140006 (.ln (cI .i64) tA.aG) (.br 100000066 (.op 160006 (.el (cI .i64) tA.aG (.up i1)) (.br 100000075 (.call [] [] (bf 1) .no fun x2=>.op 170026 (.ap Edge.D [] [Edge.mk ((i:Nat):Int) ((tA.Ins+((tA.Ops.length:Nat):Int))+((i1:Nat):Int)) x2] 5 fun _=>⟨rfl,rfl⟩) (.ps 1000003 [.k [2,4,6,8,9,11] [10,11,12,2011],.m 2011 100047] (.ret (.inl (i1+1,[Edge.mk ((i:Nat):Int) ((tA.Ins+((tA.Ops.length:Nat):Int))+((i1:Nat):Int)) x2]))))) (.ps 1000003 [.k [2,4,6,8,9,11] [10,11,12,100047]] (.ret (.inl (i1+1,[])))))) (.ps 1000003 [.k [2,4,6,8,9] [10,11,12,100047]] (.ret (.inr []))))) (by kernel_rfl)
 | (i1,Ze::Y0)=>aF 2010 (.op 140006 (.ln (cI .i64) tA.aG) (.br 100000066 (.op 160006 (.el (cI .i64) tA.aG (.up i1)) (.br 100000075 (.call [] [] (bf 1) .no fun x2=>.op 170026 (.ap Edge.D (Ze::Y0) [Edge.mk ((i:Nat):Int) ((tA.Ins+((tA.Ops.length:Nat):Int))+((i1:Nat):Int)) x2] 5 fun _=>⟨rfl,rfl⟩) (.ps 1000003 [.k [2,4,6,8,9,11] [10,11,12,2011],.m 2011 100047] (.ret (.inl (i1+1,(Ze::Y0)++[Edge.mk ((i:Nat):Int) ((tA.Ins+((tA.Ops.length:Nat):Int))+((i1:Nat):Int)) x2]))))) (.ps 1000003 [.k [2,4,6,8,9,11] [10,11,12,100047]] (.ret (.inl (i1+1,(Ze::Y0))))))) (.ps 1000003 [.k [2,4,6,8,9] [10,11,12,100047]] (.ret (.inr (Ze::Y0)))))) (by kernel_rfl)
def sK (tA:Tape) (x0:List Edge×Int) (i:Nat) (i1:Nat) (o1:List Edge):Option (List Edge):=aK (fun (σ:Nat×List Edge)=>fJ tA x0 i σ.1 σ.2) FU (i1,o1)
theorem EO (tA:Tape) (x0:List Edge×Int) (i:Nat) (i1:Nat) (o1:List Edge):∀y:List Edge,sK tA x0 i i1 o1=some y→Runs Tryz.prog (.loop (nav [1,1,1,1,0,1,0,0,1,0,0,1,1,0,0] (ah Tryz.f43))) (um tA x0 i i1 o1) ((.exit 4)) ((fun (y:List Edge)=>sU tA x0 i y) y):=
 aS (head:=fun (σ:Nat×List Edge)=>um tA x0 i σ.1 σ.2) (eo:=fun (_:List Edge)=>(.exit 4)) (so:=fun (y:List Edge)=>sU tA x0 i y) (NG tA x0 i) (fun _ h=>by cases h) FU (i1,o1)
def yw (tA:Tape) (x0:List Edge×Int) (i:Nat) (o:List Edge):St:=⟨93,0,[(2,.ptr 10 0 0),(4,.ptr 11 0 0),(6,SL Edge.D x0.1),(8,.ptr 12 0 0),(9,I ((i:Nat):Int))],[(10,BOX [I tA.Ins,SL TOp.D tA.Ops,SL (cI .i64) tA.aG]),(11,BOX [I 0,I 0,I 0,bZ,bZ]),(12,BOX [I tA.Ins,I ((tA.Ops.length:Nat):Int),I ((tA.aG.length:Nat):Int),bI 100047 o,bZ]),(100047,bM 5 Edge.D o)]⟩
def wX (tA:Tape) (x0:List Edge×Int) (o:List Edge):St:=⟨93,0,[(4,.ptr 11 0 0),(8,.ptr 12 0 0)],[(11,BOX [I 0,I 0,I 0,bZ,bZ]),(12,BOX [I tA.Ins,I ((tA.Ops.length:Nat):Int),I ((tA.aG.length:Nat):Int),bI 100047 o,bZ]),(100047,bM 5 Edge.D o)]⟩
def jB (tA:Tape) (x0:List Edge×Int) (i:Nat) (o:List Edge):Option ((Nat×List Edge)⊕(List Edge)):=
 bif inK .i64 (tA.Ins+((tA.Ops.length:Nat):Int)) then
 bif decide (((i:Nat):Int)<(tA.Ins+((tA.Ops.length:Nat):Int))) then
 (sH tA x0 i 0 o).bind fun x1=>
 (sK tA x0 i 0 x1).bind fun x2=>
 bif inK .i64 (((i:Nat):Int)+1) then
 some (.inl (i+1,x2))
 else none
 else
 some (.inr o)
 else none
theorem QE (tA:Tape) (x0:List Edge×Int):∀σ:Nat×List Edge,aN Tryz.prog (nav [1,1,1,1,0,1,0,0] (ah Tryz.f43)) (fun (σ:Nat×List Edge)=>yw tA x0 σ.1 σ.2) (fun (_:List Edge)=>(.exit 0)) (fun (y:List Edge)=>wX tA x0 y) σ (jB tA x0 σ.1 σ.2)
 | (i,[])=>aF 1010 (.br 100000037 (.ps 1000001 [.k [2,4,6,8,9,10] [10,11,12,100047]] (.lp1 0 (CZ tA x0 i 0 []) fun x1=>.ps 1000001 [.k [2,4,6,8,9,11] [10,11,12,100047]] (.lp1 0 (EO tA x0 i 0 x1) fun x2=>.ps 1000003 [.k [2,4,6,8,9] [10,11,12,100047]] (.ret (.inl (i+1,x2)))))) (.ps 1000003 [.k [4,8] [11,12,100047]] (.ret (.inr [])))) (by kernel_rfl)
 | (i,o_h::o_t)=>aF 1010 (.br 100000037 (.ps 1000001 [.k [2,4,6,8,9,10] [10,11,12,100047]] (.lp1 0 (CZ tA x0 i 0 (o_h::o_t)) fun x1=>.ps 1000001 [.k [2,4,6,8,9,11] [10,11,12,100047]] (.lp1 0 (EO tA x0 i 0 x1) fun x2=>.ps 1000003 [.k [2,4,6,8,9] [10,11,12,100047]] (.ret (.inl (i+1,x2)))))) (.ps 1000003 [.k [4,8] [11,12,100047]] (.ret (.inr (o_h::o_t))))) (by kernel_rfl)
def yR (tA:Tape) (x0:List Edge×Int) (i:Nat) (o:List Edge):Option (List Edge):=aK (fun (σ:Nat×List Edge)=>jB tA x0 σ.1 σ.2) FU (i,o)
theorem RY (tA:Tape) (x0:List Edge×Int) (i:Nat) (o:List Edge):∀y:List Edge,yR tA x0 i o=some y→Runs Tryz.prog (.loop (nav [1,1,1,1,0,1,0,0] (ah Tryz.f43))) (yw tA x0 i o) ((.exit 0)) ((fun (y:List Edge)=>wX tA x0 y) y):=
 aS (head:=fun (σ:Nat×List Edge)=>yw tA x0 σ.1 σ.2) (eo:=fun (_:List Edge)=>(.exit 0)) (so:=fun (y:List Edge)=>wX tA x0 y) (QE tA x0) (fun _ h=>by cases h) FU (i,o)
def uI (tA:Tape) (a:List Rat):Option (Graph×Int):=
 (oP tA a).bind fun x0=>
 bif x0.2 != 0 then
 some (Graph.mk 0 0 0 [] [],x0.2)
 else
 (yR tA x0 0 []).bind fun x1=>
 (zQ (Graph.mk tA.Ins ((tA.Ops.length:Nat):Int) ((tA.aG.length:Nat):Int) x1 [])).bind fun x2=>
 some (x2,0)
theorem Vb (tA:Tape) (a:List Rat):∀r,uI tA a=some r→aj Tryz.prog 43 0 [AG Tape.D tA,SL Rat.D a] [] (.tup [AG Graph.D r.1,I r.2]) []:=
 ak (enc:=fun r=>.tup [AG Graph.D r.1,I r.2]) (aP:=fun r=>[]) 10 (.call [] [] (VB tA a) .no fun x0=>.br 100000019 (.ps 1000003 [.b 11] (.ret (Graph.mk 0 0 0 [] [],x0.2))) (.op 40008 (.ln TOp.D tA.Ops) (.op 40014 (.ln (cI .i64) tA.aG) (.ps 1000001 [.k [2,4,6,8,9] [10,11,12,100047]] (.lp1 0 (RY tA x0 0 []) fun x1=>.ob 1 12 3 100047 5 Edge.D x1 (.ps 1 [.k [4,8] [11,12]] (.call [] [] (Vz (Graph.mk tA.Ins ((tA.Ops.length:Nat):Int) ((tA.aG.length:Nat):Int) x1 [])) .no fun x2=>.ret (x2,0)))))))) Tryz.func43 (by kernel_rfl) (by kernel_rfl) (by kernel_rfl)
end Go.Ab.M
