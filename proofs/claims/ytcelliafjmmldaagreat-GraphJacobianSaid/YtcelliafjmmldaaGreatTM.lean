import Derived.Test.YtcelliafjmmldaaGreatTI
namespace Go.Ab.M
open Go.Proofs
set_option linter.unusedVariables false
set_option maxRecDepth 100000
structure aH where
 Op:Int
 A_:Int
 B_:Int
 N:Int
 deriving DecidableEq,Inhabited
abbrev aH.D (x:aH):List D:=[.v (.int .u8 x.Op),.v (.int .u8 x.A_),.v (.int .u8 x.B_),.v (.int .u8 x.N)]
structure l7 where
 N:Int
 D_:Int
 deriving DecidableEq,Inhabited
abbrev l7.D (x:l7):List D:=[.v (.int .i8 x.N),.v (.int .u8 x.D_)]
def oJ (tA:Tape) (i:List Int) (i1:Nat):Option ((List Int×Nat)⊕(List Int)):=
 bif decide (((i1:Nat):Int)<tA.Ins) then
 bif decide (i.length+1≤2147483648) then
 bif inK .i64 (((i1:Nat):Int)+1) then
 some (.inl (i++[1],i1+1))
 else none
 else none
 else
 some (.inr i)
def Ag (tA:Tape) (i:List Int) (i1:Nat):Option (List Int):=aI (fun (σ:List Int×Nat)=>oJ tA σ.1 σ.2) FU (i,i1)
def uz (tA:TOp):Option Bool:=
 (qm tA.Num (Rat.mk false [] [])).bind fun x0=>
 bif tA.Code==1 then
 bif tA.A_==0 then
 bif tA.B_==0 then
 some (tA.Exp==0)
 else
 some false
 else
 some false
 else
 bif decide (tA.Code≥2) then
 bif decide (tA.Code≤5) then
 bif x0 then
 some (tA.Exp==0)
 else
 some false
 else
 bif tA.Code==6 then
 bif x0 then
 bif tA.B_==0 then
 some (tA.Exp==0)
 else
 some false
 else
 some false
 else
 bif tA.Code==7 then
 bif x0 then
 some (tA.B_==0)
 else
 some false
 else
 some false
 else
 bif tA.Code==6 then
 bif x0 then
 bif tA.B_==0 then
 some (tA.Exp==0)
 else
 some false
 else
 some false
 else
 bif tA.Code==7 then
 bif x0 then
 some (tA.B_==0)
 else
 some false
 else
 some false
theorem Xg (tA:TOp):∀r,uz tA=some r→aj Tryz.prog 138 0 [AG TOp.D tA] [] (B r) []:=
 au (enc:=fun r=>B r) (aQ:=fun r=>[]) 10 (.call [] [] (wO tA.Num (Rat.mk false [] [])) .no fun x0=>.br 100000008 (.br 30008 (.br 30018 (.ret (tA.Exp==0)) (.ret false)) (.ret false)) (.br 40008 (.br 100000025 (.br 50004 (.ret (tA.Exp==0)) (.ret false)) (.br 100000040 (.br 70004 (.br 70014 (.ret (tA.Exp==0)) (.ret false)) (.ret false)) (.br 100000055 (.br 90004 (.ret (tA.B_==0)) (.ret false)) (.ret false)))) (.br 100000040 (.br 70004 (.br 70014 (.ret (tA.Exp==0)) (.ret false)) (.ret false)) (.br 100000055 (.br 90004 (.ret (tA.B_==0)) (.ret false)) (.ret false))))) Tryz.func138 (by kernel_rfl) (by kernel_rfl) (by kernel_rfl)
def ae3:ByteArray:=⟨#[48]⟩
def xu (x:List Int) (out:ByteArray):St:=⟨31,0,[(3,SL (cI .u32) x),(4,SX out)],[]⟩
def yu (out:ByteArray):St:=⟨31,0,[(4,SX out)],[]⟩
def eX (x:List Int) (out:ByteArray):Option ((List Int×ByteArray)⊕ByteArray):=
 bif decide (((x.length:Nat):Int)>0) then
 (nN x 10).bind fun x1=>
 bif decide ((((strOfNums [IntKind.wrap .u8 (IntKind.wrap .u32 (48+x1.2.1))]).size+out.size:Nat):Int)≤9223372036854775807) then
 some (.inl (x1.1,(strOfNums [IntKind.wrap .u8 (IntKind.wrap .u32 (48+x1.2.1))])++out))
 else none
 else
 some (.inr out)
theorem Rf:∀σ:List Int×ByteArray,aP Tryz.prog (nav [1,1,1,1,0,0,0] (ah Tryz.f140)) (fun (σ:List Int×ByteArray)=>xu σ.1 σ.2) (fun (_:ByteArray)=>(.exit 0)) (fun (y:ByteArray)=>yu y) σ (eX σ.1 σ.2)
 | (x,out)=>aJ 1010 (.op 50002 (.ln (cI .u32) x) (.br 100000015 (.call [] [] (JE x 10) .no fun x1=>.op 70004 .wr (.op 70008 (.bs [IntKind.wrap .u8 (IntKind.wrap .u32 (48+x1.2.1))]) (.ps 1000003 [.k [3,4] []] (.ret (.inl (x1.1,(strOfNums [IntKind.wrap .u8 (IntKind.wrap .u32 (48+x1.2.1))])++out)))))) (.ps 1000003 [.k [4] []] (.ret (.inr out))))) (by kernel_rfl)
def FD (x:List Int) (out:ByteArray):Option ByteArray:=aI (fun (σ:List Int×ByteArray)=>eX σ.1 σ.2) FU (x,out)
theorem Q8 (x:List Int) (out:ByteArray):∀y:ByteArray,FD x out=some y→Runs Tryz.prog (.loop (nav [1,1,1,1,0,0,0] (ah Tryz.f140))) (xu x out) ((.exit 0)) ((fun (y:ByteArray)=>yu y) y):=
 bf (head:=fun (σ:List Int×ByteArray)=>xu σ.1 σ.2) (eo:=fun (_:ByteArray)=>(.exit 0)) (so:=fun (y:ByteArray)=>yu y) (Rf) (fun _ h=>by cases h) FU (x,out)
def nS (a:List Int):Option ByteArray:=
 (gU a).bind fun x0=>
 bif ((x0.length:Nat):Int)==0 then
 some ae3
 else
 (FD x0 XK).bind fun x1=>
 some x1
theorem Ju (a:List Int):∀r,nS a=some r→aj Tryz.prog 140 0 [SL (cI .u32) a] [] (SX r) []:=
 au (enc:=fun r=>SX r) (aQ:=fun r=>[]) 10 (.call [] [] (iW a) .no fun x0=>.op 20002 (.ln (cI .u32) x0) (.br 100000012 (.ret ae3) (.ps 1000001 [.k [3,4] []] (.lp1 0 (Q8 x0 XK) fun x1=>.ret x1)))) Tryz.func140 (by kernel_rfl) (by kernel_rfl) (by kernel_rfl)
def iZ (tA:TOp) (a:List Int):Option Int:=
 (uz tA).bind fun x0=>
 bif !x0 then
 some (-1)
 else
 bif tA.Code==1 then
 (EZ tA.Num).bind fun x1=>
 bif !x1 then
 some (-1)
 else
 (nS tA.Num.Num).bind fun x2=>
 bif decide (((x2.size:Nat):Int)>40) then
 some (-1)
 else
 (nS tA.Num.Den).bind fun x3=>
 bif decide (((x3.size:Nat):Int)>40) then
 some (-1)
 else
 some 1
 else
 bif decide (tA.A_<0) then
 some (-1)
 else
 bif decide (tA.A_≥((a.length:Nat):Int)) then
 some (-1)
 else
 bif decide (tA.B_<0) then
 some (-1)
 else
 bif decide (tA.B_≥((a.length:Nat):Int)) then
 some (-1)
 else
 bif decide (tA.Exp<(-20)) then
 some (-1)
 else
 bif decide (tA.Exp>20) then
 some (-1)
 else
 bif decide (0≤tA.A_) then
 bif decide (tA.A_.toNat<a.length) then
 bif decide (tA.Code≤5) then
 bif decide (0≤tA.B_) then
 bif decide (tA.B_.toNat<a.length) then
 bif inK .i64 ((nth a tA.A_.toNat)+(nth a tA.B_.toNat)) then
 bif tA.Code==7 then
 bif decide (tA.Exp<0) then
 bif inK .i64 (0-tA.Exp) then
 bif inK .i64 (((nth a tA.A_.toNat)+(nth a tA.B_.toNat))*(0-tA.Exp)) then
 bif tA.Code==7 then
 bif decide (tA.Exp>0) then
 bif inK .i64 ((((nth a tA.A_.toNat)+(nth a tA.B_.toNat))*(0-tA.Exp))*tA.Exp) then
 some ((((nth a tA.A_.toNat)+(nth a tA.B_.toNat))*(0-tA.Exp))*tA.Exp)
 else none
 else
 some (((nth a tA.A_.toNat)+(nth a tA.B_.toNat))*(0-tA.Exp))
 else
 some (((nth a tA.A_.toNat)+(nth a tA.B_.toNat))*(0-tA.Exp))
 else none
 else none
 else
 bif tA.Code==7 then
 bif decide (tA.Exp>0) then
 bif inK .i64 (((nth a tA.A_.toNat)+(nth a tA.B_.toNat))*tA.Exp) then
 some (((nth a tA.A_.toNat)+(nth a tA.B_.toNat))*tA.Exp)
 else none
 else
 some ((nth a tA.A_.toNat)+(nth a tA.B_.toNat))
 else
 some ((nth a tA.A_.toNat)+(nth a tA.B_.toNat))
 else
 bif tA.Code==7 then
 bif decide (tA.Exp>0) then
 bif inK .i64 (((nth a tA.A_.toNat)+(nth a tA.B_.toNat))*tA.Exp) then
 some (((nth a tA.A_.toNat)+(nth a tA.B_.toNat))*tA.Exp)
 else none
 else
 some ((nth a tA.A_.toNat)+(nth a tA.B_.toNat))
 else
 some ((nth a tA.A_.toNat)+(nth a tA.B_.toNat))
 else none
 else none
 else none
 else
 bif tA.Code==7 then
 bif decide (tA.Exp<0) then
 bif inK .i64 (0-tA.Exp) then
 bif inK .i64 ((nth a tA.A_.toNat)*(0-tA.Exp)) then
 bif tA.Code==7 then
 bif decide (tA.Exp>0) then
 bif inK .i64 (((nth a tA.A_.toNat)*(0-tA.Exp))*tA.Exp) then
 some (((nth a tA.A_.toNat)*(0-tA.Exp))*tA.Exp)
 else none
 else
 some ((nth a tA.A_.toNat)*(0-tA.Exp))
 else
 some ((nth a tA.A_.toNat)*(0-tA.Exp))
 else none
 else none
 else
 bif tA.Code==7 then
 bif decide (tA.Exp>0) then
 bif inK .i64 ((nth a tA.A_.toNat)*tA.Exp) then
 some ((nth a tA.A_.toNat)*tA.Exp)
 else none
 else
 some (nth a tA.A_.toNat)
 else
 some (nth a tA.A_.toNat)
 else
 bif tA.Code==7 then
 bif decide (tA.Exp>0) then
 bif inK .i64 ((nth a tA.A_.toNat)*tA.Exp) then
 some ((nth a tA.A_.toNat)*tA.Exp)
 else none
 else
 some (nth a tA.A_.toNat)
 else
 some (nth a tA.A_.toNat)
 else none
 else none
theorem sZ (tA:TOp) (a:List Int):∀r,iZ tA a=some r→aj Tryz.prog 80 0 [AG TOp.D tA,SL (cI .i64) a] [] (I r) []:=
 au (enc:=fun r=>I r) (aQ:=fun r=>[]) 10 (.call [] [] (Xg tA) .no fun x0=>.br 100000011 (.ret (-1)) (.br 100000014 (.call [] [] (UE tA.Num) .no fun x1=>.br 60006 (.ret (-1)) (.call [] [] (Ju tA.Num.Num) .no fun x2=>.br 60022 (.ret (-1)) (.call [] [] (Ju tA.Num.Den) .no fun x3=>.br 100000035 (.ret (-1)) (.ret 1)))) (.br 90008 (.ret (-1)) (.op 90014 (.ln (cI .i64) a) (.br 90022 (.ret (-1)) (.br 90032 (.ret (-1)) (.op 90038 (.ln (cI .i64) a) (.br 90046 (.ret (-1)) (.br 90056 (.ret (-1)) (.br 100000067 (.ret (-1)) (.op 110006 (.el (cI .i64) a .dn) (.br 100000075 (.op 130008 (.el (cI .i64) a .dn) (.br 140008 (.br 100000090 (.br 160008 (.br 100000103 (.ret ((((nth a tA.A_.toNat)+(nth a tA.B_.toNat))*(0-tA.Exp))*tA.Exp)) (.ret (((nth a tA.A_.toNat)+(nth a tA.B_.toNat))*(0-tA.Exp)))) (.ret (((nth a tA.A_.toNat)+(nth a tA.B_.toNat))*(0-tA.Exp)))) (.br 160008 (.br 100000103 (.ret (((nth a tA.A_.toNat)+(nth a tA.B_.toNat))*tA.Exp)) (.ret ((nth a tA.A_.toNat)+(nth a tA.B_.toNat)))) (.ret ((nth a tA.A_.toNat)+(nth a tA.B_.toNat))))) (.br 160008 (.br 100000103 (.ret (((nth a tA.A_.toNat)+(nth a tA.B_.toNat))*tA.Exp)) (.ret ((nth a tA.A_.toNat)+(nth a tA.B_.toNat)))) (.ret ((nth a tA.A_.toNat)+(nth a tA.B_.toNat)))))) (.br 140008 (.br 100000090 (.br 160008 (.br 100000103 (.ret (((nth a tA.A_.toNat)*(0-tA.Exp))*tA.Exp)) (.ret ((nth a tA.A_.toNat)*(0-tA.Exp)))) (.ret ((nth a tA.A_.toNat)*(0-tA.Exp)))) (.br 160008 (.br 100000103 (.ret ((nth a tA.A_.toNat)*tA.Exp)) (.ret (nth a tA.A_.toNat))) (.ret (nth a tA.A_.toNat)))) (.br 160008 (.br 100000103 (.ret ((nth a tA.A_.toNat)*tA.Exp)) (.ret (nth a tA.A_.toNat))) (.ret (nth a tA.A_.toNat)))))))))))))))) Tryz.func80 (by kernel_rfl) (by kernel_rfl) (by kernel_rfl)
def lI (tA:Tape) (i:List Int) (i1:Nat):Option ((List Int×Nat)⊕(Unit⊕(List Int))):=
 bif decide (((i1:Nat):Int)<((tA.Ops.length:Nat):Int)) then
 bif decide (i1<tA.Ops.length) then
 (iZ (nth tA.Ops i1) i).bind fun x1=>
 bif decide (x1<0) then
 some (.inr (.inl ()))
 else
 bif decide (x1>200) then
 some (.inr (.inl ()))
 else
 bif decide (i.length+1≤2147483648) then
 bif inK .i64 (((i1:Nat):Int)+1) then
 some (.inl (i++[x1],i1+1))
 else none
 else none
 else none
 else
 some (.inr (.inr i))
def pz (tA:Tape) (i:List Int) (i1:Nat):Option (Unit⊕(List Int)):=aI (fun (σ:List Int×Nat)=>lI tA σ.1 σ.2) FU (i,i1)
def lN (tA:Tape) (x2:List Int) (i:Nat):Option (Nat⊕(Unit⊕Unit)):=
 bif decide (((i:Nat):Int)<((tA.aB.length:Nat):Int)) then
 bif decide (i<tA.aB.length) then
 bif decide ((nth tA.aB i)<0) then
 some (.inr (.inl ()))
 else
 bif decide (i<tA.aB.length) then
 bif decide ((nth tA.aB i)≥((x2.length:Nat):Int)) then
 some (.inr (.inl ()))
 else
 bif inK .i64 (((i:Nat):Int)+1) then
 some (.inl (i+1))
 else none
 else none
 else none
 else
 some (.inr (.inr ()))
def pG (tA:Tape) (x2:List Int) (i:Nat):Option (Unit⊕Unit):=aI (fun (σ:Nat)=>lN tA x2 σ) FU i
def FN (tA:Tape):Option (List Int):=
 bif decide (tA.Ins<1) then
 some []
 else
 bif decide (tA.Ins>40) then
 some []
 else
 bif decide (((tA.aB.length:Nat):Int)<1) then
 some []
 else
 bif decide (((tA.aB.length:Nat):Int)>40) then
 some []
 else
 bif decide (((tA.Ops.length:Nat):Int)>400) then
 some []
 else
 (Ag tA [] 0).bind fun x0=>
 bif x0.isEmpty then
 (pz tA [] 0).bind fun y_=>aK y_ (fun x1=>
 some [])
 (fun x2=>
 (pG tA x2 0).bind fun y_=>aK y_ (fun x3=>
 some [])
 (fun x4=>
 some x2))
 else
 bif !x0.isEmpty then
 (pz tA x0 0).bind fun y_=>aK y_ (fun x1=>
 some [])
 (fun x2=>
 (pG tA x2 0).bind fun y_=>aK y_ (fun x3=>
 some [])
 (fun x4=>
 some x2))
 else none
def JM (t:Tape):Option Bool:=
 (FN t).bind fun x0=>
 some (decide (((x0.length:Nat):Int)>0))
def zX (tA:Int) (a:List Int) (a1:List aH) (a2:Int) (i:List Int) (i1:Nat):St:=⟨108,0,[(1,SL (cI .u8) a),(2,SL aH.D a1),(3,I a2),(8,.ptr 10 0 0),(9,.ptr 11 0 0),(10,dw 100035 i),(11,I ((i1:Nat):Int))],[(10,BOX [I 0,fJ,fJ]),(11,BOX [I (1+(tA%3)),fJ,fJ]),(100035,dO 1 (cI .i64) i)]⟩
def AB (tA:Int) (a:List Int) (a1:List aH) (a2:Int) (i:List Int):St:=⟨108,0,[(1,SL (cI .u8) a),(2,SL aH.D a1),(3,I a2),(8,.ptr 10 0 0),(9,.ptr 11 0 0),(10,dw 100035 i)],[(10,BOX [I 0,fJ,fJ]),(11,BOX [I (1+(tA%3)),fJ,fJ]),(100035,dO 1 (cI .i64) i)]⟩
def oO (tA:Int) (a:List Int) (a1:List aH) (a2:Int) (i:List Int) (i1:Nat):Option ((List Int×Nat)⊕(List Int)):=
 bif decide (((i1:Nat):Int)<(1+(tA%3))) then
 bif decide (i.length+1≤2147483648) then
 bif inK .i64 (((i1:Nat):Int)+1) then
 some (.inl (i++[1],i1+1))
 else none
 else none
 else
 some (.inr i)
theorem SN (tA:Int) (a:List Int) (a1:List aH) (a2:Int):∀σ:List Int×Nat,aP Tryz.prog (nav [1,1,1,0,1,0,0] (ah Tryz.f26)) (fun (σ:List Int×Nat)=>zX tA a a1 a2 σ.1 σ.2) (fun (_:List Int)=>(.exit 0)) (fun (y:List Int)=>AB tA a a1 a2 y) σ (oO tA a a1 a2 σ.1 σ.2)
 | ([],i1)=>aJ 1010 (.br 100000024 (.op 60004 (.ap (cI .i64) [] [1] 1 fun _=>⟨rfl,rfl⟩) (.ps 1000003 [.k [1,2,3,8,9,10,11] [10,11,1011],.m 1011 100035] (.ret (.inl ([1],i1+1))))) (.ps 1000003 [.k [1,2,3,8,9,10] [10,11,100035]] (.ret (.inr [])))) (by kernel_rfl)
 | (i_h::i_t,i1)=>aJ 1010 (.br 100000024 (.op 60004 (.ap (cI .i64) (i_h::i_t) [1] 1 fun _=>⟨rfl,rfl⟩) (.ps 1000003 [.k [1,2,3,8,9,10,11] [10,11,1011],.m 1011 100035] (.ret (.inl ((i_h::i_t)++[1],i1+1))))) (.ps 1000003 [.k [1,2,3,8,9,10] [10,11,100035]] (.ret (.inr (i_h::i_t))))) (by kernel_rfl)
def BR (tA:Int) (a:List Int) (a1:List aH) (a2:Int) (i:List Int) (i1:Nat):Option (List Int):=aI (fun (σ:List Int×Nat)=>oO tA a a1 a2 σ.1 σ.2) FU (i,i1)
theorem Tt (tA:Int) (a:List Int) (a1:List aH) (a2:Int) (i:List Int) (i1:Nat):∀y:List Int,BR tA a a1 a2 i i1=some y→Runs Tryz.prog (.loop (nav [1,1,1,0,1,0,0] (ah Tryz.f26))) (zX tA a a1 a2 i i1) ((.exit 0)) ((fun (y:List Int)=>AB tA a a1 a2 y) y):=
 bf (head:=fun (σ:List Int×Nat)=>zX tA a a1 a2 σ.1 σ.2) (eo:=fun (_:List Int)=>(.exit 0)) (so:=fun (y:List Int)=>AB tA a a1 a2 y) (SN tA a a1 a2) (fun _ h=>by cases h) FU (i,i1)
def JZ (t:aH) (n:Int):Option TOp:=
 bif decide (0≤t.Op) then
 bif decide (0<7) then
 bif inK .i64 (t.Op%7) then
 bif inK .i64 (1+(t.Op%7)) then
 bif inK .i64 t.A_ then
 bif decide (0≤t.A_) then
 bif decide (0<n) then
 bif inK .i64 t.B_ then
 bif decide (0≤t.B_) then
 bif decide (0<n) then
 bif (1+(t.Op%7))==1 then
 bif decide (0≤t.B_) then
 bif decide (0<5) then
 (nX (IntKind.wrap .i8 t.N) (t.B_%5)).bind fun x0=>
 some (TOp.mk 1 0 0 0 x0)
 else none
 else none
 else
 bif decide ((1+(t.Op%7))≤5) then
 some (TOp.mk (1+(t.Op%7)) (t.A_%n) (t.B_%n) 0 (Rat.mk false [] []))
 else
 bif (1+(t.Op%7))==6 then
 some (TOp.mk 6 (t.A_%n) 0 0 (Rat.mk false [] []))
 else
 bif decide (0≤t.N) then
 bif decide (0<7) then
 bif inK .i64 (t.N%7) then
 bif inK .i64 ((t.N%7)-3) then
 some (TOp.mk 7 (t.A_%n) 0 ((t.N%7)-3) (Rat.mk false [] []))
 else none
 else none
 else none
 else none
 else none
 else none
 else none
 else none
 else none
 else none
 else none
 else none
 else none
 else none
theorem Fv (t:aH) (n:Int):∀r,JZ t n=some r→aj Tryz.prog 79 0 [AG aH.D t,I n] [] (AG TOp.D r) []:=
 au (enc:=fun r=>AG TOp.D r) (aQ:=fun r=>[]) 10 (.br 100000023 (.op 50004 .wr (.call [] [] (kG (IntKind.wrap .i8 t.N) (t.B_%5)) .no fun x0=>.ret (TOp.mk 1 0 0 0 x0))) (.br 100000034 (.ps 1000003 [.b 11] (.ret (TOp.mk (1+(t.Op%7)) (t.A_%n) (t.B_%n) 0 (Rat.mk false [] [])))) (.br 100000041 (.ps 1000003 [.b 11] (.ret (TOp.mk 6 (t.A_%n) 0 0 (Rat.mk false [] [])))) (.ps 1000003 [.b 11] (.ret (TOp.mk 7 (t.A_%n) 0 ((t.N%7)-3) (Rat.mk false [] []))))))) Tryz.func79 (by kernel_rfl) (by kernel_rfl) (by kernel_rfl)
def vY (tA:Int) (a:List Int) (a1:List aH) (a2:Int) (i:List Int) (i1:Nat) (o:List TOp):St:=⟨108,0,[(1,SL (cI .u8) a),(2,SL aH.D a1),(3,I a2),(8,.ptr 10 0 0),(9,.ptr 11 0 0),(10,dw 100035 i),(12,I ((i1:Nat):Int))],[(10,BOX [I 0,fJ,fJ]),(11,BOX [I (1+(tA%3)),dw 100036 o,fJ]),(100035,dO 1 (cI .i64) i),(100036,dO 7 TOp.D o)]⟩
def vC (tA:Int) (a:List Int) (a1:List aH) (a2:Int) (i:List Int) (o:List TOp):St:=⟨108,0,[(1,SL (cI .u8) a),(8,.ptr 10 0 0),(9,.ptr 11 0 0),(10,dw 100035 i)],[(10,BOX [I 0,fJ,fJ]),(11,BOX [I (1+(tA%3)),dw 100036 o,fJ]),(100035,dO 1 (cI .i64) i),(100036,dO 7 TOp.D o)]⟩
def jh (tA:Int) (a:List Int) (a1:List aH) (a2:Int) (i:List Int) (i1:Nat) (o:List TOp):Option ((List Int×Nat×List TOp)⊕(List Int×List TOp)):=
 bif decide (((i1:Nat):Int)<((a1.length:Nat):Int)) then
 bif decide (((i1:Nat):Int)<a2) then
 bif decide (i1<a1.length) then
 (JZ (nth a1 i1) ((i.length:Nat):Int)).bind fun x1=>
 (iZ x1 i).bind fun x2=>
 bif decide (x2>12) then
 bif decide (i1<a1.length) then
 (nX (IntKind.wrap .i8 ((nth a1 i1).N)) 0).bind fun x3=>
 bif decide (o.length+1≤2147483648) then
 bif decide (i.length+1≤2147483648) then
 bif inK .i64 (((i1:Nat):Int)+1) then
 some (.inl (i++[1],i1+1,o++[TOp.mk 1 0 0 0 x3]))
 else none
 else none
 else none
 else none
 else
 bif decide (o.length+1≤2147483648) then
 bif decide (i.length+1≤2147483648) then
 bif inK .i64 (((i1:Nat):Int)+1) then
 some (.inl (i++[x2],i1+1,o++[x1]))
 else none
 else none
 else none
 else none
 else
 some (.inr (i,o))
 else
 some (.inr (i,o))
theorem OM (tA:Int) (a:List Int) (a1:List aH) (a2:Int):∀σ:List Int×Nat×List TOp,aP Tryz.prog (nav [1,1,1,1,0,1,0,0] (ah Tryz.f26)) (fun (σ:List Int×Nat×List TOp)=>vY tA a a1 a2 σ.1 σ.2.1 σ.2.2) (fun (_:List Int×List TOp)=>(.exit 2)) (fun (y:List Int×List TOp)=>vC tA a a1 a2 y.1 y.2) σ (jh tA a a1 a2 σ.1 σ.2.1 σ.2.2)
 | ([],i1,[])=>aJ 1010 (.op 80004 (.ln aH.D a1) (.br 80010 (.br 100000038 (.op 100004 (.el aH.D a1 (.up i1)) (.call [] [] (Fv (nth a1 i1) 0) .no fun x1=>.call [] [] (sZ x1 []) .no fun x2=>.br 100000052 (.op 130004 (.el aH.D a1 (.up i1)) (.op 130010 .wr (.call [] [] (kG (IntKind.wrap .i8 ((nth a1 i1).N)) 0) .no fun x3=>.op 150008 (.ap TOp.D [] [TOp.mk 1 0 0 0 x3] 7 fun _=>⟨rfl,rfl⟩) (.op 160006 (.ap (cI .i64) [] [1] 1 fun _=>⟨rfl,rfl⟩) (.ps 1000003 [.k [1,2,3,8,9,10,12] [10,11,1014,1012],.m 1014 100035,.m 1012 100036] (.ret (.inl ([1],i1+1,[TOp.mk 1 0 0 0 x3])))))))) (.op 150008 (.ap TOp.D [] [x1] 7 fun _=>⟨rfl,rfl⟩) (.op 160006 (.ap (cI .i64) [] [x2] 1 fun _=>⟨rfl,rfl⟩) (.ps 1000003 [.k [1,2,3,8,9,10,12] [10,11,1014,1012],.m 1014 100035,.m 1012 100036] (.ret (.inl ([x2],i1+1,[x1])))))))) (.ps 1000003 [.k [1,8,9,10] [10,11,100035,100036]] (.ret (.inr ([],[]))))) (.ps 1000003 [.k [1,8,9,10] [10,11,100035,100036]] (.ret (.inr ([],[])))))) (by kernel_rfl)
 | ([],i1,o_h::o_t)=>aJ 1010 (.op 80004 (.ln aH.D a1) (.br 80010 (.br 100000038 (.op 100004 (.el aH.D a1 (.up i1)) (.call [] [] (Fv (nth a1 i1) 0) .no fun x1=>.call [] [] (sZ x1 []) .no fun x2=>.br 100000052 (.op 130004 (.el aH.D a1 (.up i1)) (.op 130010 .wr (.call [] [] (kG (IntKind.wrap .i8 ((nth a1 i1).N)) 0) .no fun x3=>.op 150008 (.ap TOp.D (o_h::o_t) [TOp.mk 1 0 0 0 x3] 7 fun _=>⟨rfl,rfl⟩) (.op 160006 (.ap (cI .i64) [] [1] 1 fun _=>⟨rfl,rfl⟩) (.ps 1000003 [.k [1,2,3,8,9,10,12] [10,11,1014,1012],.m 1014 100035,.m 1012 100036] (.ret (.inl ([1],i1+1,(o_h::o_t)++[TOp.mk 1 0 0 0 x3])))))))) (.op 150008 (.ap TOp.D (o_h::o_t) [x1] 7 fun _=>⟨rfl,rfl⟩) (.op 160006 (.ap (cI .i64) [] [x2] 1 fun _=>⟨rfl,rfl⟩) (.ps 1000003 [.k [1,2,3,8,9,10,12] [10,11,1014,1012],.m 1014 100035,.m 1012 100036] (.ret (.inl ([x2],i1+1,(o_h::o_t)++[x1])))))))) (.ps 1000003 [.k [1,8,9,10] [10,11,100035,100036]] (.ret (.inr ([],(o_h::o_t)))))) (.ps 1000003 [.k [1,8,9,10] [10,11,100035,100036]] (.ret (.inr ([],(o_h::o_t))))))) (by kernel_rfl)
 | (i_h::i_t,i1,[])=>aJ 1010 (.op 80004 (.ln aH.D a1) (.br 80010 (.br 100000038 (.op 100004 (.el aH.D a1 (.up i1)) (.op 100010 (.ln (cI .i64) (i_h::i_t)) (.call [] [] (Fv (nth a1 i1) (((i_h::i_t).length:Nat):Int)) .no fun x1=>.call [] [] (sZ x1 (i_h::i_t)) (.yes fun _=>⟨rfl,trivial⟩) fun x2=>.br 100000052 (.op 130004 (.el aH.D a1 (.up i1)) (.op 130010 .wr (.call [] [] (kG (IntKind.wrap .i8 ((nth a1 i1).N)) 0) .no fun x3=>.op 150008 (.ap TOp.D [] [TOp.mk 1 0 0 0 x3] 7 fun _=>⟨rfl,rfl⟩) (.op 160006 (.ap (cI .i64) (i_h::i_t) [1] 1 fun _=>⟨rfl,rfl⟩) (.ps 1000003 [.k [1,2,3,8,9,10,12] [10,11,1014,1012],.m 1014 100035,.m 1012 100036] (.ret (.inl ((i_h::i_t)++[1],i1+1,[TOp.mk 1 0 0 0 x3])))))))) (.op 150008 (.ap TOp.D [] [x1] 7 fun _=>⟨rfl,rfl⟩) (.op 160006 (.ap (cI .i64) (i_h::i_t) [x2] 1 fun _=>⟨rfl,rfl⟩) (.ps 1000003 [.k [1,2,3,8,9,10,12] [10,11,1014,1012],.m 1014 100035,.m 1012 100036] (.ret (.inl ((i_h::i_t)++[x2],i1+1,[x1]))))))))) (.ps 1000003 [.k [1,8,9,10] [10,11,100035,100036]] (.ret (.inr ((i_h::i_t),[]))))) (.ps 1000003 [.k [1,8,9,10] [10,11,100035,100036]] (.ret (.inr ((i_h::i_t),[])))))) (by kernel_rfl)
 | (i_h::i_t,i1,o_h::o_t)=>aJ 1010 (.op 80004 (.ln aH.D a1) (.br 80010 (.br 100000038 (.op 100004 (.el aH.D a1 (.up i1)) (.op 100010 (.ln (cI .i64) (i_h::i_t)) (.call [] [] (Fv (nth a1 i1) (((i_h::i_t).length:Nat):Int)) .no fun x1=>.call [] [] (sZ x1 (i_h::i_t)) (.yes fun _=>⟨rfl,trivial⟩) fun x2=>.br 100000052 (.op 130004 (.el aH.D a1 (.up i1)) (.op 130010 .wr (.call [] [] (kG (IntKind.wrap .i8 ((nth a1 i1).N)) 0) .no fun x3=>.op 150008 (.ap TOp.D (o_h::o_t) [TOp.mk 1 0 0 0 x3] 7 fun _=>⟨rfl,rfl⟩) (.op 160006 (.ap (cI .i64) (i_h::i_t) [1] 1 fun _=>⟨rfl,rfl⟩) (.ps 1000003 [.k [1,2,3,8,9,10,12] [10,11,1014,1012],.m 1014 100035,.m 1012 100036] (.ret (.inl ((i_h::i_t)++[1],i1+1,(o_h::o_t)++[TOp.mk 1 0 0 0 x3])))))))) (.op 150008 (.ap TOp.D (o_h::o_t) [x1] 7 fun _=>⟨rfl,rfl⟩) (.op 160006 (.ap (cI .i64) (i_h::i_t) [x2] 1 fun _=>⟨rfl,rfl⟩) (.ps 1000003 [.k [1,2,3,8,9,10,12] [10,11,1014,1012],.m 1014 100035,.m 1012 100036] (.ret (.inl ((i_h::i_t)++[x2],i1+1,(o_h::o_t)++[x1]))))))))) (.ps 1000003 [.k [1,8,9,10] [10,11,100035,100036]] (.ret (.inr ((i_h::i_t),(o_h::o_t)))))) (.ps 1000003 [.k [1,8,9,10] [10,11,100035,100036]] (.ret (.inr ((i_h::i_t),(o_h::o_t))))))) (by kernel_rfl)
def qE (tA:Int) (a:List Int) (a1:List aH) (a2:Int) (i:List Int) (i1:Nat) (o:List TOp):Option (List Int×List TOp):=aI (fun (σ:List Int×Nat×List TOp)=>jh tA a a1 a2 σ.1 σ.2.1 σ.2.2) FU (i,i1,o)
theorem EP (tA:Int) (a:List Int) (a1:List aH) (a2:Int) (i:List Int) (i1:Nat) (o:List TOp):∀y:List Int×List TOp,qE tA a a1 a2 i i1 o=some y→Runs Tryz.prog (.loop (nav [1,1,1,1,0,1,0,0] (ah Tryz.f26))) (vY tA a a1 a2 i i1 o) ((.exit 2)) ((fun (y:List Int×List TOp)=>vC tA a a1 a2 y.1 y.2) y):=
 bf (head:=fun (σ:List Int×Nat×List TOp)=>vY tA a a1 a2 σ.1 σ.2.1 σ.2.2) (eo:=fun (_:List Int×List TOp)=>(.exit 2)) (so:=fun (y:List Int×List TOp)=>vC tA a a1 a2 y.1 y.2) (OM tA a a1 a2) (fun _ h=>by cases h) FU (i,i1,o)
def wJ (tA:Int) (a:List Int) (x1:List Int×List TOp) (i:Nat) (o:List Int):St:=⟨108,0,[(1,SL (cI .u8) a),(8,.ptr 10 0 0),(9,.ptr 11 0 0),(10,SL (cI .i64) x1.1),(15,I ((i:Nat):Int))],[(10,BOX [I 0,fJ,fJ]),(11,BOX [I (1+(tA%3)),SL TOp.D x1.2,dw 100039 o]),(100039,dO 1 (cI .i64) o)]⟩
def wu (tA:Int) (a:List Int) (x1:List Int×List TOp) (o:List Int):St:=⟨108,0,[(8,.ptr 10 0 0),(9,.ptr 11 0 0),(10,SL (cI .i64) x1.1)],[(10,BOX [I 0,fJ,fJ]),(11,BOX [I (1+(tA%3)),SL TOp.D x1.2,dw 100039 o]),(100039,dO 1 (cI .i64) o)]⟩
def lU (tA:Int) (a:List Int) (x1:List Int×List TOp) (i:Nat) (o:List Int):Option ((Nat×List Int)⊕(List Int)):=
 bif decide (((i:Nat):Int)<((a.length:Nat):Int)) then
 bif decide (((i:Nat):Int)<3) then
 bif inK .i64 (((x1.1.length:Nat):Int)-1) then
 bif decide (i<a.length) then
 bif inK .i64 (nth a i) then
 bif decide (0≤nth a i) then
 bif decide (0<((x1.1.length:Nat):Int)) then
 bif inK .i64 ((((x1.1.length:Nat):Int)-1)-((nth a i)%((x1.1.length:Nat):Int))) then
 bif decide (o.length+1≤2147483648) then
 bif inK .i64 (((i:Nat):Int)+1) then
 some (.inl (i+1,o++[(((x1.1.length:Nat):Int)-1)-((nth a i)%((x1.1.length:Nat):Int))]))
 else none
 else none
 else none
 else none
 else none
 else none
 else none
 else none
 else
 some (.inr o)
 else
 some (.inr o)
theorem O0 (tA:Int) (a:List Int) (x1:List Int×List TOp):∀σ:Nat×List Int,aP Tryz.prog (nav [1,1,1,1,1,0,1,0,0] (ah Tryz.f26)) (fun (σ:Nat×List Int)=>wJ tA a x1 σ.1 σ.2) (fun (_:List Int)=>(.exit 4)) (fun (y:List Int)=>wu tA a x1 y) σ (lU tA a x1 σ.1 σ.2)
 | (i,[])=>aJ 1010 (.op 180004 (.ln (cI .u8) a) (.br 180010 (.br 100000078 (.op 200006 (.ln (cI .i64) x1.1) (.op 200014 (.el (cI .u8) a (.up i)) (.op 200022 (.ln (cI .i64) x1.1) (.op 200030 (.ap (cI .i64) [] [(((x1.1.length:Nat):Int)-1)-((nth a i)%((x1.1.length:Nat):Int))] 1 fun _=>⟨rfl,rfl⟩) (.ps 1000003 [.k [1,8,9,10,15] [10,11,1011],.m 1011 100039] (.ret (.inl (i+1,[(((x1.1.length:Nat):Int)-1)-((nth a i)%((x1.1.length:Nat):Int))])))))))) (.ps 1000003 [.k [8,9,10] [10,11,100039]] (.ret (.inr [])))) (.ps 1000003 [.k [8,9,10] [10,11,100039]] (.ret (.inr []))))) (by kernel_rfl)
 | (i,o_h::o_t)=>aJ 1010 (.op 180004 (.ln (cI .u8) a) (.br 180010 (.br 100000078 (.op 200006 (.ln (cI .i64) x1.1) (.op 200014 (.el (cI .u8) a (.up i)) (.op 200022 (.ln (cI .i64) x1.1) (.op 200030 (.ap (cI .i64) (o_h::o_t) [(((x1.1.length:Nat):Int)-1)-((nth a i)%((x1.1.length:Nat):Int))] 1 fun _=>⟨rfl,rfl⟩) (.ps 1000003 [.k [1,8,9,10,15] [10,11,1011],.m 1011 100039] (.ret (.inl (i+1,(o_h::o_t)++[(((x1.1.length:Nat):Int)-1)-((nth a i)%((x1.1.length:Nat):Int))])))))))) (.ps 1000003 [.k [8,9,10] [10,11,100039]] (.ret (.inr (o_h::o_t))))) (.ps 1000003 [.k [8,9,10] [10,11,100039]] (.ret (.inr (o_h::o_t)))))) (by kernel_rfl)
def pX (tA:Int) (a:List Int) (x1:List Int×List TOp) (i:Nat) (o:List Int):Option (List Int):=aI (fun (σ:Nat×List Int)=>lU tA a x1 σ.1 σ.2) FU (i,o)
theorem E5 (tA:Int) (a:List Int) (x1:List Int×List TOp) (i:Nat) (o:List Int):∀y:List Int,pX tA a x1 i o=some y→Runs Tryz.prog (.loop (nav [1,1,1,1,1,0,1,0,0] (ah Tryz.f26))) (wJ tA a x1 i o) ((.exit 4)) ((fun (y:List Int)=>wu tA a x1 y) y):=
 bf (head:=fun (σ:Nat×List Int)=>wJ tA a x1 σ.1 σ.2) (eo:=fun (_:List Int)=>(.exit 4)) (so:=fun (y:List Int)=>wu tA a x1 y) (O0 tA a x1) (fun _ h=>by cases h) FU (i,o)
def Du (tA:Int) (a:List Int) (a1:List aH) (a2:Int):Option Tape:=
 bif decide (0≤tA) then
 bif decide (0<3) then
 bif inK .i64 (tA%3) then
 bif inK .i64 (1+(tA%3)) then
 (BR tA a a1 a2 [] 0).bind fun x0=>
 bif x0.isEmpty then
 (qE tA a a1 a2 [] 0 []).bind fun x1=>
 (pX tA a x1 0 []).bind fun x2=>
 bif ((x2.length:Nat):Int)==0 then
 bif inK .i64 (((x1.1.length:Nat):Int)-1) then
 some (Tape.mk (1+(tA%3)) x1.2 [((x1.1.length:Nat):Int)-1])
 else none
 else
 some (Tape.mk (1+(tA%3)) x1.2 x2)
 else
 bif !x0.isEmpty then
 (qE tA a a1 a2 x0 0 []).bind fun x1=>
 (pX tA a x1 0 []).bind fun x2=>
 bif ((x2.length:Nat):Int)==0 then
 bif inK .i64 (((x1.1.length:Nat):Int)-1) then
 some (Tape.mk (1+(tA%3)) x1.2 [((x1.1.length:Nat):Int)-1])
 else none
 else
 some (Tape.mk (1+(tA%3)) x1.2 x2)
 else none
 else none
 else none
 else none
 else none
theorem Xq (tA:Int) (a:List Int) (a1:List aH) (a2:Int):∀r,Du tA a a1 a2=some r→aj Tryz.prog 26 0 [NI .u8 tA,SL (cI .u8) a,SL aH.D a1,I a2] [] (AG Tape.D r) []:=
 au (enc:=fun r=>AG Tape.D r) (aQ:=fun r=>[]) 10 (.ps 1000001 [.k [1,2,3,8,9,10,11] [10,11,100035]] (.lp1 0 (Tt tA a a1 a2 [] 0) fun x0=>.cl 1 10 100035 1 (cI .i64) x0 (.ps 1 [.k [1,2,3,8,9,10] [10,11]] (.ps 1000001 [.k [1,2,3,8,9,10,12] [10,11,100035,100036]] (.lp1 0 (EP tA a a1 a2 [] 0 []) fun x1=>.oz 5 10 100035 1 (cI .i64) x1.1 (.ob 5 11 1 100036 7 TOp.D x1.2 (.ps 5 [.k [1,8,9,10] [10,11]] (.ps 1000001 [.k [1,8,9,10,15] [10,11,100039]] (.lp1 0 (E5 tA a x1 0 []) fun x2=>.ob 9 11 2 100039 1 (cI .i64) x2 (.ps 9 [.k [8,9,10] [10,11]] (.op 210004 (.ln (cI .i64) x2) (.br 100000101 (.op 220002 (.ln (cI .i64) x1.1) (.ps 1000003 [.b 10] (.ret (Tape.mk (1+(tA%3)) x1.2 [((x1.1.length:Nat):Int)-1])))) (.ret (Tape.mk (1+(tA%3)) x1.2 x2)))))))))))) (.ps 1 [.k [1,2,3,8,9,10] [10,11,100035]] (.ps 1000001 [.k [1,2,3,8,9,10,12] [10,11,100035,100036]] (.ow 1000001 10 100035 1 (cI .i64) x0 .no (.ps 1000001 [.k [1,2,3,8,9,10,12] [10,11,100035,100036]] (.lp1 0 (EP tA a a1 a2 x0 0 []) fun x1=>.oz 5 10 100035 1 (cI .i64) x1.1 (.ob 5 11 1 100036 7 TOp.D x1.2 (.ps 5 [.k [1,8,9,10] [10,11]] (.ps 1000001 [.k [1,8,9,10,15] [10,11,100039]] (.lp1 0 (E5 tA a x1 0 []) fun x2=>.ob 9 11 2 100039 1 (cI .i64) x2 (.ps 9 [.k [8,9,10] [10,11]] (.op 210004 (.ln (cI .i64) x2) (.br 100000101 (.op 220002 (.ln (cI .i64) x1.1) (.ps 1000003 [.b 10] (.ret (Tape.mk (1+(tA%3)) x1.2 [((x1.1.length:Nat):Int)-1])))) (.ret (Tape.mk (1+(tA%3)) x1.2 x2)))))))))))))))) Tryz.func26 (by kernel_rfl) (by kernel_rfl) (by kernel_rfl)
def tu (tA:Tape) (a:List Rat) (i:List Rat) (i1:Nat):Option ((List Rat×Nat)⊕(List Rat)):=
 bif decide (((i1:Nat):Int)<((a.length:Nat):Int)) then
 bif decide (i1<a.length) then
 (fF (nth a i1)).bind fun x1=>
 bif decide (i.length+1≤2147483648) then
 bif inK .i64 (((i1:Nat):Int)+1) then
 some (.inl (i++[x1],i1+1))
 else none
 else none
 else none
 else
 some (.inr i)
def Ik (tA:Tape) (a:List Rat) (i:List Rat) (i1:Nat):Option (List Rat):=aI (fun (σ:List Rat×Nat)=>tu tA a σ.1 σ.2) FU (i,i1)
def V8 (o:TOp) (a:Rat) (b:Rat):Option (Rat×Int):=
 bif o.Code==2 then
 (iT a b).bind fun x0=>
 some (x0,0)
 else
 bif o.Code==3 then
 (LQ a b).bind fun x0=>
 some (x0,0)
 else
 bif o.Code==4 then
 (iO a b).bind fun x0=>
 some (x0,0)
 else
 bif o.Code==5 then
 (CB a b).bind fun x0=>
 some (x0.1,x0.2)
 else
 bif o.Code==6 then
 (Cc a).bind fun x0=>
 some (x0,0)
 else
 bif o.Code==7 then
 (uJ a o.Exp).bind fun x0=>
 some (x0.1,x0.2)
 else
 (fF o.Num).bind fun x0=>
 some (x0,0)
def cO (tA:Tape) (i:List Rat) (i1:Nat):Option ((List Rat×Nat)⊕(Int⊕(List Rat))):=
 bif decide (((i1:Nat):Int)<((tA.Ops.length:Nat):Int)) then
 bif decide (i1<tA.Ops.length) then
 bif decide (0≤(nth tA.Ops i1).A_) then
 bif decide (((nth tA.Ops i1).A_).toNat<i.length) then
 bif decide (((nth tA.Ops i1).A_).toNat<i.length) then
 bif decide (0≤(nth tA.Ops i1).B_) then
 bif decide (((nth tA.Ops i1).B_).toNat<i.length) then
 bif decide (((nth tA.Ops i1).B_).toNat<i.length) then
 (V8 (nth tA.Ops i1) (nth i (((nth tA.Ops i1).A_).toNat)) (nth i (((nth tA.Ops i1).B_).toNat))).bind fun x2=>
 bif x2.2 != 0 then
 some (.inr (.inl x2.2))
 else
 bif decide (i.length+1≤2147483648) then
 bif inK .i64 (((i1:Nat):Int)+1) then
 some (.inl (i++[x2.1],i1+1))
 else none
 else none
 else none
 else none
 else none
 else none
 else none
 else none
 else none
 else
 some (.inr (.inr i))
def DI (tA:Tape) (i:List Rat) (i1:Nat):Option (Int⊕(List Rat)):=aI (fun (σ:List Rat×Nat)=>cO tA σ.1 σ.2) FU (i,i1)
def tK (tA:Tape) (a:List Rat):Option (List Rat×Int):=
 (JM tA).bind fun x0=>
 bif !x0 then
 some ([],1)
 else
 bif ((a.length:Nat):Int) != tA.Ins then
 some ([],8)
 else
 (Ik tA a [] 0).bind fun x1=>
 bif x1.isEmpty then
 (DI tA [] 0).bind fun y_=>aK y_ (fun x2=>
 some ([],x2))
 (fun x3=>
 some (x3,0))
 else
 bif !x1.isEmpty then
 (DI tA x1 0).bind fun y_=>aK y_ (fun x2=>
 some ([],x2))
 (fun x3=>
 some (x3,0))
 else none
def yt (n:Int) (l:List l7) (out:List Rat) (i:Nat):St:=⟨36,0,[(0,I n),(1,SL l7.D l),(5,dw 100041 out),(6,I ((i:Nat):Int))],[(100041,dO 3 Rat.D out)]⟩
def xI (n:Int) (l:List l7) (out:List Rat):St:=⟨36,0,[(5,dw 100041 out)],[(100041,dO 3 Rat.D out)]⟩
def jP (n:Int) (l:List l7) (out:List Rat) (i:Nat):Option ((List Rat×Nat)⊕(List Rat)):=
 bif decide (((i:Nat):Int)<n) then
 bif decide (((i:Nat):Int)<((l.length:Nat):Int)) then
 bif decide (i<l.length) then
 bif decide (i<l.length) then
 bif decide (0≤(nth l i).D_) then
 bif decide (0<4) then
 (nX ((nth l i).N) (((nth l i).D_)%4)).bind fun x0=>
 bif decide (out.length+1≤2147483648) then
 bif inK .i64 (((i:Nat):Int)+1) then
 some (.inl (out++[x0],i+1))
 else none
 else none
 else none
 else none
 else none
 else none
 else
 (bQ 0).bind fun x0=>
 bif decide (out.length+1≤2147483648) then
 bif inK .i64 (((i:Nat):Int)+1) then
 some (.inl (out++[x0],i+1))
 else none
 else none
 else
 some (.inr out)
theorem Rj (n:Int) (l:List l7):∀σ:List Rat×Nat,aP Tryz.prog (nav [1,1,0,1,0,0] (ah Tryz.f33)) (fun (σ:List Rat×Nat)=>yt n l σ.1 σ.2) (fun (_:List Rat)=>(.exit 0)) (fun (y:List Rat)=>xI n l y) σ (jP n l σ.1 σ.2)
 | ([],i)=>aJ 1010 (.br 100000009 (.op 50004 (.ln l7.D l) (.br 100000015 (.op 60006 (.el l7.D l (.up i)) (.op 60016 (.el l7.D l (.up i)) (.call [] [] (kG ((nth l i).N) (((nth l i).D_)%4)) .no fun x0=>.op 60028 (.ap Rat.D [] [x0] 3 fun _=>⟨rfl,rfl⟩) (.ps 1000003 [.k [0,1,5,6] [1011],.m 1011 100041] (.ret (.inl ([x0],i+1))))))) (.call [] [] (uS 0) .no fun x0=>.op 70006 (.ap Rat.D [] [x0] 3 fun _=>⟨rfl,rfl⟩) (.ps 1000003 [.k [0,1,5,6] [1011],.m 1011 100041] (.ret (.inl ([x0],i+1))))))) (.ps 1000003 [.k [5] [100041]] (.ret (.inr [])))) (by kernel_rfl)
 | (fA::fB,i)=>aJ 1010 (.br 100000009 (.op 50004 (.ln l7.D l) (.br 100000015 (.op 60006 (.el l7.D l (.up i)) (.op 60016 (.el l7.D l (.up i)) (.call [] [] (kG ((nth l i).N) (((nth l i).D_)%4)) .no fun x0=>.op 60028 (.ap Rat.D (fA::fB) [x0] 3 fun _=>⟨rfl,rfl⟩) (.ps 1000003 [.k [0,1,5,6] [1011],.m 1011 100041] (.ret (.inl ((fA::fB)++[x0],i+1))))))) (.call [] [] (uS 0) .no fun x0=>.op 70006 (.ap Rat.D (fA::fB) [x0] 3 fun _=>⟨rfl,rfl⟩) (.ps 1000003 [.k [0,1,5,6] [1011],.m 1011 100041] (.ret (.inl ((fA::fB)++[x0],i+1))))))) (.ps 1000003 [.k [5] [100041]] (.ret (.inr (fA::fB))))) (by kernel_rfl)
def yK (n:Int) (l:List l7) (out:List Rat) (i:Nat):Option (List Rat):=aI (fun (σ:List Rat×Nat)=>jP n l σ.1 σ.2) FU (out,i)
theorem QD (n:Int) (l:List l7) (out:List Rat) (i:Nat):∀y:List Rat,yK n l out i=some y→Runs Tryz.prog (.loop (nav [1,1,0,1,0,0] (ah Tryz.f33))) (yt n l out i) ((.exit 0)) ((fun (y:List Rat)=>xI n l y) y):=
 bf (head:=fun (σ:List Rat×Nat)=>yt n l σ.1 σ.2) (eo:=fun (_:List Rat)=>(.exit 0)) (so:=fun (y:List Rat)=>xI n l y) (Rj n l) (fun _ h=>by cases h) FU (out,i)
def EL (n:Int) (l:List l7):Option (List Rat):=
 (yK n l [] 0).bind fun x0=>
 some x0
theorem UG (n:Int) (l:List l7):∀r,EL n l=some r→aj Tryz.prog 33 0 [I n,SL l7.D l] [] (SL Rat.D r) []:=
 au (enc:=fun r=>SL Rat.D r) (aQ:=fun r=>[]) 10 (.ps 1000001 [.k [0,1,5,6] [100041]] (.lp1 0 (QD n l [] 0) fun x0=>.oz 1 5 100041 3 Rat.D x0 (.ps 1 [.k [5] []] (.ret x0)))) Tryz.func33 (by kernel_rfl) (by kernel_rfl) (by kernel_rfl)
def jU (tA:Tape) (x0:List Rat×Int) (i1:Nat) (i2:List Edge) (i3:Nat):Option ((List Edge×Nat)⊕(List Edge)):=
 bif decide (((i3:Nat):Int)<((tA.Ops.length:Nat):Int)) then
 bif decide (i3<tA.Ops.length) then
 bif decide (0≤(nth tA.Ops i3).A_) then
 bif decide (((nth tA.Ops i3).A_).toNat<x0.1.length) then
 bif decide (0≤(nth tA.Ops i3).B_) then
 bif decide (((nth tA.Ops i3).B_).toNat<x0.1.length) then
 (uO (nth tA.Ops i3) (nth x0.1 (((nth tA.Ops i3).A_).toNat)) (nth x0.1 (((nth tA.Ops i3).B_).toNat))).bind fun x1=>
 bif decide (((nth tA.Ops i3).Code)≥2) then
 bif decide (((nth tA.Ops i3).Code)≥2) then
 bif decide (((nth tA.Ops i3).Code)≤5) then
 (bQ 0).bind fun x2=>
 bif ((nth tA.Ops i3).A_)==((i1:Nat):Int) then
 (iT x2 x1.1).bind fun x3=>
 bif ((nth tA.Ops i3).B_)==((i1:Nat):Int) then
 (iT x3 x1.2.1).bind fun x4=>
 bif ((nth tA.Ops i3).A_)==((i1:Nat):Int) then
 bif inK .i64 (tA.Ins+((i3:Nat):Int)) then
 bif decide (i2.length+1≤2147483648) then
 bif inK .i64 (((i3:Nat):Int)+1) then
 some (.inl (i2++[Edge.mk ((i1:Nat):Int) (tA.Ins+((i3:Nat):Int)) x4],i3+1))
 else none
 else none
 else none
 else
 bif ((nth tA.Ops i3).B_)==((i1:Nat):Int) then
 bif inK .i64 (tA.Ins+((i3:Nat):Int)) then
 bif decide (i2.length+1≤2147483648) then
 bif inK .i64 (((i3:Nat):Int)+1) then
 some (.inl (i2++[Edge.mk ((i1:Nat):Int) (tA.Ins+((i3:Nat):Int)) x4],i3+1))
 else none
 else none
 else none
 else
 bif inK .i64 (((i3:Nat):Int)+1) then
 some (.inl (i2,i3+1))
 else none
 else
 bif ((nth tA.Ops i3).A_)==((i1:Nat):Int) then
 bif inK .i64 (tA.Ins+((i3:Nat):Int)) then
 bif decide (i2.length+1≤2147483648) then
 bif inK .i64 (((i3:Nat):Int)+1) then
 some (.inl (i2++[Edge.mk ((i1:Nat):Int) (tA.Ins+((i3:Nat):Int)) x3],i3+1))
 else none
 else none
 else none
 else
 bif ((nth tA.Ops i3).B_)==((i1:Nat):Int) then
 bif inK .i64 (tA.Ins+((i3:Nat):Int)) then
 bif decide (i2.length+1≤2147483648) then
 bif inK .i64 (((i3:Nat):Int)+1) then
 some (.inl (i2++[Edge.mk ((i1:Nat):Int) (tA.Ins+((i3:Nat):Int)) x3],i3+1))
 else none
 else none
 else none
 else
 bif inK .i64 (((i3:Nat):Int)+1) then
 some (.inl (i2,i3+1))
 else none
 else
 bif ((nth tA.Ops i3).B_)==((i1:Nat):Int) then
 (iT x2 x1.2.1).bind fun x3=>
 bif ((nth tA.Ops i3).A_)==((i1:Nat):Int) then
 bif inK .i64 (tA.Ins+((i3:Nat):Int)) then
 bif decide (i2.length+1≤2147483648) then
 bif inK .i64 (((i3:Nat):Int)+1) then
 some (.inl (i2++[Edge.mk ((i1:Nat):Int) (tA.Ins+((i3:Nat):Int)) x3],i3+1))
 else none
 else none
 else none
 else
 bif ((nth tA.Ops i3).B_)==((i1:Nat):Int) then
 bif inK .i64 (tA.Ins+((i3:Nat):Int)) then
 bif decide (i2.length+1≤2147483648) then
 bif inK .i64 (((i3:Nat):Int)+1) then
 some (.inl (i2++[Edge.mk ((i1:Nat):Int) (tA.Ins+((i3:Nat):Int)) x3],i3+1))
 else none
 else none
 else none
 else
 bif inK .i64 (((i3:Nat):Int)+1) then
 some (.inl (i2,i3+1))
 else none
 else
 bif ((nth tA.Ops i3).A_)==((i1:Nat):Int) then
 bif inK .i64 (tA.Ins+((i3:Nat):Int)) then
 bif decide (i2.length+1≤2147483648) then
 bif inK .i64 (((i3:Nat):Int)+1) then
 some (.inl (i2++[Edge.mk ((i1:Nat):Int) (tA.Ins+((i3:Nat):Int)) x2],i3+1))
 else none
 else none
 else none
 else
 bif ((nth tA.Ops i3).B_)==((i1:Nat):Int) then
 bif inK .i64 (tA.Ins+((i3:Nat):Int)) then
 bif decide (i2.length+1≤2147483648) then
 bif inK .i64 (((i3:Nat):Int)+1) then
 some (.inl (i2++[Edge.mk ((i1:Nat):Int) (tA.Ins+((i3:Nat):Int)) x2],i3+1))
 else none
 else none
 else none
 else
 bif inK .i64 (((i3:Nat):Int)+1) then
 some (.inl (i2,i3+1))
 else none
 else
 (bQ 0).bind fun x2=>
 bif ((nth tA.Ops i3).A_)==((i1:Nat):Int) then
 (iT x2 x1.1).bind fun x3=>
 bif ((nth tA.Ops i3).A_)==((i1:Nat):Int) then
 bif inK .i64 (tA.Ins+((i3:Nat):Int)) then
 bif decide (i2.length+1≤2147483648) then
 bif inK .i64 (((i3:Nat):Int)+1) then
 some (.inl (i2++[Edge.mk ((i1:Nat):Int) (tA.Ins+((i3:Nat):Int)) x3],i3+1))
 else none
 else none
 else none
 else
 bif inK .i64 (((i3:Nat):Int)+1) then
 some (.inl (i2,i3+1))
 else none
 else
 bif ((nth tA.Ops i3).A_)==((i1:Nat):Int) then
 bif inK .i64 (tA.Ins+((i3:Nat):Int)) then
 bif decide (i2.length+1≤2147483648) then
 bif inK .i64 (((i3:Nat):Int)+1) then
 some (.inl (i2++[Edge.mk ((i1:Nat):Int) (tA.Ins+((i3:Nat):Int)) x2],i3+1))
 else none
 else none
 else none
 else
 bif inK .i64 (((i3:Nat):Int)+1) then
 some (.inl (i2,i3+1))
 else none
 else
 (bQ 0).bind fun x2=>
 bif ((nth tA.Ops i3).A_)==((i1:Nat):Int) then
 (iT x2 x1.1).bind fun x3=>
 bif ((nth tA.Ops i3).A_)==((i1:Nat):Int) then
 bif inK .i64 (tA.Ins+((i3:Nat):Int)) then
 bif decide (i2.length+1≤2147483648) then
 bif inK .i64 (((i3:Nat):Int)+1) then
 some (.inl (i2++[Edge.mk ((i1:Nat):Int) (tA.Ins+((i3:Nat):Int)) x3],i3+1))
 else none
 else none
 else none
 else
 bif inK .i64 (((i3:Nat):Int)+1) then
 some (.inl (i2,i3+1))
 else none
 else
 bif ((nth tA.Ops i3).A_)==((i1:Nat):Int) then
 bif inK .i64 (tA.Ins+((i3:Nat):Int)) then
 bif decide (i2.length+1≤2147483648) then
 bif inK .i64 (((i3:Nat):Int)+1) then
 some (.inl (i2++[Edge.mk ((i1:Nat):Int) (tA.Ins+((i3:Nat):Int)) x2],i3+1))
 else none
 else none
 else none
 else
 bif inK .i64 (((i3:Nat):Int)+1) then
 some (.inl (i2,i3+1))
 else none
 else
 bif decide (((nth tA.Ops i3).Code)≥2) then
 bif decide (((nth tA.Ops i3).Code)≤5) then
 (bQ 0).bind fun x2=>
 bif ((nth tA.Ops i3).B_)==((i1:Nat):Int) then
 (iT x2 x1.2.1).bind fun x3=>
 bif ((nth tA.Ops i3).B_)==((i1:Nat):Int) then
 bif inK .i64 (tA.Ins+((i3:Nat):Int)) then
 bif decide (i2.length+1≤2147483648) then
 bif inK .i64 (((i3:Nat):Int)+1) then
 some (.inl (i2++[Edge.mk ((i1:Nat):Int) (tA.Ins+((i3:Nat):Int)) x3],i3+1))
 else none
 else none
 else none
 else
 bif inK .i64 (((i3:Nat):Int)+1) then
 some (.inl (i2,i3+1))
 else none
 else
 bif ((nth tA.Ops i3).B_)==((i1:Nat):Int) then
 bif inK .i64 (tA.Ins+((i3:Nat):Int)) then
 bif decide (i2.length+1≤2147483648) then
 bif inK .i64 (((i3:Nat):Int)+1) then
 some (.inl (i2++[Edge.mk ((i1:Nat):Int) (tA.Ins+((i3:Nat):Int)) x2],i3+1))
 else none
 else none
 else none
 else
 bif inK .i64 (((i3:Nat):Int)+1) then
 some (.inl (i2,i3+1))
 else none
 else
 (bQ 0).bind fun x2=>
 bif inK .i64 (((i3:Nat):Int)+1) then
 some (.inl (i2,i3+1))
 else none
 else
 (bQ 0).bind fun x2=>
 bif inK .i64 (((i3:Nat):Int)+1) then
 some (.inl (i2,i3+1))
 else none
 else none
 else none
 else none
 else none
 else none
 else
 some (.inr i2)
def zV (tA:Tape) (x0:List Rat×Int) (i1:Nat) (i2:List Edge) (i3:Nat):Option (List Edge):=aI (fun (σ:List Edge×Nat)=>jU tA x0 i1 σ.1 σ.2) FU (i2,i3)
def ru (tA:Tape) (x0:List Rat×Int) (i:List Edge) (i1:Nat):Option ((List Edge×Nat)⊕(List Edge)):=
 bif decide (((i1:Nat):Int)<((x0.1.length:Nat):Int)) then
 (zV tA x0 i1 i 0).bind fun x1=>
 bif inK .i64 (((i1:Nat):Int)+1) then
 some (.inl (x1,i1+1))
 else none
 else
 some (.inr i)
def FW (tA:Tape) (x0:List Rat×Int) (i:List Edge) (i1:Nat):Option (List Edge):=aI (fun (σ:List Edge×Nat)=>ru tA x0 σ.1 σ.2) FU (i,i1)
def jG (tA:Tape) (a:List Rat):Option (List Edge×Int):=
 (tK tA a).bind fun x0=>
 bif x0.2 != 0 then
 some ([],x0.2)
 else
 (FW tA x0 [] 0).bind fun x1=>
 some (x1,0)
def rD (tA:Tape) (a1:List Rat) (x0:List Rat×Int) (i:List Rat) (i1:Nat):Option ((List Rat×Nat)⊕(List Rat)):=
 bif decide (((i1:Nat):Int)<((a1.length:Nat):Int)) then
 bif decide (i1<a1.length) then
 (fF (nth a1 i1)).bind fun x1=>
 bif decide (i.length+1≤2147483648) then
 bif inK .i64 (((i1:Nat):Int)+1) then
 some (.inl (i++[x1],i1+1))
 else none
 else none
 else none
 else
 some (.inr i)
def FT (tA:Tape) (a1:List Rat) (x0:List Rat×Int) (i:List Rat) (i1:Nat):Option (List Rat):=aI (fun (σ:List Rat×Nat)=>rD tA a1 x0 σ.1 σ.2) FU (i,i1)
def dY (tA:Tape) (x0:List Rat×Int) (i:List Rat) (i1:Nat):Option ((List Rat×Nat)⊕(List Rat)):=
 bif decide (((i1:Nat):Int)<((tA.Ops.length:Nat):Int)) then
 bif decide (i1<tA.Ops.length) then
 bif decide (0≤(nth tA.Ops i1).A_) then
 bif decide (((nth tA.Ops i1).A_).toNat<x0.1.length) then
 bif decide (0≤(nth tA.Ops i1).B_) then
 bif decide (((nth tA.Ops i1).B_).toNat<x0.1.length) then
 (uO (nth tA.Ops i1) (nth x0.1 (((nth tA.Ops i1).A_).toNat)) (nth x0.1 (((nth tA.Ops i1).B_).toNat))).bind fun x2=>
 bif decide (0≤(nth tA.Ops i1).A_) then
 bif decide (((nth tA.Ops i1).A_).toNat<i.length) then
 bif decide (((nth tA.Ops i1).A_).toNat<i.length) then
 (iO x2.1 (nth i (((nth tA.Ops i1).A_).toNat))).bind fun x3=>
 bif decide (0≤(nth tA.Ops i1).B_) then
 bif decide (((nth tA.Ops i1).B_).toNat<i.length) then
 bif decide (((nth tA.Ops i1).B_).toNat<i.length) then
 (iO x2.2.1 (nth i (((nth tA.Ops i1).B_).toNat))).bind fun x4=>
 (iT x3 x4).bind fun x5=>
 bif decide (i.length+1≤2147483648) then
 bif inK .i64 (((i1:Nat):Int)+1) then
 some (.inl (i++[x5],i1+1))
 else none
 else none
 else none
 else none
 else none
 else none
 else none
 else none
 else none
 else none
 else none
 else none
 else none
 else
 some (.inr i)
def AA (tA:Tape) (x0:List Rat×Int) (i:List Rat) (i1:Nat):Option (List Rat):=aI (fun (σ:List Rat×Nat)=>dY tA x0 σ.1 σ.2) FU (i,i1)
def zA (tA:Tape) (a:List Rat) (a1:List Rat):Option (List Rat×Int):=
 (tK tA a).bind fun x0=>
 bif x0.2 != 0 then
 some ([],x0.2)
 else
 bif ((a1.length:Nat):Int) != tA.Ins then
 some ([],8)
 else
 (FT tA a1 x0 [] 0).bind fun x1=>
 bif x1.isEmpty then
 (AA tA x0 [] 0).bind fun x2=>
 some (x2,0)
 else
 bif !x1.isEmpty then
 (AA tA x0 x1 0).bind fun x2=>
 some (x2,0)
 else none
def tq (tA:Tape) (a:List Rat) (a1:Int) (i:Nat) (o:List Rat):Option ((Nat×List Rat)⊕(List Rat)):=
 bif decide (((i:Nat):Int)<((o.length:Nat):Int)) then
 (bQ 0).bind fun x0=>
 bif decide (i<o.length) then
 bif decide (i<o.length) then
 bif inK .i64 (((i:Nat):Int)+1) then
 some (.inl (i+1,o.set i x0))
 else none
 else none
 else none
 else
 some (.inr o)
def Bo (tA:Tape) (a:List Rat) (a1:Int) (i:Nat) (o:List Rat):Option (List Rat):=aI (fun (σ:Nat×List Rat)=>tq tA a a1 σ.1 σ.2) FU (i,o)
def pJ (tA:Tape) (a:List Rat) (i:Int) (o:List Rat):Option ((Int×List Rat)⊕(List Rat)):=
 bif decide (i≥0) then
 bif decide (0≤i) then
 bif decide (i.toNat<tA.Ops.length) then
 bif decide (0≤(nth tA.Ops i.toNat).A_) then
 bif decide (((nth tA.Ops i.toNat).A_).toNat<a.length) then
 bif decide (0≤(nth tA.Ops i.toNat).B_) then
 bif decide (((nth tA.Ops i.toNat).B_).toNat<a.length) then
 (uO (nth tA.Ops i.toNat) (nth a (((nth tA.Ops i.toNat).A_).toNat)) (nth a (((nth tA.Ops i.toNat).B_).toNat))).bind fun x2=>
 bif inK .i64 (tA.Ins+i) then
 bif decide (0≤tA.Ins+i) then
 bif decide ((tA.Ins+i).toNat<o.length) then
 bif decide ((tA.Ins+i).toNat<o.length) then
 bif decide (0≤(nth tA.Ops i.toNat).A_) then
 bif decide (((nth tA.Ops i.toNat).A_).toNat<o.length) then
 bif decide (((nth tA.Ops i.toNat).A_).toNat<o.length) then
 (iO x2.1 (nth o ((tA.Ins+i).toNat))).bind fun x3=>
 (iT (nth o (((nth tA.Ops i.toNat).A_).toNat)) x3).bind fun x4=>
 bif decide (0≤(nth tA.Ops i.toNat).A_) then
 bif decide (((nth tA.Ops i.toNat).A_).toNat<o.length) then
 bif decide (((nth tA.Ops i.toNat).A_).toNat<o.length) then
 bif decide (0≤(nth tA.Ops i.toNat).B_) then
 bif decide (((nth tA.Ops i.toNat).B_).toNat<(o.set (((nth tA.Ops i.toNat).A_).toNat) x4).length) then
 bif decide (((nth tA.Ops i.toNat).B_).toNat<(o.set (((nth tA.Ops i.toNat).A_).toNat) x4).length) then
 (iO x2.2.1 (nth o ((tA.Ins+i).toNat))).bind fun x5=>
 (iT (nth (o.set (((nth tA.Ops i.toNat).A_).toNat) x4) (((nth tA.Ops i.toNat).B_).toNat)) x5).bind fun x6=>
 bif decide (0≤(nth tA.Ops i.toNat).B_) then
 bif decide (((nth tA.Ops i.toNat).B_).toNat<(o.set (((nth tA.Ops i.toNat).A_).toNat) x4).length) then
 bif decide (((nth tA.Ops i.toNat).B_).toNat<(o.set (((nth tA.Ops i.toNat).A_).toNat) x4).length) then
 bif inK .i64 (i-1) then
 some (.inl (i-1,(o.set (((nth tA.Ops i.toNat).A_).toNat) x4).set (((nth tA.Ops i.toNat).B_).toNat) x6))
 else none
 else none
 else none
 else none
 else none
 else none
 else none
 else none
 else none
 else none
 else none
 else none
 else none
 else none
 else none
 else none
 else none
 else none
 else none
 else none
 else none
 else none
 else none
 else
 some (.inr o)
def D5 (tA:Tape) (a:List Rat) (i:Int) (o:List Rat):Option (List Rat):=aI (fun (σ:Int×List Rat)=>pJ tA a σ.1 σ.2) FU (i,o)
def Dk (tA:Tape) (a:List Rat) (a1:Int):Option (List Rat):=
 bif decide (a.length≤2147483648) then
 (Bo tA a a1 0 (List.replicate a.length (Rat.mk false [] []))).bind fun x0=>
 (bQ 1).bind fun x1=>
 bif decide (0≤a1) then
 bif decide (a1.toNat<x0.length) then
 bif decide (a1.toNat<x0.length) then
 bif inK .i64 (((tA.Ops.length:Nat):Int)-1) then
 (D5 tA a (((tA.Ops.length:Nat):Int)-1) (x0.set a1.toNat x1)).bind fun x2=>
 some x2
 else none
 else none
 else none
 else none
 else none
def gX (t:Tape) (x0:List Rat×Int) (r:Nat) (j:List Rat):Option ((Nat×List Rat)⊕(List Rat)):=
 bif j.isEmpty then
 bif decide (((r:Nat):Int)<((t.aB.length:Nat):Int)) then
 bif decide (r<t.aB.length) then
 (Dk t x0.1 (nth t.aB r)).bind fun x1=>
 bif decide (0≤t.Ins) then
 bif decide (0≤t.Ins.toNat) then
 bif decide (t.Ins.toNat≤x1.length) then
 bif Nat.ble 1 (x1.take t.Ins.toNat).length then
 bif decide ((x1.take t.Ins.toNat).length≤2147483648) then
 bif inK .i64 (((r:Nat):Int)+1) then
 bif !(x1.take t.Ins.toNat).isEmpty then
 some (.inl (r+1,x1.take t.Ins.toNat))
 else none
 else none
 else none
 else none
 else none
 else none
 else none
 else none
 else
 some (.inr [])
 else
 bif decide (((r:Nat):Int)<((t.aB.length:Nat):Int)) then
 bif decide (r<t.aB.length) then
 (Dk t x0.1 (nth t.aB r)).bind fun x1=>
 bif decide (0≤t.Ins) then
 bif decide (0≤t.Ins.toNat) then
 bif decide (t.Ins.toNat≤x1.length) then
 bif decide (j.length+(x1.take t.Ins.toNat).length≤2147483648) then
 bif inK .i64 (((r:Nat):Int)+1) then
 some (.inl (r+1,j++(x1.take t.Ins.toNat)))
 else none
 else none
 else none
 else none
 else none
 else none
 else
 some (.inr j)
def xY (t:Tape) (x0:List Rat×Int) (r:Nat) (j:List Rat):Option (List Rat):=aI (fun (σ:Nat×List Rat)=>gX t x0 σ.1 σ.2) FU (r,j)
def wM (t:Tape) (x:List Rat):Option (Jac×Int):=
 (tK t x).bind fun x0=>
 bif x0.2 != 0 then
 some (Jac.mk 0 0 [],x0.2)
 else
 (xY t x0 0 []).bind fun x1=>
 some (Jac.mk ((t.aB.length:Nat):Int) t.Ins x1,0)
def iQ (tA:Tape) (x0:List Edge×Int) (i:Nat) (i1:Nat) (o1:List Edge):Option ((Nat×List Edge)⊕(List Edge)):=
 bif decide (((i1:Nat):Int)<((x0.1.length:Nat):Int)) then
 bif decide (i1<x0.1.length) then
 bif ((nth x0.1 i1).From)==((i:Nat):Int) then
 bif decide (i1<x0.1.length) then
 bif decide (o1.length+1≤2147483648) then
 bif inK .i64 (((i1:Nat):Int)+1) then
 some (.inl (i1+1,o1++[nth x0.1 i1]))
 else none
 else none
 else none
 else
 bif inK .i64 (((i1:Nat):Int)+1) then
 some (.inl (i1+1,o1))
 else none
 else none
 else
 some (.inr o1)
def zQ (tA:Tape) (x0:List Edge×Int) (i:Nat) (i1:Nat) (o1:List Edge):Option (List Edge):=aI (fun (σ:Nat×List Edge)=>iQ tA x0 i σ.1 σ.2) FU (i1,o1)
def iP (tA:Tape) (x0:List Edge×Int) (i:Nat) (i1:Nat) (o1:List Edge):Option ((Nat×List Edge)⊕(List Edge)):=
 bif decide (((i1:Nat):Int)<((tA.aB.length:Nat):Int)) then
 bif decide (i1<tA.aB.length) then
 bif (nth tA.aB i1)==((i:Nat):Int) then
 bif inK .i64 (tA.Ins+((tA.Ops.length:Nat):Int)) then
 bif inK .i64 ((tA.Ins+((tA.Ops.length:Nat):Int))+((i1:Nat):Int)) then
 (bQ 1).bind fun x2=>
 bif decide (o1.length+1≤2147483648) then
 bif inK .i64 (((i1:Nat):Int)+1) then
 some (.inl (i1+1,o1++[Edge.mk ((i:Nat):Int) ((tA.Ins+((tA.Ops.length:Nat):Int))+((i1:Nat):Int)) x2]))
 else none
 else none
 else none
 else none
 else
 bif inK .i64 (((i1:Nat):Int)+1) then
 some (.inl (i1+1,o1))
 else none
 else none
 else
 some (.inr o1)
def Ac (tA:Tape) (x0:List Edge×Int) (i:Nat) (i1:Nat) (o1:List Edge):Option (List Edge):=aI (fun (σ:Nat×List Edge)=>iP tA x0 i σ.1 σ.2) FU (i1,o1)
def mM (tA:Tape) (x0:List Edge×Int) (i:Nat) (o:List Edge):Option ((Nat×List Edge)⊕(List Edge)):=
 bif inK .i64 (tA.Ins+((tA.Ops.length:Nat):Int)) then
 bif decide (((i:Nat):Int)<(tA.Ins+((tA.Ops.length:Nat):Int))) then
 (zQ tA x0 i 0 o).bind fun x1=>
 (Ac tA x0 i 0 x1).bind fun x2=>
 bif inK .i64 (((i:Nat):Int)+1) then
 some (.inl (i+1,x2))
 else none
 else
 some (.inr o)
 else none
def FC (tA:Tape) (x0:List Edge×Int) (i:Nat) (o:List Edge):Option (List Edge):=aI (fun (σ:Nat×List Edge)=>mM tA x0 σ.1 σ.2) FU (i,o)
def Fq (tA:Tape) (a:List Rat):Option (Graph×Int):=
 (jG tA a).bind fun x0=>
 bif x0.2 != 0 then
 some (Graph.mk 0 0 0 [] [],x0.2)
 else
 (FC tA x0 0 []).bind fun x1=>
 (EY (Graph.mk tA.Ins ((tA.Ops.length:Nat):Int) ((tA.aB.length:Nat):Int) x1 [])).bind fun x2=>
 some (x2,0)
end Go.Ab.M
