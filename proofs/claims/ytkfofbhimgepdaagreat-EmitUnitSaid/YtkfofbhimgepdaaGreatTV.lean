import Derived.Test.YtkfofbhimgepdaaGreatTF
namespace Go.Ab.M
open Go.Proofs
set_option linter.unusedVariables false
set_option linter.defProp false
set_option maxRecDepth 100000
structure TOp where
 Code:Int
 A_:Int
 B_:Int
 Exp:Int
 Num:Rat
 deriving DecidableEq,Inhabited
abbrev TOp.D (x:TOp):List D:=[.v (.int .i64 x.Code)]++[.v (.int .i64 x.A_)]++[.v (.int .i64 x.B_)]++[.v (.int .i64 x.Exp)]++Rat.D x.Num
structure Tape where
 Ins:Int
 Ops:List TOp
 ay:List Int
 deriving DecidableEq,Inhabited
abbrev Tape.D (x:Tape):List D:=[.v (.int .i64 x.Ins),.sl (x.Ops.map TOp.D),.sl (x.ay.map K1)]
def MB (tA:Tape) (i:List Int) (i1:Nat):St:=⟨85,0,[(1,.ptr 10 0 0),(4,aX 100006 i),(38,I tA.Ins),(39,I (i1:Int))],[(10,BOX [I tA.Ins,SL TOp.D tA.Ops,SL K1 tA.ay]),(100006,aY 1 K1 i)]⟩
def Md (tA:Tape) (i:List Int):St:=⟨85,0,[(1,.ptr 10 0 0),(4,aX 100006 i)],[(10,BOX [I tA.Ins,SL TOp.D tA.Ops,SL K1 tA.ay]),(100006,aY 1 K1 i)]⟩
def jT (tA:Tape) (i:List Int) (i1:Nat):Option ((List Int×Nat)⊕(List Int)):=bif decide ((i1:Int)<tA.Ins) then G1 (i.length+1<=2147483648)<|G2 ((i1:Int)+1)<|some (.inl (i++[1],i1+1)) else some (.inr i)
theorem Me (tA:Tape):∀σ:List Int×Nat,aU Tryz.prog (nav [1,1,1,0,1,0,0] (aQ Tryz.f57)) (fun (σ:List Int×Nat)=>MB tA σ.1 σ.2) (fun (_:List Int)=>(.exit 0)) (fun (y:List Int)=>Md tA y) σ (jT tA σ.1 σ.2)
 | ([],i1)=>aJ 1010 (.br 100000040 (.op 60004 (.ap K1 [] [1] 1 fun _=>⟨rfl,rfl⟩) (.ps 1000003 [.k [1,4,38,39] [10,1011],.m 1011 100006] (.ret (.inl ([1],i1+1))))) (G3 [1,4] [10,100006] (.ret (.inr []))))
 | (i_h::i_t,i1)=>aJ 1010 (.br 100000040 (.op 60004 (.ap K1 (i_h::i_t) [1] 1 fun _=>⟨rfl,rfl⟩) (.ps 1000003 [.k [1,4,38,39] [10,1011],.m 1011 100006] (.ret (.inl ((i_h::i_t)++[1],i1+1))))) (G3 [1,4] [10,100006] (.ret (.inr (i_h::i_t)))))
def zH (tA:Tape) (i:List Int) (i1:Nat):Option (List Int):=aT (fun (σ:List Int×Nat)=>jT tA σ.1 σ.2) FU (i,i1)
def NC (tA:Tape) (i:List Int) (i1:Nat):=
 bf (Me tA) (fun _ h=>by cases h) FU (i,i1)
def YH:ByteArray:=⟨#[]⟩
def RQ (a1:List Int) (out:List Int):St:=⟨32,0,[(0,SL K2 a1),(3,aX 100007 out)],[(100007,aY 1 (cI .u8) out)]⟩
def Rk (out:List Int):St:=⟨32,0,[(3,aX 100007 out)],[(100007,aY 1 (cI .u8) out)]⟩
def dP (a1:List Int) (out:List Int):Option ((List Int×List Int)⊕(List Int)):=let y0:=out.length+1<=2147483648;(jU a1).bind fun x0=>bif decide (x0>0) then (lq a1 10).bind fun x1=>G1 y0<|some (.inl (x1.1,out++[IntKind.wrap .u8 (IntKind.wrap .u32 (48+x1.2.1))])) else bif (out.length:Int)==0 then (lq a1 10).bind fun x1=>G1 y0<|some (.inl (x1.1,out++[IntKind.wrap .u8 (IntKind.wrap .u32 (48+x1.2.1))])) else some (.inr out)
theorem QJ:∀σ:List Int×List Int,aU Tryz.prog (nav [1,1,0,0,0] (aQ Tryz.f206)) (fun (σ:List Int×List Int)=>RQ σ.1 σ.2) (fun (_:List Int)=>(.exit 0)) (fun (y:List Int)=>Rk y) σ (dP σ.1 σ.2)
 | (a1,[])=>aJ 1010 (.call [] [] (tN a1) .no fun x0=>.br 20008 (.call [] [] (nV a1 10) .no fun x1=>.op 40006 .wr (.op 40010 (.ap (cI .u8) [] [IntKind.wrap .u8 (IntKind.wrap .u32 (48+x1.2.1))] 1 fun _=>⟨rfl,rfl⟩) (.ps 1000003 [.k [0,3] [1011],.m 1011 100007] (.ret (.inl (x1.1,[IntKind.wrap .u8 (IntKind.wrap .u32 (48+x1.2.1))])))))) (.call [] [] (nV a1 10) .no fun x1=>.op 40006 .wr (.op 40010 (.ap (cI .u8) [] [IntKind.wrap .u8 (IntKind.wrap .u32 (48+x1.2.1))] 1 fun _=>⟨rfl,rfl⟩) (.ps 1000003 [.k [0,3] [1011],.m 1011 100007] (.ret (.inl (x1.1,[IntKind.wrap .u8 (IntKind.wrap .u32 (48+x1.2.1))])))))))
 | (a1,bV::bW)=>aJ 1010 (.call [] [] (tN a1) .no fun x0=>.br 20008 (.call [] [] (nV a1 10) .no fun x1=>.op 40006 .wr (.op 40010 (.ap (cI .u8) (bV::bW) [IntKind.wrap .u8 (IntKind.wrap .u32 (48+x1.2.1))] 1 fun _=>⟨rfl,rfl⟩) (.ps 1000003 [.k [0,3] [1011],.m 1011 100007] (.ret (.inl (x1.1,(bV::bW)++[IntKind.wrap .u8 (IntKind.wrap .u32 (48+x1.2.1))])))))) (.op 20010 (.ln (cI .u8) (bV::bW)) (.br 100000014 (.call [] [] (nV a1 10) .no fun x1=>.op 40006 .wr (.op 40010 (.ap (cI .u8) (bV::bW) [IntKind.wrap .u8 (IntKind.wrap .u32 (48+x1.2.1))] 1 fun _=>⟨rfl,rfl⟩) (.ps 1000003 [.k [0,3] [1011],.m 1011 100007] (.ret (.inl (x1.1,(bV::bW)++[IntKind.wrap .u8 (IntKind.wrap .u32 (48+x1.2.1))])))))) (G3 [3] [100007] (.ret (.inr (bV::bW)))))))
def Nl (a1:List Int) (out:List Int):Option (List Int):=aT (fun (σ:List Int×List Int)=>dP σ.1 σ.2) FU (a1,out)
def Sj (a1:List Int) (out:List Int):=
 bf (QJ) (fun _ h=>by cases h) FU (a1,out)
def xH:St:=⟨28,0,[(0,SL (cI .u8) ([]:List Int)),(2,I 0),(3,I ((([]:List Int).length:Int)-1))],[]⟩
def xI:St:=⟨28,0,[],[]⟩
def lg:Option (Unit⊕Unit):=let y0:=(([]:List Int).length:Int);let y1:=0<([]:List Int).length;bif decide (0<(y0-1)) then G1 (0<=y0-1)<|G1 ((y0-1).toNat<([]:List Int).length)<|G1 y1<|G1 y1<|none else some (.inr ())
theorem wY:∀σ:Unit,aU Tryz.prog (nav [1,0,0] (aQ Tryz.f236)) (fun (σ:Unit)=>xH) (fun (_:Unit)=>(.exit 0)) (fun (y:Unit)=>xI) σ (lg)
 | ()=>aJ 1010 (.br 100000009 (.op 30012 (.el (cI .u8) ([]:List Int) .dn) (.op 30020 (.el (cI .u8) ([]:List Int) (.up 0)) (.op 30024 (.el (cI .u8) ([]:List Int) (.up 0)) .nil))) (G3 [] [] (.ret (.inr ()))))
def Aa:Option Unit:=aT (fun (σ:Unit)=>lg) FU ()
def xu:=
 bf (wY) (fun _ h=>by cases h) FU ()
def rE:Option Unit:=G2 ((([]:List Int).length:Int)-1)<|(Aa).bind fun x0=>some ()
theorem yR:∀r,rE=some r->au Tryz.prog 236 0 [SL (cI .u8) ([]:List Int)] [] (.tup []) []:=
 aA 10 (.op 2 (.ln (cI .u8) ([]:List Int)) (G4 [0,2,3] [] (.lp1 0 (xu) fun x0=>.ret ()))) Tryz.func236
def vS (i:Nat) (j:Int) (s:List Int):St:=⟨28,1,[(0,.msl 0 0 none none),(2,I (i:Int)),(3,I j)],[(0,ROW 1 (cI .u8) s 0)]⟩
def vO (o:List Int):St:=⟨28,1,[],[(0,ROW 1 (cI .u8) o 0)]⟩
def dS (i:Nat) (j:Int) (s:List Int):Option ((Nat×Int×List Int)⊕(List Int)):=let y0:=s.set i (nth s j.toNat);let y1:=i<s.length;let y2:=j.toNat<y0.length;let y3:=j.toNat<s.length;bif decide ((i:Int)<j) then G1 (0<=j)<|G1 y3<|G1 y3<|G1 y1<|G1 y1<|G1 y1<|G1 y1<|G1 (0<=j)<|G1 y2<|G1 y2<|G2 ((i:Int)+1)<|G2 (j-1)<|some (.inl (i+1,j-1,y0.set j.toNat (nth s i))) else some (.inr s)
theorem vT:∀σ:Nat×Int×List Int,aU Tryz.prog (nav [1,0,0] (aQ Tryz.f236)) (fun (σ:Nat×Int×List Int)=>vS σ.1 σ.2.1 σ.2.2) (fun (_:List Int)=>(.exit 0)) (fun (y:List Int)=>vO y) σ (dS σ.1 σ.2.1 σ.2.2)
 | (i,j,s)=>let y0:=s.set i (nth s j.toNat);aJ 1010 (.br 100000009 (.op 30012 (.el (cI .u8) s .dn) (.op 30014 (.ld (cI .u8) s) (.op 30020 (.el (cI .u8) s (.up i)) (.op 30022 (.ld (cI .u8) s) (.op 30024 (.el (cI .u8) s (.up i)) (.op 30026 (.st (cI .u8) s (nth s j.toNat)) (.op 30028 (.el (cI .u8) y0 .dn) (.op 30030 (.st (cI .u8) y0 (nth s i)) (G3 [0,2,3] [0] (.ret (.inl (i+1,j-1,y0.set j.toNat (nth s i))))))))))))) (G3 [] [0] (.ret (.inr s))))
def jc (i:Nat) (j:Int) (s:List Int):Option (List Int):=aT (fun (σ:Nat×Int×List Int)=>dS σ.1 σ.2.1 σ.2.2) FU (i,j,s)
def vP (i:Nat) (j:Int) (s:List Int):=
 bf (vT) (fun _ h=>by cases h) FU (i,j,s)
def gI (o0:List Int):Option (List Int):=G2 ((o0.length:Int)-1)<|(jc 0 ((o0.length:Int)-1) o0).bind fun x0=>some x0
theorem wX (o0:List Int):∀r,gI o0=some r->au Tryz.prog 236 1 [.msl 0 0 none none] [(0,ROW 1 (cI .u8) o0 0)] (.tup []) [(0,ROW 1 (cI .u8) r 0)]:=
 aA 10 (.op 2 (.ln (cI .u8) o0) (G4 [0,2,3] [0] (.lp1 0 (vP 0 ((o0.length:Int)-1) o0) fun x0=>.ret x0))) Tryz.func236
def LZ (a:List Int):Option ByteArray:=(Nl a []).bind fun x0=>bif x0.isEmpty then (rE).bind fun x1=>some (strOfNums ([]:List Int)) else (gI x0).bind fun x1=>some (strOfNums x1)
theorem XW (a:List Int):∀r,LZ a=some r->au Tryz.prog 206 0 [SL K2 a] [] (SX r) []:=
 aA 10 (G4 [0,3] [100007] (.lp1 0 (Sj a []) fun x0=>.cl 1 3 100007 1 (cI .u8) x0 (.ps 1 [.k [3] []] (.call [] [] (yR) .no fun x1=>.ps 12 [.n 3] (.op 70002 (.bs ([]:List Int)) (.ret (strOfNums ([]:List Int)))))) (.ps 1 [.k [3] [100007]] (.call [100007] [] (wX x0) .no fun x1=>.op 70002 (.bs x1) (.ret (strOfNums x1)))))) Tryz.func206
def nX (a:List Int):Option Int:=(LZ a).bind fun x0=>some (x0.size:Int)
theorem uQ (a:List Int):∀r,nX a=some r->au Tryz.prog 150 0 [SL K2 a] [] (I r) []:=
 aA 10 (.call [] [] (XW a) .no fun x0=>.ret (x0.size:Int)) Tryz.func150
def wV (x:Rat):Option Bool:=(oD x).bind fun x0=>bif x0 then (nX x.Num).bind fun x1=>bif decide (x1<=40) then (nX x.Den).bind fun x2=>some (decide (x2<=40)) else some false else some false
theorem O9 (x:Rat):∀r,wV x=some r->au Tryz.prog 162 0 [AG Rat.D x] [] (B r) []:=
 aA 10 (.call [] [] (zG x) .no fun x0=>.br 10006 (.call [] [] (uQ x.Num) .no fun x1=>.br 10018 (.call [] [] (uQ x.Den) .no fun x2=>.ret (decide (x2<=40))) (.ret false)) (.ret false)) Tryz.func162
def jo (x:Rat):Option Bool:=bif !x.Neg then bif (x.Num.length:Int)==0 then some ((x.Den.length:Int)==0) else some false else some false
theorem jY (x:Rat):∀r,jo x=some r->au Tryz.prog 163 0 [AG Rat.D x] [] (B r) []:=
 aA 10 (.br 10008 (.op 10012 (.ln K2 x.Num) (.br 10020 (.op 10024 (.ln K2 x.Den) (.ret ((x.Den.length:Int)==0))) (.ret false))) (.ret false)) Tryz.func163
def Bg (o:TOp):Option Bool:=let y0:=o.Exp>=(-20);bif o.Code==1 then (wV o.Num).bind fun x0=>bif !x0 then some false else bif o.A_ != 0 then some false else bif o.B_ != 0 then some false else bif o.Exp != 0 then some false else (jo (Rat.mk false [] [])).bind fun x1=>bif x1 then bif decide y0 then bif decide (o.Exp<=20) then bif o.Code != 7 then some true else some (o.B_==0) else some false else some false else some false else bif o.Code==6 then bif o.B_ != 0 then some false else bif o.Exp != 0 then some false else (jo o.Num).bind fun x0=>bif x0 then bif decide y0 then bif decide (o.Exp<=20) then bif o.Code != 7 then some true else some (o.B_==0) else some false else some false else some false else bif o.Code==2 then bif o.Exp != 0 then some false else (jo o.Num).bind fun x0=>bif x0 then bif decide y0 then bif decide (o.Exp<=20) then bif o.Code != 7 then some true else some (o.B_==0) else some false else some false else some false else bif o.Code==3 then bif o.Exp != 0 then some false else (jo o.Num).bind fun x0=>bif x0 then bif decide y0 then bif decide (o.Exp<=20) then bif o.Code != 7 then some true else some (o.B_==0) else some false else some false else some false else bif o.Code==4 then bif o.Exp != 0 then some false else (jo o.Num).bind fun x0=>bif x0 then bif decide y0 then bif decide (o.Exp<=20) then bif o.Code != 7 then some true else some (o.B_==0) else some false else some false else some false else bif o.Code==5 then bif o.Exp != 0 then some false else (jo o.Num).bind fun x0=>bif x0 then bif decide y0 then bif decide (o.Exp<=20) then bif o.Code != 7 then some true else some (o.B_==0) else some false else some false else some false else bif o.Code==7 then (jo o.Num).bind fun x0=>bif x0 then bif decide y0 then bif decide (o.Exp<=20) then bif o.Code != 7 then some true else some (o.B_==0) else some false else some false else some false else some false
theorem Hu (o:TOp):∀r,Bg o=some r->au Tryz.prog 101 0 [AG TOp.D o] [] (B r) []:=
 aA 10 (.br 100000005 (.call [] [] (O9 o.Num) .no fun x0=>.br 90010 (.ret false) (.br 100000024 (.ret false) (.br 100000029 (.ret false) (.br 100000032 (.ret false) (.call [] [] (jY (Rat.mk false [] [])) .no fun x1=>.br 160008 (.br 160018 (.br 160028 (.br 160036 (.ret true) (.ret (o.B_==0))) (.ret false)) (.ret false)) (.ret false)))))) (.br 100000007 (.br 100000029 (.ret false) (.br 100000032 (.ret false) (.call [] [] (jY o.Num) .no fun x0=>.br 160008 (.br 160018 (.br 160028 (.br 160036 (.ret true) (.ret (o.B_==0))) (.ret false)) (.ret false)) (.ret false)))) (.br 100000009 (.br 100000032 (.ret false) (.call [] [] (jY o.Num) .no fun x0=>.br 160008 (.br 160018 (.br 160028 (.br 160036 (.ret true) (.ret (o.B_==0))) (.ret false)) (.ret false)) (.ret false))) (.br 100000009 (.br 100000032 (.ret false) (.call [] [] (jY o.Num) .no fun x0=>.br 160008 (.br 160018 (.br 160028 (.br 160036 (.ret true) (.ret (o.B_==0))) (.ret false)) (.ret false)) (.ret false))) (.br 100000009 (.br 100000032 (.ret false) (.call [] [] (jY o.Num) .no fun x0=>.br 160008 (.br 160018 (.br 160028 (.br 160036 (.ret true) (.ret (o.B_==0))) (.ret false)) (.ret false)) (.ret false))) (.br 100000009 (.br 100000032 (.ret false) (.call [] [] (jY o.Num) .no fun x0=>.br 160008 (.br 160018 (.br 160028 (.br 160036 (.ret true) (.ret (o.B_==0))) (.ret false)) (.ret false)) (.ret false))) (.br 100000014 (.call [] [] (jY o.Num) .no fun x0=>.br 160008 (.br 160018 (.br 160028 (.br 160036 (.ret true) (.ret (o.B_==0))) (.ret false)) (.ret false)) (.ret false)) (.ret false)))))))) Tryz.func101
def Nz (n:Int):Option Int:=G2 (0-n)<|some (mxI n (0-n))
theorem aax (n:Int):∀r,Nz n=some r->au Tryz.prog 164 0 [I n] [] (I r) []:=
 aA 10 (.ret (mxI n (0-n))) Tryz.func164
def A8 (o:TOp) (w:List Int):Option (Int×Bool):=let y1:=nth w o.A_.toNat;let y2:=y1+(nth w o.B_.toNat);let y0:=(y1+(nth w o.B_.toNat),decide (y2<=200));let y3:=o.B_.toNat<w.length;let y4:=(w.length:Int);bif o.Code==1 then some (1,true) else bif decide (o.A_<0) then some (0,false) else bif decide (o.A_>=y4) then some (0,false) else bif decide (o.B_<0) then some (0,false) else bif decide (o.B_>=y4) then some (0,false) else bif decide (0<=o.A_) then bif decide (o.A_.toNat<w.length) then bif o.Code==2 then bif decide (0<=o.B_) then bif decide y3 then bif inK .i64 y2 then some y0 else none else none else none else bif o.Code==3 then bif decide (0<=o.B_) then bif decide y3 then bif inK .i64 y2 then some y0 else none else none else none else bif o.Code==4 then bif decide (0<=o.B_) then bif decide y3 then bif inK .i64 y2 then some y0 else none else none else none else bif o.Code==5 then bif decide (0<=o.B_) then bif decide y3 then bif inK .i64 y2 then some y0 else none else none else none else bif o.Code==7 then (Nz o.Exp).bind fun x0=>bif inK .i64 (y1*(mxI 1 x0)) then some (y1*(mxI 1 x0),decide ((y1*(mxI 1 x0))<=200)) else none else some (nth w o.A_.toNat,decide (y1<=200)) else none else none
theorem Hq (o:TOp) (w:List Int):∀r,A8 o w=some r->au Tryz.prog 102 0 [AG TOp.D o,SL K1 w] [] (.tup [I r.1,B r.2]) []:=
 let y1:=nth w o.A_.toNat;let y0:=(y1+(nth w o.B_.toNat),decide ((y1+(nth w o.B_.toNat))<=200));aA 10 (.br 100000009 (.ret (1,true)) (.br 30008 (.ret (0,false)) (.op 30014 (.ln K1 w) (.br 30022 (.ret (0,false)) (.br 30032 (.ret (0,false)) (.op 30038 (.ln K1 w) (.br 100000031 (.ret (0,false)) (.op 50006 (.el K1 w .dn) (.br 100000039 (.op 110008 (.el K1 w .dn) (.ret y0)) (.br 100000039 (.op 110008 (.el K1 w .dn) (.ret y0)) (.br 100000039 (.op 110008 (.el K1 w .dn) (.ret y0)) (.br 100000039 (.op 110008 (.el K1 w .dn) (.ret y0)) (.br 100000051 (.call [] [] (aax o.Exp) .no fun x0=>.ret (y1*(mxI 1 x0),decide ((y1*(mxI 1 x0))<=200))) (.ret (nth w o.A_.toNat,decide (y1<=200)))))))))))))))) Tryz.func102
def JM (tA:Tape) (i:List Int) (i1:Nat):St:=⟨85,0,[(1,.ptr 10 0 0),(4,aX 100006 i),(46,SL TOp.D tA.Ops),(47,I (tA.Ops.length:Int)),(48,I (i1:Int))],[(10,BOX [I tA.Ins,SL TOp.D tA.Ops,SL K1 tA.ay]),(100006,aY 1 K1 i)]⟩
def JL (tA:Tape):St:=⟨85,0,[(2,dO),(3,B false)],[]⟩
def Jz (tA:Tape) (i:List Int):St:=⟨85,0,[(1,.ptr 10 0 0),(4,aX 100006 i)],[(10,BOX [I tA.Ins,SL TOp.D tA.Ops,SL K1 tA.ay]),(100006,aY 1 K1 i)]⟩
def dN (tA:Tape) (i:List Int) (i1:Nat):Option ((List Int×Nat)⊕(Unit⊕(List Int))):=let y0:=nth tA.Ops i1;bif decide ((i1:Int)<(tA.Ops.length:Int)) then G1 (i1<tA.Ops.length)<|(Bg y0).bind fun x1=>bif !x1 then some (.inr (.inl ())) else (A8 y0 i).bind fun x2=>bif !x2.2 then some (.inr (.inl ())) else G1 (i.length+1<=2147483648)<|G2 ((i1:Int)+1)<|some (.inl (i++[x2.1],i1+1)) else some (.inr (.inr i))
theorem Jw (tA:Tape):∀σ:List Int×Nat,aU Tryz.prog (nav [1,1,1,1,0,1,0,0] (aQ Tryz.f57)) (fun (σ:List Int×Nat)=>JM tA σ.1 σ.2) (fun (y:Unit⊕(List Int))=>aN y (fun _=>.ret) (fun _=>(.exit 2))) (fun (y:Unit⊕(List Int))=>aN y (fun y=>JL tA) (fun y=>Jz tA y)) σ (dN tA σ.1 σ.2)
 | ([],i1)=>let y0:=G3 [2,3] [] (.ret (.inr (.inl ())));let y1:=nth tA.Ops i1;aJ 1010 (.br 100000049 (.op 100000 (.el TOp.D tA.Ops (.up i1)) (.call [] [] (Hu y1) .no fun x1=>.br 100000054 y0 (.call [] [] (Hq y1 []) .no fun x2=>.br 100000062 y0 (.op 160006 (.ap K1 [] [x2.1] 1 fun _=>⟨rfl,rfl⟩) (.ps 1000003 [.k [1,4,46,47,48] [10,1012],.m 1012 100006] (.ret (.inl ([x2.1],i1+1)))))))) (G3 [1,4] [10,100006] (.ret (.inr (.inr [])))))
 | (i_h::i_t,i1)=>let y0:=G3 [2,3] [] (.ret (.inr (.inl ())));let y1:=nth tA.Ops i1;aJ 1010 (.br 100000049 (.op 100000 (.el TOp.D tA.Ops (.up i1)) (.call [] [] (Hu y1) .no fun x1=>.br 100000054 y0 (.call [] [] (Hq y1 (i_h::i_t)) (.yes fun _=>⟨rfl,trivial⟩) fun x2=>.br 100000062 y0 (.op 160006 (.ap K1 (i_h::i_t) [x2.1] 1 fun _=>⟨rfl,rfl⟩) (.ps 1000003 [.k [1,4,46,47,48] [10,1012],.m 1012 100006] (.ret (.inl ((i_h::i_t)++[x2.1],i1+1)))))))) (G3 [1,4] [10,100006] (.ret (.inr (.inr (i_h::i_t))))))
def wK (tA:Tape) (i:List Int) (i1:Nat):Option (Unit⊕(List Int)):=aT (fun (σ:List Int×Nat)=>dN tA σ.1 σ.2) FU (i,i1)
def yE (tA:Tape) (i:List Int) (i1:Nat):=
 bf (Jw tA) (fun y h=>by rcases y with y | y<;>cases h) FU (i,i1)
def JJ (tA:Tape) (x2:List Int) (i:Nat):St:=⟨85,0,[(4,SL K1 x2),(69,SL K1 tA.ay),(70,I (tA.ay.length:Int)),(71,I (i:Int))],[]⟩
def JF (tA:Tape) (x2:List Int):St:=⟨85,0,[(2,dO),(3,B false)],[]⟩
def Jt (tA:Tape) (x2:List Int):St:=⟨85,0,[(4,SL K1 x2)],[]⟩
def fO (tA:Tape) (x2:List Int) (i:Nat):Option (Nat⊕(Unit⊕Unit)):=let y0:=nth tA.ay i;bif decide ((i:Int)<(tA.ay.length:Int)) then G1 (i<tA.ay.length)<|bif decide (y0<0) then some (.inr (.inl ())) else bif decide (y0>=(x2.length:Int)) then some (.inr (.inl ())) else G2 ((i:Int)+1)<|some (.inl (i+1)) else some (.inr (.inr ()))
theorem JH (tA:Tape) (x2:List Int):∀σ:Nat,aU Tryz.prog (nav [1,1,1,1,1,0,1,0,0] (aQ Tryz.f57)) (fun (σ:Nat)=>JJ tA x2 σ) (fun (y:Unit⊕Unit)=>aN y (fun _=>.ret) (fun _=>(.exit 4))) (fun (y:Unit⊕Unit)=>aN y (fun y=>JF tA x2) (fun y=>Jt tA x2)) σ (fO tA x2 σ)
 | i=>let y0:=G3 [2,3] [] (.ret (.inr (.inl ())));aJ 1010 (.br 100000072 (.op 200000 (.el K1 tA.ay (.up i)) (.br 210006 y0 (.op 210010 (.ln K1 x2) (.br 100000082 y0 (G3 [4,69,70,71] [] (.ret (.inl (i+1)))))))) (G3 [4] [] (.ret (.inr (.inr ())))))
def qg (tA:Tape) (x2:List Int) (i:Nat):Option (Unit⊕Unit):=aT (fun (σ:Nat)=>fO tA x2 σ) FU i
def yD (tA:Tape) (x2:List Int) (i:Nat):=
 bf (JH tA x2) (fun y h=>by rcases y with y | y<;>cases h) FU i
def Ep (tA:Tape):Option (List Int×Bool):=let y0:=(tA.ay.length:Int);bif decide (tA.Ins<1) then some ([],false) else bif decide (tA.Ins>40) then some ([],false) else bif decide (y0<1) then some ([],false) else bif decide (y0>40) then some ([],false) else bif decide ((tA.Ops.length:Int)>400) then some ([],false) else (zH tA [] 0).bind fun x0=>bif x0.isEmpty then (wK tA [] 0).bind fun y_=>aN y_ (fun x1=>some ([],false)) (fun x2=>(qg tA x2 0).bind fun y_=>aN y_ (fun x3=>some ([],false)) (fun x4=>some (x2,true))) else bif !x0.isEmpty then (wK tA x0 0).bind fun y_=>aN y_ (fun x1=>some ([],false)) (fun x2=>(qg tA x2 0).bind fun y_=>aN y_ (fun x3=>some ([],false)) (fun x4=>some (x2,true))) else none
theorem SA (tA:Tape):∀r,Ep tA=some r->au Tryz.prog 57 0 [AG Tape.D tA] [] (.tup [SL K1 r.1,B r.2]) []:=
 aA 10 (.br 10008 (.ps 1000003 [.n 2] (.ret ([],false))) (.br 10018 (.ps 1000003 [.n 2] (.ret ([],false))) (.op 10022 (.ln K1 tA.ay) (.br 10030 (.ps 1000003 [.n 2] (.ret ([],false))) (.op 10034 (.ln K1 tA.ay) (.br 10042 (.ps 1000003 [.n 2] (.ret ([],false))) (.op 10046 (.ln TOp.D tA.Ops) (.br 100000036 (.ps 1000003 [.n 2] (.ret ([],false))) (G4 [1,4,38,39] [10,100006] (.lp1 0 (NC tA [] 0) fun x0=>.cl 1 4 100006 1 K1 x0 (.ps 1 [.k [1,4] [10]] (.op 80004 (.ln TOp.D tA.Ops) (G4 [1,4,46,47,48] [10,100006] (.lp2 0 (yE tA [] 0) (fun x1=>.ps 1000003 [.n 2] (.ret ([],false))) (fun x2=>.oz 5 4 100006 1 K1 x2 (.ps 5 [.k [1,4] [10]] (.op 180004 (.ln K1 tA.ay) (G4 [4,69,70,71] [] (.lp2 0 (yD tA x2 0) (fun x3=>.ps 1000003 [.n 2] (.ret ([],false))) (fun x4=>.ret (x2,true))))))))))) (.ps 1 [.k [1,4] [10,100006]] (.op 80004 (.ln TOp.D tA.Ops) (G4 [1,4,46,47,48] [10,100006] (.ow 1000001 4 100006 1 K1 x0 .no (G4 [1,4,46,47,48] [10,100006] (.lp2 0 (yE tA x0 0) (fun x1=>.ps 1000003 [.n 2] (.ret ([],false))) (fun x2=>.oz 5 4 100006 1 K1 x2 (.ps 5 [.k [1,4] [10]] (.op 180004 (.ln K1 tA.ay) (G4 [4,69,70,71] [] (.lp2 0 (yD tA x2 0) (fun x3=>.ps 1000003 [.n 2] (.ret ([],false))) (fun x4=>.ret (x2,true))))))))))))))))))))))) Tryz.func57
def wH (t:Tape):Option Bool:=(Ep t).bind fun x0=>some x0.2
theorem Xx (t:Tape):∀r,wH t=some r->au Tryz.prog 27 0 [AG Tape.D t] [] (B r) []:=
 aA 10 (.call [] [] (SA t) .no fun x0=>.ret x0.2) Tryz.func27
end Go.Ab.M
