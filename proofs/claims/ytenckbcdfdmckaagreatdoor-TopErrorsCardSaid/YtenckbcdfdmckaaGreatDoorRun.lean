/-
  TopErrors: its run, in parts. (Printed by runlaw.py.)
-/
import Derived.Test.YtenckbcdfdmckaaGreatDoorTopD
set_option linter.unusedSimpArgs false
set_option linter.unusedVariables false
namespace Go.Top
open Go Go.Eng
set_option maxRecDepth 100000
def I (n : Nat) : CT := .int .i64 (.ofNat n)
def J (n : Nat) : CV := .int .i64 (.ofNat n)
def el0 : List (List CT) := [[I 2, I 0, .str 0 0, .str 0 0, I 0], [I 0, I 0, .str 0 0, .str 0 0, I 0], [I 0, I 0, .str 0 0, .str 0 0, I 0], [I 0, I 0, .str 0 0, .str 0 0, I 0], [I 0, I 0, .str 0 0, .str 0 0, I 0], [I 0, I 0, .str 0 0, .str 0 0, I 0], [I 0, I 0, .str 0 0, .str 0 0, I 0], [I 0, I 0, .str 0 0, .str 0 0, I 0]]
def el1 : List (List CT) := [[I 0, I 0, .int .u32 (.ofNat 0), .int .u32 (.ofNat 0), .int .u32 (.ofNat 0), .int .u32 (.ofNat 0)], [I 0, I 0, .int .u32 (.ofNat 0), .int .u32 (.ofNat 0), .int .u32 (.ofNat 0), .int .u32 (.ofNat 0)], [I 0, I 0, .int .u32 (.ofNat 0), .int .u32 (.ofNat 0), .int .u32 (.ofNat 0), .int .u32 (.ofNat 0)], [I 0, I 0, .int .u32 (.ofNat 0), .int .u32 (.ofNat 0), .int .u32 (.ofNat 0), .int .u32 (.ofNat 0)]]
def ev2 : CV := .str 256 0x25d000100000002
def el3 : List (List CT) := [[I 14, I 1, .int .u32 (.ofNat 0x25d0003), .int .u32 (.ofNat 0x94e300bf), .int .u32 (.ofNat 0x9c601820), .int .u32 (.ofNat 0x3c221020)], [I 0, I 0, .int .u32 (.ofNat 0), .int .u32 (.ofNat 0), .int .u32 (.ofNat 0), .int .u32 (.ofNat 0)], [I 0, I 0, .int .u32 (.ofNat 0), .int .u32 (.ofNat 0), .int .u32 (.ofNat 0), .int .u32 (.ofNat 0)], [I 0, I 0, .int .u32 (.ofNat 0), .int .u32 (.ofNat 0), .int .u32 (.ofNat 0), .int .u32 (.ofNat 0)], [I 0, I 0, .int .u32 (.ofNat 0), .int .u32 (.ofNat 0), .int .u32 (.ofNat 0), .int .u32 (.ofNat 0)], [I 0, I 0, .int .u32 (.ofNat 0), .int .u32 (.ofNat 0), .int .u32 (.ofNat 0), .int .u32 (.ofNat 0)], [I 0, I 0, .int .u32 (.ofNat 0), .int .u32 (.ofNat 0), .int .u32 (.ofNat 0), .int .u32 (.ofNat 0)], [I 0, I 0, .int .u32 (.ofNat 0), .int .u32 (.ofNat 0), .int .u32 (.ofNat 0), .int .u32 (.ofNat 0)]]
def ev4 : CV := .str 176 0x2010223c2018609cbf00e39403005d02010000000e00
def ev5 : CV := .str 256 0x2010223c2018609cbf00e39403005d02010000000e00b0000100000003
def el6 : List (List CT) := [[I 15, I 1, .int .u32 (.ofNat 0x2a736f15), .int .u32 (.ofNat 0xbcd5f5b9), .int .u32 (.ofNat 0xd4a6cef9), .int .u32 (.ofNat 0xbd451ebd)]]
def ev7 : CV := .str 22 0xbd1e45bdf9cea6d4b9f5d5bc156f732a010000000f00
def ev8 : CV := .str 29 0xbd1e45bdf9cea6d4b9f5d5bc156f732a010000000f0000000001010001
def ev9 : CV := .str 256 0xbd1e45bdf9cea6d4b9f5d5bc156f732a010000000f00000000010100011d000100000004
def ev10 : CV := .str 256 0x1f20000100000005
def el11 : List (List CT) := [[I 16, I 1, .int .u32 (.ofNat 0x9770367c), .int .u32 (.ofNat 0x25659d11), .int .u32 (.ofNat 0xe1c08a78), .int .u32 (.ofNat 0x9021ca78)], [I 17, I 1, .int .u32 (.ofNat 0x1f200006), .int .u32 (.ofNat 0xa8e0017f), .int .u32 (.ofNat 0x1c003080), .int .u32 (.ofNat 0xb4042860)], [I 0, I 0, .int .u32 (.ofNat 0), .int .u32 (.ofNat 0), .int .u32 (.ofNat 0), .int .u32 (.ofNat 0)]]
def ev12 : CV := .str 66 0x602804b48030001c7f01e0a80600201f01000000110078ca2190788ac0e1119d65257c367097010000001000
def ev13 : CV := .str 82 0x602804b48030001c7f01e0a80600201f01000000110078ca2190788ac0e1119d65257c367097010000001000070000000200000001000000
def ev14 : CV := .str 256 0x602804b48030001c7f01e0a80600201f01000000110078ca2190788ac0e1119d65257c36709701000000100007000000020000000100000052000100000006
def el15 : List (List CT) := [[I 18, I 1, .int .u32 (.ofNat 0xc18b8899), .int .u32 (.ofNat 0xcfba61f9), .int .u32 (.ofNat 0x751fce33), .int .u32 (.ofNat 0xde7fedc4)]]
def ev16 : CV := .str 22 0xc4ed7fde33ce1f75f961bacf99888bc1010000001200
def ev17 : CV := .str 256 0xe0bea2635ce2f7c0c229d1ef96e7a59ec4ed7fde33ce1f75f961bacf99888bc1010000001200010700000001000000ab
def es18 : CT := .str 256 0xb7023c000b023c005f013c00b3003c003c0007000000ac
def es19 : CT := .str 256 0xe0bea2635ce2f7c0c229d1ef96e7a59ec4ed7fde33ce1f75f961bacf99888bc1010000001200010700000001000000ab
def es20 : CT := .str 256 0x25d000100000002
def es21 : CT := .str 256 0x2010223c2018609cbf00e39403005d02010000000e00b0000100000003
def es22 : CT := .str 256 0xbd1e45bdf9cea6d4b9f5d5bc156f732a010000000f00000000010100011d000100000004
def es23 : CT := .str 256 0x1f20000100000005
def es24 : CT := .str 256 0x602804b48030001c7f01e0a80600201f01000000110078ca2190788ac0e1119d65257c36709701000000100007000000020000000100000052000100000006
def el25 : List (List CT) := [[es18], [.str 256 0], [es19], [.str 256 0], [.str 256 0], [.str 256 0], [.str 256 0], [es18], [.str 256 0], [es19], [.str 256 0], [.str 256 0], [.str 256 0], [.str 256 0], [es20], [es21], [es22], [es23], [es24], [.str 256 0], [.str 256 0], [.str 256 0], [.str 256 0], [.str 256 0], [.str 256 0], [.str 256 0], [.str 256 0], [.str 256 0], [.str 256 0], [.str 256 0], [.str 256 0], [.str 256 0], [.str 256 0], [.str 256 0], [.str 256 0], [.str 256 0], [.str 256 0], [.str 256 0], [.str 256 0], [.str 256 0], [.str 256 0], [.str 256 0], [.str 256 0], [.str 256 0], [.str 256 0], [.str 256 0], [.str 256 0], [.str 256 0], [.str 256 0], [.str 256 0], [.str 256 0], [.str 256 0], [.str 256 0], [.str 256 0], [.str 256 0], [.str 256 0], [.str 256 0], [.str 256 0], [.str 256 0], [.str 256 0], [.str 256 0], [.str 256 0], [.str 256 0], [.str 256 0], [.str 256 0], [.str 256 0], [.str 256 0], [.str 256 0], [.str 256 0], [.str 256 0], [.str 256 0], [.str 256 0], [.str 256 0], [.str 256 0], [es18], [.str 256 0], [es19], [.str 256 0], [.str 256 0], [.str 256 0], [.str 256 0], [es18], [.str 256 0], [es19], [.str 256 0], [.str 256 0], [.str 256 0], [.str 256 0]]
def el26 : List (List CT) := [[I 2, I 0, .str 0 0, .str 0 0, I 0], [I 1, I 0, .str 1 97, .str 0 0, I 0], [I 0, I 0, .str 0 0, .str 0 0, I 0], [I 0, I 0, .str 0 0, .str 0 0, I 0], [I 0, I 0, .str 0 0, .str 0 0, I 0], [I 0, I 0, .str 0 0, .str 0 0, I 0], [I 0, I 0, .str 0 0, .str 0 0, I 0], [I 0, I 0, .str 0 0, .str 0 0, I 0]]
def el27 : List (List CT) := [[I 2, I 0, .str 0 0, .str 0 0, I 0], [I 1, I 0, .str 1 97, .str 2 26984, I 0], [I 0, I 0, .str 0 0, .str 0 0, I 0], [I 0, I 0, .str 0 0, .str 0 0, I 0], [I 0, I 0, .str 0 0, .str 0 0, I 0], [I 0, I 0, .str 0 0, .str 0 0, I 0], [I 0, I 0, .str 0 0, .str 0 0, I 0], [I 0, I 0, .str 0 0, .str 0 0, I 0]]
def ev28 : CV := .str 70 0x602804b48030001c7f01e0a80600201f01000000110078ca2190788ac0e1119d65257c367097010000001000
def ev29 : CV := .str 256 0x696820000200000001
def el30 : List (List CT) := [[I 19, I 2, .int .u32 (.ofNat 0x6820006c), .int .u32 (.ofNat 0x9fe01a2c), .int .u32 (.ofNat 0xfc0338e9), .int .u32 (.ofNat 0x5444c8c0)], [I 0, I 0, .int .u32 (.ofNat 0), .int .u32 (.ofNat 0), .int .u32 (.ofNat 0), .int .u32 (.ofNat 0)], [I 0, I 0, .int .u32 (.ofNat 0), .int .u32 (.ofNat 0), .int .u32 (.ofNat 0), .int .u32 (.ofNat 0)], [I 0, I 0, .int .u32 (.ofNat 0), .int .u32 (.ofNat 0), .int .u32 (.ofNat 0), .int .u32 (.ofNat 0)]]
def ev31 : CV := .str 88 0xc0c84454e93803fc2c1ae09f6c002068020000001300
def ev32 : CV := .str 94 0xc0c84454e93803fc2c1ae09f6c002068020000001300020061010001
def ev33 : CV := .str 256 0xc0c84454e93803fc2c1ae09f6c0020680200000013000200610100015e000200000002
def el34 : List (List CT) := [[I 14, I 1, .int .u32 (.ofNat 0x25d0003), .int .u32 (.ofNat 0x94e300bf), .int .u32 (.ofNat 0x9c601820), .int .u32 (.ofNat 0x3c221020)], [I 20, I 2, .int .u32 (.ofNat 0x5b161c4d), .int .u32 (.ofNat 0xc49aa523), .int .u32 (.ofNat 0x56357f75), .int .u32 (.ofNat 0x4635cb55)], [I 0, I 0, .int .u32 (.ofNat 0), .int .u32 (.ofNat 0), .int .u32 (.ofNat 0), .int .u32 (.ofNat 0)], [I 0, I 0, .int .u32 (.ofNat 0), .int .u32 (.ofNat 0), .int .u32 (.ofNat 0), .int .u32 (.ofNat 0)], [I 0, I 0, .int .u32 (.ofNat 0), .int .u32 (.ofNat 0), .int .u32 (.ofNat 0), .int .u32 (.ofNat 0)], [I 0, I 0, .int .u32 (.ofNat 0), .int .u32 (.ofNat 0), .int .u32 (.ofNat 0), .int .u32 (.ofNat 0)], [I 0, I 0, .int .u32 (.ofNat 0), .int .u32 (.ofNat 0), .int .u32 (.ofNat 0), .int .u32 (.ofNat 0)], [I 0, I 0, .int .u32 (.ofNat 0), .int .u32 (.ofNat 0), .int .u32 (.ofNat 0), .int .u32 (.ofNat 0)]]
def ev35 : CV := .str 176 0x55cb3546757f355623a59ac44d1c165b0200000014002010223c2018609cbf00e39403005d02010000000e00
def ev36 : CV := .str 256 0x55cb3546757f355623a59ac44d1c165b0200000014002010223c2018609cbf00e39403005d02010000000e00b0000200000003
def el37 : List (List CT) := [[I 21, I 2, .int .u32 (.ofNat 0xe6c57b30), .int .u32 (.ofNat 0xa99089eb), .int .u32 (.ofNat 0xeb814e10), .int .u32 (.ofNat 0xf7238ee0)]]
def ev38 : CV := .str 22 0xe08e23f7104e81ebeb8990a9307bc5e6020000001500
def ev39 : CV := .str 29 0xe08e23f7104e81ebeb8990a9307bc5e602000000150000000001010001
def ev40 : CV := .str 256 0xe08e23f7104e81ebeb8990a9307bc5e6020000001500000000010100011d000200000004
def ev41 : CV := .str 32 0x1e00000000000007e1
def ev42 : CV := .str 256 0x1e00000000000007e120000200000005
def el43 : List (List CT) := [[I 22, I 2, .int .u32 (.ofNat 0x24fffd77), .int .u32 (.ofNat 0x9a56d25), .int .u32 (.ofNat 0xec520d4e), .int .u32 (.ofNat 0x19c28e07)], [I 23, I 2, .int .u32 (.ofNat 0xff20000e), .int .u32 (.ofNat 0x8ce00370), .int .u32 (.ofNat 0x76006dc7), .int .u32 (.ofNat 0x96094640)], [I 0, I 0, .int .u32 (.ofNat 0), .int .u32 (.ofNat 0), .int .u32 (.ofNat 0), .int .u32 (.ofNat 0)]]
def ev44 : CV := .str 66 0x40460996c76d00767003e08c0e0020ff020000001700078ec2194e0d52ec256da50977fdff24020000001600
def ev45 : CV := .str 82 0x40460996c76d00767003e08c0e0020ff020000001700078ec2194e0d52ec256da50977fdff24020000001600070000000200000002000000
def ev46 : CV := .str 256 0x40460996c76d00767003e08c0e0020ff020000001700078ec2194e0d52ec256da50977fdff2402000000160007000000020000000200000052000200000006
def el47 : List (List CT) := [[I 24, I 2, .int .u32 (.ofNat 0xa0b4ea1a), .int .u32 (.ofNat 0xfcd9e230), .int .u32 (.ofNat 0xc147f66d), .int .u32 (.ofNat 0xa0816dc0)]]
def ev48 : CV := .str 22 0xc06d81a06df647c130e2d9fc1aeab4a0020000001800
def ev49 : CV := .str 256 0x54037a01e2c5cc522683ad34b15a3194c06d81a06df647c130e2d9fc1aeab4a0020000001800020700000002000000ab
def es50 : CT := .str 256 0x54037a01e2c5cc522683ad34b15a3194c06d81a06df647c130e2d9fc1aeab4a0020000001800020700000002000000ab
def es51 : CT := .str 256 0x696820000200000001
def es52 : CT := .str 256 0xc0c84454e93803fc2c1ae09f6c0020680200000013000200610100015e000200000002
def es53 : CT := .str 256 0x55cb3546757f355623a59ac44d1c165b0200000014002010223c2018609cbf00e39403005d02010000000e00b0000200000003
def es54 : CT := .str 256 0xe08e23f7104e81ebeb8990a9307bc5e6020000001500000000010100011d000200000004
def es55 : CT := .str 256 0x1e00000000000007e120000200000005
def es56 : CT := .str 256 0x40460996c76d00767003e08c0e0020ff020000001700078ec2194e0d52ec256da50977fdff2402000000160007000000020000000200000052000200000006
def el57 : List (List CT) := [[es18], [.str 256 0], [es19], [es50], [.str 256 0], [.str 256 0], [.str 256 0], [es18], [.str 256 0], [es19], [es50], [.str 256 0], [.str 256 0], [.str 256 0], [es20], [es21], [es22], [es23], [es24], [es51], [es52], [es53], [es54], [es55], [es56], [.str 256 0], [.str 256 0], [.str 256 0], [.str 256 0], [.str 256 0], [.str 256 0], [.str 256 0], [.str 256 0], [.str 256 0], [.str 256 0], [.str 256 0], [.str 256 0], [.str 256 0], [.str 256 0], [.str 256 0], [.str 256 0], [.str 256 0], [.str 256 0], [.str 256 0], [.str 256 0], [.str 256 0], [.str 256 0], [.str 256 0], [.str 256 0], [.str 256 0], [.str 256 0], [.str 256 0], [.str 256 0], [.str 256 0], [.str 256 0], [.str 256 0], [.str 256 0], [.str 256 0], [.str 256 0], [.str 256 0], [.str 256 0], [.str 256 0], [.str 256 0], [.str 256 0], [.str 256 0], [.str 256 0], [.str 256 0], [.str 256 0], [.str 256 0], [.str 256 0], [.str 256 0], [.str 256 0], [.str 256 0], [.str 256 0], [es18], [.str 256 0], [es19], [es50], [.str 256 0], [.str 256 0], [.str 256 0], [es18], [.str 256 0], [es19], [es50], [.str 256 0], [.str 256 0], [.str 256 0]]
def el58 : List (List CT) := [[I 0, I 0, .int .u32 (.ofNat 0), .int .u32 (.ofNat 0), .int .u32 (.ofNat 0), .int .u32 (.ofNat 0)]]
def ev59 : CV := .str 246 0xe0bea2635ce2f7c0c229d1ef96e7a59ec4ed7fde33ce1f75f961bacf99888bc1010000001200
def ev60 : CV := .str 224 0xe0bea2635ce2f7c0c229d1ef96e7a59e
def ev61 : CV := .str 246 0x54037a01e2c5cc522683ad34b15a3194c06d81a06df647c130e2d9fc1aeab4a0020000001800
def ev62 : CV := .str 224 0x54037a01e2c5cc522683ad34b15a3194
def ev63 : CV := .str 70 0x40460996c76d00767003e08c0e0020ff020000001700078ec2194e0d52ec256da50977fdff24020000001600
def el64 : List (List CT) := [[I 2, I 0, .str 0 0, .str 0 0, I 0], [I 2, I 0, .str 1 100, .str 0 0, I 0], [I 0, I 0, .str 0 0, .str 0 0, I 0], [I 0, I 0, .str 0 0, .str 0 0, I 0], [I 0, I 0, .str 0 0, .str 0 0, I 0], [I 0, I 0, .str 0 0, .str 0 0, I 0], [I 0, I 0, .str 0 0, .str 0 0, I 0], [I 0, I 0, .str 0 0, .str 0 0, I 0]]
def el65 : List (List CT) := [[I 2, I 0, .str 0 0, .str 0 0, I 0], [I 2, I 0, .str 1 100, .str 0 0, I 0], [I 1, I 1, .str 1 102, .str 0 0, I 0], [I 0, I 0, .str 0 0, .str 0 0, I 0], [I 0, I 0, .str 0 0, .str 0 0, I 0], [I 0, I 0, .str 0 0, .str 0 0, I 0], [I 0, I 0, .str 0 0, .str 0 0, I 0], [I 0, I 0, .str 0 0, .str 0 0, I 0]]
def ev66 : CV := .str 15 0x682f672f662f652f642f632f622f61
def ev67 : CV := .str 101 0x7800000000000000000000000000000000000000000000000000000000000000000000000000000000000000000000000000000000000000000000000000000000000000000000000000000000000000000000000000000000000000000000000000000000
def es68 : CT := .str 101 0x7800000000000000000000000000000000000000000000000000000000000000000000000000000000000000000000000000000000000000000000000000000000000000000000000000000000000000000000000000000000000000000000000000000000
def el69 : List (List CT) := [[I 2, I 0, .str 0 0, .str 0 0, I 0], [I 2, I 0, .str 1 100, .str 0 0, I 0], [I 1, I 1, .str 1 102, es68, I 0], [I 0, I 0, .str 0 0, .str 0 0, I 0], [I 0, I 0, .str 0 0, .str 0 0, I 0], [I 0, I 0, .str 0 0, .str 0 0, I 0], [I 0, I 0, .str 0 0, .str 0 0, I 0], [I 0, I 0, .str 0 0, .str 0 0, I 0]]
def el70 : List (List CT) := [[I 1, I 1, I 0, I 0, .seq 5 el69], [I 2, I 2, I 1, I 0, .seq 5 el69]]
def el71 : List (List CT) := [[I 1, I 1, I 0, I 0, .seq 5 el69], [I 2, I 2, I 1, I 0, .seq 5 el69], [I 3, I 1, I 0, I 1, .seq 5 el0]]
def el72 : List (List CT) := [[I 2, I 0, .str 0 0, .str 0 0, I 0], [I 1, I 0, .str 1 113, .str 0 0, I 0], [I 0, I 0, .str 0 0, .str 0 0, I 0], [I 0, I 0, .str 0 0, .str 0 0, I 0], [I 0, I 0, .str 0 0, .str 0 0, I 0], [I 0, I 0, .str 0 0, .str 0 0, I 0], [I 0, I 0, .str 0 0, .str 0 0, I 0], [I 0, I 0, .str 0 0, .str 0 0, I 0]]
def el73 : List (List CT) := [[I 1, I 1, I 0, I 0, .seq 5 el69], [I 2, I 2, I 1, I 0, .seq 5 el69], [I 3, I 1, I 0, I 1, .seq 5 el72]]
def el74 : List (List CT) := [[I 2, I 0, .str 0 0, .str 0 0, I 0], [I 1, I 0, .str 1 113, .str 1 120, I 0], [I 0, I 0, .str 0 0, .str 0 0, I 0], [I 0, I 0, .str 0 0, .str 0 0, I 0], [I 0, I 0, .str 0 0, .str 0 0, I 0], [I 0, I 0, .str 0 0, .str 0 0, I 0], [I 0, I 0, .str 0 0, .str 0 0, I 0], [I 0, I 0, .str 0 0, .str 0 0, I 0]]
def el75 : List (List CT) := [[I 1, I 1, I 0, I 0, .seq 5 el69], [I 2, I 2, I 1, I 0, .seq 5 el69], [I 3, I 1, I 0, I 1, .seq 5 el74]]
def ev76 : CV := .str 33 0x780000000000000000000000000000000000000000000000000000000000000078
def el77 : List (List CT) := [[I 2, I 0, .str 0 0, .str 0 0, I 0], [I 1, I 0, .str 1 113, .str 128 120, I 0], [I 0, I 0, .str 0 0, .str 0 0, I 0], [I 0, I 0, .str 0 0, .str 0 0, I 0], [I 0, I 0, .str 0 0, .str 0 0, I 0], [I 0, I 0, .str 0 0, .str 0 0, I 0], [I 0, I 0, .str 0 0, .str 0 0, I 0], [I 0, I 0, .str 0 0, .str 0 0, I 0]]
def el78 : List (List CT) := [[I 1, I 1, I 0, I 0, .seq 5 el69], [I 2, I 2, I 1, I 0, .seq 5 el69], [I 3, I 1, I 0, I 1, .seq 5 el77]]
/- palimp/node.May, 1179 operations -/
def ec1_0 : List MS := [
  ⟨[.t (.seq 5 el0)], .bool true⟩,
  ⟨[.t (.seq 5 el27)], .bool true⟩]
theorem ec1_0_ok : chkS (E.orc 40) 109 ec1_0 = true := by kernel_rfl
/- palimp/span.May, 205 operations -/
def ec1_1 : List MS := [
  ⟨[.t (.seq 2 [])], .bool true⟩,
  ⟨[.t (.seq 2 [[I 14, I 74]])], .bool true⟩,
  ⟨[.t (.seq 2 [[I 14, I 19]])], .bool true⟩,
  ⟨[.t (.nilS)], .bool true⟩,
  ⟨[.t (.seq 2 [[I 19, I 74]])], .bool true⟩,
  ⟨[.t (.seq 2 [[I 14, I 15], [I 19, I 25]])], .bool true⟩,
  ⟨[.t (.seq 2 [[I 15, I 19]])], .bool true⟩]
theorem ec1_1_ok : chkS (E.orc 40) 112 ec1_1 = true := by kernel_rfl
/- palimp/ptr.Put, 3218 operations -/
def ec1_2 : List MS := [
  ⟨[.t (.seq 6 el1)], .str 88 0⟩,
  ⟨[.t (.seq 6 el3)], ev4⟩,
  ⟨[.t (.seq 6 el6)], ev7⟩,
  ⟨[.t (.seq 6 el11)], ev12⟩,
  ⟨[.t (.seq 6 el15)], ev16⟩,
  ⟨[.t (.seq 6 el30)], ev31⟩,
  ⟨[.t (.seq 6 el34)], ev35⟩,
  ⟨[.t (.seq 6 el37)], ev38⟩,
  ⟨[.t (.seq 6 el43)], ev44⟩,
  ⟨[.t (.seq 6 el47)], ev48⟩]
theorem ec1_2_ok : chkS (E.orc 40) 130 ec1_2 = true := by kernel_rfl
/- palimp/rec.Node, 2370 operations -/
def ec1_3 : List MS := [
  ⟨[.agg [J 2, J 0, .str 0 0, .str 0 0, J 0], J 0, .t (.seq 6 el1)], .str 93 2⟩,
  ⟨[.agg [J 1, J 0, .str 1 97, .str 2 26984, J 0], J 2, .t (.seq 6 el30)], ev32⟩,
  ⟨[.agg [J 1, J 0, .str 1 97, .str 0 0, J 0], J 2, .t (.seq 6 el30)], ev32⟩]
theorem ec1_3_ok : chkS (E.orc 40) 223 ec1_3 = true := by kernel_rfl
/- palimp/block.Put, 737 operations -/
def ec1_4 : List MS := [
  ⟨[.agg [J 2, J 1, .str 93 2]], ev2⟩,
  ⟨[.agg [J 3, J 1, ev4]], ev5⟩,
  ⟨[.agg [J 4, J 1, ev8]], ev9⟩,
  ⟨[.agg [J 5, J 1, .str 32 31]], ev10⟩,
  ⟨[.agg [J 6, J 1, ev13]], ev14⟩,
  ⟨[.agg [J 1, J 2, .str 32 26984]], ev29⟩,
  ⟨[.agg [J 2, J 2, ev32]], ev33⟩,
  ⟨[.agg [J 3, J 2, ev35]], ev36⟩,
  ⟨[.agg [J 4, J 2, ev39]], ev40⟩,
  ⟨[.agg [J 5, J 2, ev41]], ev42⟩,
  ⟨[.agg [J 6, J 2, ev45]], ev46⟩]
theorem ec1_4_ok : chkS (E.orc 40) 78 ec1_4 = true := by kernel_rfl
/- palimp/smap.Put, 18592 operations -/
def ec1_5 : List MS := [
  ⟨[J 60, .t (.seq 2 [[I 14, I 19]])], .str 8 31⟩,
  ⟨[J 60, .t (.nilS)], .str 8 0⟩,
  ⟨[J 60, .t (.seq 2 [])], .str 8 0⟩,
  ⟨[J 60, .t (.seq 2 [[I 14, I 15], [I 19, I 25]])], .str 8 2017⟩,
  ⟨[J 60, .t (.seq 2 [[I 15, I 19]])], .str 8 30⟩]
theorem ec1_5_ok : chkS (E.orc 40) 127 ec1_5 = true := by kernel_rfl
/- palimp/uber.Put, 554 operations -/
def ec1_6 : List MS := [
  ⟨[.agg [J 1, J 7, J 1, J 18, J 1, .int .u32 (.ofNat 0xc18b8899), .int .u32 (.ofNat 0xcfba61f9), .int .u32 (.ofNat 0x751fce33), .int .u32 (.ofNat 0xde7fedc4)]], ev17⟩,
  ⟨[.agg [J 2, J 7, J 2, J 24, J 2, .int .u32 (.ofNat 0xa0b4ea1a), .int .u32 (.ofNat 0xfcd9e230), .int .u32 (.ofNat 0xc147f66d), .int .u32 (.ofNat 0xa0816dc0)]], ev49⟩]
theorem ec1_6_ok : chkS (E.orc 40) 134 ec1_6 = true := by kernel_rfl
/- palimp/data.Parts, 1212 operations -/
def ec1_7 : List MS := [
  ⟨[.str 0 0], J 0⟩,
  ⟨[.str 2 26984], J 1⟩,
  ⟨[ev67], J 1⟩,
  ⟨[.str 1 120], J 1⟩,
  ⟨[ev76], J 2⟩,
  ⟨[.str 128 120], J 1⟩]
theorem ec1_7_ok : chkS (E.orc 40) 139 ec1_7 = true := by kernel_rfl
/- palimp/uber.Take, 1555 operations -/
def ec1_8 : List MS := [
  ⟨[.str 256 0], .tup [.agg [J 0, J 0, J 0, J 0, J 0, .int .u32 (.ofNat 0), .int .u32 (.ofNat 0), .int .u32 (.ofNat 0), .int .u32 (.ofNat 0)], .bool false]⟩,
  ⟨[ev17], .tup [.agg [J 1, J 7, J 1, J 18, J 1, .int .u32 (.ofNat 0xc18b8899), .int .u32 (.ofNat 0xcfba61f9), .int .u32 (.ofNat 0x751fce33), .int .u32 (.ofNat 0xde7fedc4)], .bool true]⟩,
  ⟨[ev49], .tup [.agg [J 2, J 7, J 2, J 24, J 2, .int .u32 (.ofNat 0xa0b4ea1a), .int .u32 (.ofNat 0xfcd9e230), .int .u32 (.ofNat 0xc147f66d), .int .u32 (.ofNat 0xa0816dc0)], .bool true]⟩]
theorem ec1_8_ok : chkS (E.orc 40) 207 ec1_8 = true := by kernel_rfl
/- palimp/span.Less, 6636 operations -/
def ec1_9 : List MP := [
  ⟨[.t (.seq 2 []), .t (.seq 2 [[I 14, I 74]])], .t (.nilS), []⟩,
  ⟨[.t (.seq 2 [[I 14, I 74]]), .t (.seq 2 [])], .tok 0 2 0 1, [.row 2 1 [[I 14, I 74]] false]⟩,
  ⟨[.t (.seq 2 []), .t (.seq 2 [[I 14, I 19]])], .t (.nilS), []⟩,
  ⟨[.t (.nilS), .t (.nilS)], .t (.nilS), []⟩,
  ⟨[.t (.seq 2 [[I 14, I 19]]), .t (.seq 2 [[I 14, I 74]])], .t (.nilS), []⟩,
  ⟨[.t (.nilS), .t (.seq 2 [[I 14, I 74]])], .t (.nilS), []⟩,
  ⟨[.t (.seq 2 [[I 14, I 74]]), .t (.seq 2 [[I 14, I 19]])], .tok 0 2 0 1, [.row 2 1 [[I 19, I 74]] false]⟩,
  ⟨[.t (.seq 2 [[I 19, I 74]]), .t (.seq 2 [])], .tok 0 2 0 1, [.row 2 1 [[I 19, I 74]] false]⟩,
  ⟨[.t (.seq 2 [[I 14, I 19]]), .t (.seq 2 [[I 14, I 15], [I 19, I 25]])], .tok 0 2 0 1, [.row 2 1 [[I 15, I 19]] false]⟩,
  ⟨[.t (.seq 2 []), .t (.seq 2 [[I 14, I 15], [I 19, I 25]])], .t (.nilS), []⟩,
  ⟨[.t (.nilS), .t (.seq 2 [[I 15, I 19]])], .t (.nilS), []⟩,
  ⟨[.t (.seq 2 [[I 14, I 15], [I 19, I 25]]), .t (.seq 2 [[I 14, I 74]])], .t (.nilS), []⟩,
  ⟨[.t (.seq 2 [[I 15, I 19]]), .t (.seq 2 [[I 14, I 74]])], .t (.nilS), []⟩,
  ⟨[.t (.seq 2 [[I 14, I 74]]), .t (.seq 2 [[I 14, I 15], [I 19, I 25]])], .tok 0 2 0 2, [.row 2 2 [[I 15, I 19], [I 25, I 74]] false]⟩,
  ⟨[.t (.seq 2 [[I 15, I 19], [I 25, I 74]]), .t (.seq 2 [[I 15, I 19]])], .tok 0 2 0 1, [.row 2 1 [[I 25, I 74]] false]⟩,
  ⟨[.t (.seq 2 [[I 25, I 74]]), .t (.nilS)], .tok 0 2 0 1, [.row 2 1 [[I 25, I 74]] false]⟩,
  ⟨[.t (.seq 2 [[I 25, I 74]]), .t (.seq 2 [])], .tok 0 2 0 1, [.row 2 1 [[I 25, I 74]] false]⟩]
theorem ec1_9_ok : chkP (E.orc 40) 124 ec1_9 = true := by kernel_rfl
/- palimp/span.Both, 1425 operations -/
def ec1_10 : List MP := [
  ⟨[.t (.seq 2 []), .t (.seq 2 [])], .t (.nilS), []⟩,
  ⟨[.t (.nilS), .t (.seq 2 [])], .t (.nilS), []⟩,
  ⟨[.t (.seq 2 [[I 14, I 19]]), .t (.nilS)], .t (.nilS), []⟩,
  ⟨[.t (.seq 2 [[I 14, I 19]]), .t (.seq 2 [])], .t (.nilS), []⟩,
  ⟨[.t (.seq 2 [[I 14, I 15], [I 19, I 25]]), .t (.seq 2 [[I 15, I 19]])], .t (.nilS), []⟩,
  ⟨[.t (.seq 2 [[I 14, I 25]]), .t (.nilS)], .t (.nilS), []⟩]
theorem ec1_10_ok : chkP (E.orc 40) 174 ec1_10 = true := by kernel_rfl
/- palimp/span.Add, 1308 operations -/
def ec1_11 : List MP := [
  ⟨[.t (.seq 2 []), .t (.seq 2 [])], .t (.nilS), []⟩,
  ⟨[.t (.seq 2 [[I 14, I 19]]), .t (.nilS)], .tok 0 2 0 1, [.row 2 1 [[I 14, I 19]] false]⟩,
  ⟨[.t (.seq 2 [[I 14, I 19]]), .t (.seq 2 [])], .tok 0 2 0 1, [.row 2 1 [[I 14, I 19]] false]⟩,
  ⟨[.t (.seq 2 [[I 14, I 15], [I 19, I 25]]), .t (.seq 2 [[I 15, I 19]])], .tok 0 2 0 1, [.row 2 1 [[I 14, I 25]] false]⟩]
theorem ec1_11_ok : chkP (E.orc 40) 175 ec1_11 = true := by kernel_rfl
/- palimp/ptr.Take, 7207 operations -/
def ec1_12 : List MP := [
  ⟨[ev28, J 3], .tup [.tok 0 6 0 3, .str 4 0, .bool true], [.row 6 3 el11 false]⟩,
  ⟨[ev7, J 1], .tup [.tok 0 6 0 1, .str 0 0, .bool true], [.row 6 1 el6 false]⟩,
  ⟨[ev4, J 8], .tup [.tok 0 6 0 8, .str 0 0, .bool true], [.row 6 8 el3 false]⟩,
  ⟨[.str 88 0, J 4], .tup [.tok 0 6 0 4, .str 0 0, .bool true], [.row 6 4 el1 false]⟩,
  ⟨[.str 246 0, J 1], .tup [.tok 0 6 0 1, .str 224 0, .bool true], [.row 6 1 el58 false]⟩,
  ⟨[ev59, J 1], .tup [.tok 0 6 0 1, ev60, .bool true], [.row 6 1 el15 false]⟩,
  ⟨[ev61, J 1], .tup [.tok 0 6 0 1, ev62, .bool true], [.row 6 1 el47 false]⟩,
  ⟨[ev63, J 3], .tup [.tok 0 6 0 3, .str 4 0, .bool true], [.row 6 3 el43 false]⟩,
  ⟨[ev38, J 1], .tup [.tok 0 6 0 1, .str 0 0, .bool true], [.row 6 1 el37 false]⟩,
  ⟨[ev35, J 8], .tup [.tok 0 6 0 8, .str 0 0, .bool true], [.row 6 8 el34 false]⟩,
  ⟨[ev31, J 4], .tup [.tok 0 6 0 4, .str 0 0, .bool true], [.row 6 4 el30 false]⟩]
theorem ec1_12_ok : chkP (E.orc 40) 252 ec1_12 = true := by kernel_rfl
/- palimp/rec.TakeNode, 3345 operations -/
def ec1_13 : List MP := [
  ⟨[.str 93 2], .tup [.agg [J 2, J 0, .str 0 0, .str 0 0, J 0], J 0, .tok 0 6 0 4, .bool true], [.row 6 4 el1 false]⟩,
  ⟨[ev32], .tup [.agg [J 1, J 0, .str 1 97, .str 0 0, J 0], J 2, .tok 0 6 0 4, .bool true], [.row 6 4 el30 false]⟩]
theorem ec1_13_ok : chkP (E.orc 40) 318 ec1_13 = true := by kernel_rfl
/- palimp/smap.Take, 6660 operations -/
def ec1_14 : List MP := [
  ⟨[J 60, .str 32 31], .tup [.tok 0 2 0 1, .str 24 0, .bool true], [.row 2 1 [[I 14, I 19]] false]⟩,
  ⟨[J 60, .str 24 0], .tup [.t (.nilS), .str 16 0, .bool true], []⟩,
  ⟨[J 60, .str 16 0], .tup [.t (.nilS), .str 8 0, .bool true], []⟩,
  ⟨[J 60, .str 8 0], .tup [.t (.nilS), .str 0 0, .bool true], []⟩,
  ⟨[J 60, ev41], .tup [.tok 0 2 0 2, .str 24 30, .bool true], [.row 2 2 [[I 14, I 15], [I 19, I 25]] false]⟩,
  ⟨[J 60, .str 24 30], .tup [.tok 0 2 0 1, .str 16 0, .bool true], [.row 2 1 [[I 15, I 19]] false]⟩]
theorem ec1_14_ok : chkP (E.orc 40) 248 ec1_14 = true := by kernel_rfl
noncomputable def eM1 : Memo := ⟨[109, 112, 124, 174, 175, 130, 223, 78, 127, 134, 139, 252, 318, 248, 207], [(109, ec1_0), (112, ec1_1), (130, ec1_2), (223, ec1_3), (78, ec1_4), (127, ec1_5), (134, ec1_6), (139, ec1_7), (207, ec1_8)], [(124, ec1_9), (174, ec1_10), (175, ec1_11), (252, ec1_12), (318, ec1_13), (248, ec1_14)]⟩
noncomputable def eE2 : Env := E.withM 40 eM1
theorem eE2_ok : EnvOk Proofs.Tryz.prog eE2 := withM_ok E_ok ⟨ec1_0_ok, ec1_1_ok, ec1_2_ok, ec1_3_ok, ec1_4_ok, ec1_5_ok, ec1_6_ok, ec1_7_ok, ec1_8_ok, trivial⟩ ⟨ec1_9_ok, ec1_10_ok, ec1_11_ok, ec1_12_ok, ec1_13_ok, ec1_14_ok, trivial⟩
/- palimp/pool.Create, 26579 operations -/
def ec2_0 : List MP := [
  ⟨[J 60, J 7], .tup [.agg [.tok 0 1 0 88, .t (.nilS), J 0, J 0, .bool false, J 18, J 1, .int .u32 (.ofNat 0xc18b8899), .int .u32 (.ofNat 0xcfba61f9), .int .u32 (.ofNat 0x751fce33), .int .u32 (.ofNat 0xde7fedc4), J 1, J 2, J 7, J 16, J 1, .int .u32 (.ofNat 0x9770367c), .int .u32 (.ofNat 0x25659d11), .int .u32 (.ofNat 0xe1c08a78), .int .u32 (.ofNat 0x9021ca78), J 17, J 1, .int .u32 (.ofNat 0x1f200006), .int .u32 (.ofNat 0xa8e0017f), .int .u32 (.ofNat 0x1c003080), .int .u32 (.ofNat 0xb4042860), J 0, J 0, .int .u32 (.ofNat 0), .int .u32 (.ofNat 0), .int .u32 (.ofNat 0), .int .u32 (.ofNat 0), J 0, .tok 1 2 0 1, .t (.nilS), .t (.nilS), .tok 2 2 0 0, J 1, J 1, .tok 3 5 0 1, .bool false], .bool true], [.row 1 88 el25 false, .row 2 1 [[I 14, I 19]] false, .row 2 0 [] false, .row 5 1 [[I 1, I 1, I 0, I 0, .seq 5 el0]] true]⟩]
theorem ec2_0_ok : chkP (eE2.orc 40) 13 ec2_0 = true := by kernel_rfl
/- palimp/play.Do, 64537 operations -/
def ec2_1 : List MP := [
  ⟨[.agg [.t (.seq 1 el25), .t (.seq 2 []), J 0, J 0, .bool false, J 18, J 1, .int .u32 (.ofNat 0xc18b8899), .int .u32 (.ofNat 0xcfba61f9), .int .u32 (.ofNat 0x751fce33), .int .u32 (.ofNat 0xde7fedc4), J 1, J 2, J 7, J 16, J 1, .int .u32 (.ofNat 0x9770367c), .int .u32 (.ofNat 0x25659d11), .int .u32 (.ofNat 0xe1c08a78), .int .u32 (.ofNat 0x9021ca78), J 17, J 1, .int .u32 (.ofNat 0x1f200006), .int .u32 (.ofNat 0xa8e0017f), .int .u32 (.ofNat 0x1c003080), .int .u32 (.ofNat 0xb4042860), J 0, J 0, .int .u32 (.ofNat 0), .int .u32 (.ofNat 0), .int .u32 (.ofNat 0), .int .u32 (.ofNat 0), J 0, .t (.seq 2 [[I 14, I 19]]), .t (.seq 2 []), .t (.seq 2 []), .t (.seq 2 []), J 1, J 1, .t (.seq 5 [[I 1, I 1, I 0, I 0, .seq 5 el27]]), .bool false], .agg [J 15, J 0, J 0, J 0, J 0, .str 0 0, .str 0 0, .str 0 0, .t (.nilS)]], .tup [.agg [.tok 0 1 0 88, .t (.nilS), J 0, J 0, .bool false, J 24, J 2, .int .u32 (.ofNat 0xa0b4ea1a), .int .u32 (.ofNat 0xfcd9e230), .int .u32 (.ofNat 0xc147f66d), .int .u32 (.ofNat 0xa0816dc0), J 2, J 2, J 7, J 22, J 2, .int .u32 (.ofNat 0x24fffd77), .int .u32 (.ofNat 0x9a56d25), .int .u32 (.ofNat 0xec520d4e), .int .u32 (.ofNat 0x19c28e07), J 23, J 2, .int .u32 (.ofNat 0xff20000e), .int .u32 (.ofNat 0x8ce00370), .int .u32 (.ofNat 0x76006dc7), .int .u32 (.ofNat 0x96094640), J 0, J 0, .int .u32 (.ofNat 0), .int .u32 (.ofNat 0), .int .u32 (.ofNat 0), .int .u32 (.ofNat 0), J 0, .tok 1 2 0 2, .tok 2 2 0 1, .t (.nilS), .tok 3 2 0 0, J 2, J 2, .tok 4 5 0 1, .bool false], .agg [J 0, .str 0 0, J 0, J 0, J 0, J 0, .t (.nilS), J 2]], [.row 1 88 el57 false, .row 2 2 [[I 14, I 15], [I 19, I 25]] false, .row 2 1 [[I 15, I 19]] true, .row 2 0 [] false, .row 5 1 [[I 1, I 1, I 0, I 0, .seq 5 el27]] true]⟩]
theorem ec2_1_ok : chkP (eE2.orc 40) 14 ec2_1 = true := by kernel_rfl
/- palimp/play.Do, 47885 operations -/
def ec2_2 : List MP := [
  ⟨[.agg [.t (.seq 1 el57), .t (.nilS), J 0, J 0, .bool false, J 0, J 0, .int .u32 (.ofNat 0), .int .u32 (.ofNat 0), .int .u32 (.ofNat 0), .int .u32 (.ofNat 0), J 0, J 0, J 0, J 0, J 0, .int .u32 (.ofNat 0), .int .u32 (.ofNat 0), .int .u32 (.ofNat 0), .int .u32 (.ofNat 0), J 0, J 0, .int .u32 (.ofNat 0), .int .u32 (.ofNat 0), .int .u32 (.ofNat 0), .int .u32 (.ofNat 0), J 0, J 0, .int .u32 (.ofNat 0), .int .u32 (.ofNat 0), .int .u32 (.ofNat 0), .int .u32 (.ofNat 0), J 0, .t (.nilS), .t (.nilS), .t (.nilS), .t (.nilS), J 0, J 0, .t (.nilS), .bool false], .agg [J 18, J 0, J 0, J 0, J 0, .str 0 0, .str 0 0, .str 0 0, .t (.nilS)]], .tup [.agg [.tok 0 1 0 88, .tok 1 2 0 0, J 0, J 0, .bool false, J 24, J 2, .int .u32 (.ofNat 0xa0b4ea1a), .int .u32 (.ofNat 0xfcd9e230), .int .u32 (.ofNat 0xc147f66d), .int .u32 (.ofNat 0xa0816dc0), J 2, J 2, J 7, J 22, J 2, .int .u32 (.ofNat 0x24fffd77), .int .u32 (.ofNat 0x9a56d25), .int .u32 (.ofNat 0xec520d4e), .int .u32 (.ofNat 0x19c28e07), J 23, J 2, .int .u32 (.ofNat 0xff20000e), .int .u32 (.ofNat 0x8ce00370), .int .u32 (.ofNat 0x76006dc7), .int .u32 (.ofNat 0x96094640), J 0, J 0, .int .u32 (.ofNat 0), .int .u32 (.ofNat 0), .int .u32 (.ofNat 0), .int .u32 (.ofNat 0), J 0, .t (.seq 2 [[I 14, I 15], [I 19, I 25]]), .t (.seq 2 [[I 15, I 19]]), .t (.nilS), .t (.nilS), J 2, J 2, .t (.seq 5 [[I 1, I 1, I 0, I 0, .seq 5 el27]]), .bool false], .agg [J 0, .str 0 0, J 0, J 0, J 0, J 0, .t (.nilS), J 2]], [.row 1 88 el57 false, .row 2 0 [] false]⟩]
theorem ec2_2_ok : chkP (eE2.orc 40) 14 ec2_2 = true := by kernel_rfl
noncomputable def eM2 : Memo := ⟨[13, 14], [], [(13, ec2_0), (14, ec2_1), (14, ec2_2)]⟩
noncomputable def eE3 : Env := eE2.withM 40 eM2
theorem eE3_ok : EnvOk Proofs.Tryz.prog eE3 := withM_ok eE2_ok trivial ⟨ec2_0_ok, ec2_1_ok, ec2_2_ok, trivial⟩
theorem run_TopErrors0 : isS (eE3.scalN (eE3.orc 39) 3 []) (.bool true) = true := by kernel_rfl
theorem run_TopErrors : eE3.scalN (eE3.orc 39) 3 [] = some (.bool true) := isS_eq run_TopErrors0
end Go.Top
